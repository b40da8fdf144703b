/-
  SPECS 9: rationals, the program's and the reference's.
-/
import Derived.Test.YtfkidinbolmkiaaQbS8
set_option linter.unusedSimpArgs false
set_option linter.unusedVariables false
set_option maxRecDepth 100000
namespace Go.Proofs.Bw.Qb
open Go.Proofs

def noRat : Tree := .tup [.agg [I 0, I 0], I 4]

def normR (a b : Int) : Tree := bif ratB a b then .tup [redT a b, I 0] else noRat
def invR (a b : Int) : Tree := bif ratB a b then (bif a == 0 then .tup [.agg [I 0, I 0], I 230] else .tup [redT b a, I 0]) else noRat
def addR (a b c d : Int) : Tree := bif ratB a b && ratB c d then lowT (nm a b * dn c d + nm c d * dn a b) (dn a b * dn c d) else noRat
def mulR (a b c d : Int) : Tree := bif ratB a b && ratB c d then lowT (nm a b * nm c d) (dn a b * dn c d) else noRat
def leqR (a b c d : Int) : Tree := bif ratB a b && ratB c d then .tup [.bool (decide (nm a b * dn c d ≤ nm c d * dn a b)), I 0] else .tup [.bool false, I 4]

theorem lowT_form (z : Int) (d : Nat) : ∃ a b e, lowT z d = .tup [.agg [I a, I b], I e] := by
  unfold lowT; split
  · exact ⟨_, _, _, rfl⟩
  · exact ⟨_, _, _, rfl⟩

theorem tup_look {T : Tree} (h : ∃ a b e, T = .tup [.agg [I a, I b], I e]) : (bif Sh.ok (Sh.tup [Sh.agg [Sh.int IntKind.i64, Sh.int IntKind.i64], Sh.int IntKind.i64]) T then
          some
            (Tree.tup
              [Tree.agg
                  [Tree.int IntKind.i64 (Tree.toInt (List.headD (Tree.cs (List.headD (Tree.tupl T) (Tree.bool false))) (Tree.bool false))),
                    Tree.int IntKind.i64 (Tree.toInt (List.headD (List.tail (Tree.cs (List.headD (Tree.tupl T) (Tree.bool false)))) (Tree.bool false)))],
                Tree.int IntKind.i64 (Tree.toInt (List.headD (List.tail (Tree.tupl T)) (Tree.bool false)))])
        else none) = some T := by
  obtain ⟨a, b, e, rfl⟩ := h
  simp

theorem nm_M {a b : Int} (ha : isM a) : isM (nm a b) := by
  have := nm_abs_le (a := a) (b := b)
  unfold isM at ha ⊢
  omega
theorem dn_M {a b : Int} (hb : isM b) : dn a b ≤ 1099511627776 := by
  have := dn_le (a := a) (b := b)
  unfold isM at hb
  omega

theorem mulM {x y : Int} (hx : isM x) (hy : isM y) : (x * y).natAbs ≤ 1208925819614629174706176 := by
  unfold isM at hx hy
  rw [Int.natAbs_mul]
  exact Nat.le_trans (Nat.mul_le_mul (show x.natAbs ≤ 1099511627776 by omega) (show y.natAbs ≤ 1099511627776 by omega)) (by omega)

theorem isM_N {n : Nat} (h : n ≤ 1099511627776) : isM (n : Int) := by unfold isM; omega
theorem isM_isN {x : Int} (h : isM x) : isN x := by unfold isM at h; unfold isN; omega

theorem s23 (a b : Int) : Ev E (plenty + 2) 23 [.agg [I a, I b]] (normR a b) :=
  Ev.mk fun n hn => by
    have hpl : 10 ≤ n := by unfold plenty at hn; omega
    rw [e23, s57 a b n (by omega)]
    simp only [Option.bind_some, ok_bool, cond_true, toBool_bool, normR]
    cases h : ratB a b with
    | false => rfl
    | true =>
      obtain ⟨h1, h2, h3⟩ := ratB_iff.1 h
      rw [Bool.not_true, cond_false, s58 h1 h2 h3 n (by omega)]
      simp [redT]

theorem s24 (a b : Int) : Ev E (plenty + 2) 24 [.agg [I a, I b]] (normR a b) :=
  Ev.mk fun n hn => by
    have hpl : 10 ≤ n := by unfold plenty at hn; omega
    rw [e24, s59 a b n (by omega)]
    simp only [Option.bind_some, ok_bool, cond_true, toBool_bool, normR]
    cases h : ratB a b with
    | false => rfl
    | true =>
      obtain ⟨h1, h2, h3⟩ := ratB_iff.1 h
      rw [Bool.not_true, cond_false, s60 h1 h2 h3 n (by omega)]
      simp [redT]

theorem s29 (a b : Int) : Ev E (plenty + 2) 29 [.agg [I a, I b]] (invR a b) :=
  Ev.mk fun n hn => by
    have hpl : 10 ≤ n := by unfold plenty at hn; omega
    rw [e29, s57 a b n (by omega)]
    simp only [Option.bind_some, ok_bool, cond_true, toBool_bool, invR]
    cases h : ratB a b with
    | false => rfl
    | true =>
      obtain ⟨h1, h2, h3⟩ := ratB_iff.1 h
      rw [Bool.not_true, cond_false, cond_true]
      by_cases h0 : a = 0
      · rw [bif_pos (by simp [h0]), bif_pos (by simp [h0])]
      · rw [bif_neg (by simp [h0]), bif_neg (by simp [h0]), s58 h2 h1 h0 n (by omega)]
        simp [redT]

theorem s30 (a b : Int) : Ev E (plenty + 2) 30 [.agg [I a, I b]] (invR a b) :=
  Ev.mk fun n hn => by
    have hpl : 10 ≤ n := by unfold plenty at hn; omega
    rw [e30, s59 a b n (by omega)]
    simp only [Option.bind_some, ok_bool, cond_true, toBool_bool, invR]
    cases h : ratB a b with
    | false => rfl
    | true =>
      obtain ⟨h1, h2, h3⟩ := ratB_iff.1 h
      rw [Bool.not_true, cond_false, cond_true]
      by_cases h0 : a = 0
      · rw [bif_pos (by simp [h0]), bif_pos (by simp [h0])]
      · rw [bif_neg (by simp [h0]), bif_neg (by simp [h0]), s60 h2 h1 h0 n (by omega)]
        simp [redT]

theorem t51 {x y : Int} (hx : isM x) (hy : isM y) {n : Nat} (hn : 10 ≤ n) : evP (Tab.env tab) n 51 [.int .i64 x, .int .i64 y] = some (.agg [.bool (decide (x * y < 0)), .int .u64 (Hi (x * y).natAbs), .int .u64 (Lo (x * y).natAbs)]) :=
  s51 (isM_isN hx) (isM_isN hy) n (by omega)
theorem t55 {x y : Int} (hx : isM x) (hy : isM y) {n : Nat} (hn : 10 ≤ n) : evP (Tab.env tab) n 55 [.int .i64 x, .int .i64 y] = some (.agg [.bool (decide (x * y < 0)), .int .u64 (Hi (x * y).natAbs), .int .u64 (Lo (x * y).natAbs)]) :=
  s55 (isM_isN hx) (isM_isN hy) n (by omega)

theorem t62 {x y : Int} (hx : x.natAbs ≤ 1208925819614629174706176) (hy : y.natAbs ≤ 1208925819614629174706176) {n : Nat} (hn : 10 ≤ n) :
    evP (Tab.env tab) n 62 [.agg [.bool (decide (x < 0)), .int .u64 (Hi x.natAbs), .int .u64 (Lo x.natAbs)], .agg [.bool (decide (y < 0)), .int .u64 (Hi y.natAbs), .int .u64 (Lo y.natAbs)]] =
      some (.agg [.bool (decide (x + y < 0)), .int .u64 (Hi (x + y).natAbs), .int .u64 (Lo (x + y).natAbs)]) := by
  have h := s62 (na := decide (x < 0)) (nb := decide (y < 0)) (a := x.natAbs) (b := y.natAbs) (by omega) n (by omega)
  rw [plusT_wide] at h
  exact h
theorem t64 {x y : Int} (hx : x.natAbs ≤ 1208925819614629174706176) (hy : y.natAbs ≤ 1208925819614629174706176) {n : Nat} (hn : 10 ≤ n) :
    evP (Tab.env tab) n 64 [.agg [.bool (decide (x < 0)), .int .u64 (Hi x.natAbs), .int .u64 (Lo x.natAbs)], .agg [.bool (decide (y < 0)), .int .u64 (Hi y.natAbs), .int .u64 (Lo y.natAbs)]] =
      some (.agg [.bool (decide (x + y < 0)), .int .u64 (Hi (x + y).natAbs), .int .u64 (Lo (x + y).natAbs)]) := by
  have h := s64 (na := decide (x < 0)) (nb := decide (y < 0)) (a := x.natAbs) (b := y.natAbs) (by omega) n (by omega)
  rw [plusT_wide] at h
  exact h

theorem t61 {z : Int} {d e : Nat} (hz : z.natAbs ≤ 2417851639229258349412352) (hd : 0 < d) (he : 0 < e) (hd2 : d ≤ 1099511627776) (he2 : e ≤ 1099511627776) {n : Nat} (hn : plenty ≤ n) :
    evP (Tab.env tab) n 61 [.agg [.bool (decide (z < 0)), .int .u64 (Hi z.natAbs), .int .u64 (Lo z.natAbs)], .agg [.bool (decide ((d : Int) * (e : Int) < 0)), .int .u64 (Hi ((d : Int) * (e : Int)).natAbs), .int .u64 (Lo ((d : Int) * (e : Int)).natAbs)]] = some (lowT z (d * e)) := by
  have hde : d * e ≤ 1099511627776 * 1099511627776 := Nat.mul_le_mul hd2 he2
  have h := s61 (z := z) (d := d * e) (by omega) (Nat.mul_pos hd he) (by omega) n hn
  rw [Int.natCast_mul] at h
  exact h

theorem s25 (a b c d : Int) : Ev E (plenty + 2) 25 [.agg [I a, I b], .agg [I c, I d]] (addR a b c d) :=
  Ev.mk fun n hn => by
    have hpl : 10 ≤ n := by unfold plenty at hn; omega
    rw [e25, s57 a b n (by omega)]
    simp only [Option.bind_some, ok_bool, cond_true, toBool_bool, addR]
    cases h : ratB a b with
    | false => rfl
    | true =>
    rw [Bool.not_true, cond_false, s57 c d n (by omega)]
    simp only [Option.bind_some, ok_bool, cond_true, toBool_bool]
    cases h' : ratB c d with
    | false => rfl
    | true =>
    obtain ⟨h1, h2, h3⟩ := ratB_iff.1 h
    obtain ⟨k1, k2, k3⟩ := ratB_iff.1 h'
    have r1 : evP (Tab.env tab) n 58 [.agg [.int .i64 a, .int .i64 b]] = some (.agg [.int .i64 (nm a b), .int .i64 (dn a b)]) := s58 h1 h2 h3 n (by omega)
    have r2 : evP (Tab.env tab) n 58 [.agg [.int .i64 c, .int .i64 d]] = some (.agg [.int .i64 (nm c d), .int .i64 (dn c d)]) := s58 k1 k2 k3 n (by omega)
    have m1 := nm_M (b := b) h1
    have m2 := nm_M (b := d) k1
    have m3 := isM_N (dn_M (a := a) h2)
    have m4 := isM_N (dn_M (a := c) k2)
    have x1 := mulM m1 m4
    have x2 := mulM m2 m3
    have q1 := t51 m1 m4 hpl
    have q2 := t51 m2 m3 hpl
    have q3 := t51 m3 m4 hpl
    have q4 := t62 x1 x2 hpl
    have q5 := t61 (z := nm a b * dn c d + nm c d * dn a b) (d := dn a b) (e := dn c d) (by omega) (dn_pos h3) (dn_pos k3) (dn_M h2) (dn_M k2) (show plenty ≤ n by omega)
    simp only [r1, r2, q1, q2, q3, q4, q5, Option.bind_some, ok_agg, oks_cons, ok_int, ok_bool, oks_nil, Bool.and_true, Bool.and_self, cond_true, cond_false, Bool.not_true, cs_agg, List.headD_cons, List.tail_cons, toInt_int, toBool_bool]
    exact tup_look (lowT_form _ _)

theorem s27 (a b c d : Int) : Ev E (plenty + 2) 27 [.agg [I a, I b], .agg [I c, I d]] (mulR a b c d) :=
  Ev.mk fun n hn => by
    have hpl : 10 ≤ n := by unfold plenty at hn; omega
    rw [e27, s57 a b n (by omega)]
    simp only [Option.bind_some, ok_bool, cond_true, toBool_bool, mulR]
    cases h : ratB a b with
    | false => rfl
    | true =>
    rw [Bool.not_true, cond_false, s57 c d n (by omega)]
    simp only [Option.bind_some, ok_bool, cond_true, toBool_bool]
    cases h' : ratB c d with
    | false => rfl
    | true =>
    obtain ⟨h1, h2, h3⟩ := ratB_iff.1 h
    obtain ⟨k1, k2, k3⟩ := ratB_iff.1 h'
    have r1 : evP (Tab.env tab) n 58 [.agg [.int .i64 a, .int .i64 b]] = some (.agg [.int .i64 (nm a b), .int .i64 (dn a b)]) := s58 h1 h2 h3 n (by omega)
    have r2 : evP (Tab.env tab) n 58 [.agg [.int .i64 c, .int .i64 d]] = some (.agg [.int .i64 (nm c d), .int .i64 (dn c d)]) := s58 k1 k2 k3 n (by omega)
    have m1 := nm_M (b := b) h1
    have m2 := nm_M (b := d) k1
    have m3 := isM_N (dn_M (a := a) h2)
    have m4 := isM_N (dn_M (a := c) k2)
    have x1 := mulM m1 m2
    have q1 := t51 m1 m2 hpl
    have q3 := t51 m3 m4 hpl
    have q5 := t61 (z := nm a b * nm c d) (d := dn a b) (e := dn c d) (by omega) (dn_pos h3) (dn_pos k3) (dn_M h2) (dn_M k2) (show plenty ≤ n by omega)
    simp only [r1, r2, q1, q3, q5, Option.bind_some, ok_agg, oks_cons, ok_int, ok_bool, oks_nil, Bool.and_true, Bool.and_self, cond_true, cond_false, Bool.not_true, cs_agg, List.headD_cons, List.tail_cons, toInt_int, toBool_bool]
    exact tup_look (lowT_form _ _)

theorem plusT_leq {x y : Int} : ∃ neg m, plusT (decide (x < 0)) (!decide (y < 0)) x.natAbs y.natAbs = wideP neg m ∧ m ≤ x.natAbs + y.natAbs ∧ (neg || decide (m = 0)) = decide (x ≤ y) := by
  unfold plusT
  by_cases hx : x < 0 <;> by_cases hy : y < 0
  · rw [decide_eq_true hx, decide_eq_true hy, if_neg (by decide)]
    by_cases h : x.natAbs < y.natAbs
    · rw [if_pos h]; exact ⟨_, _, rfl, by omega, by rw [Bool.not_true, Bool.false_and, Bool.false_or]; exact decide_eq_decide.2 (by omega)⟩
    · rw [if_neg h]; exact ⟨_, _, rfl, by omega, by rw [Bool.true_and]; by_cases e : x.natAbs - y.natAbs = 0 <;> simp [e] <;> omega⟩
  · rw [decide_eq_true hx, decide_eq_false hy, if_pos (by rfl)]
    exact ⟨_, _, rfl, by omega, by rw [Bool.true_or, decide_eq_true (by omega)]⟩
  · rw [decide_eq_false hx, decide_eq_true hy, if_pos (by rfl)]
    exact ⟨_, _, rfl, by omega, by rw [Bool.false_or]; exact decide_eq_decide.2 (by omega)⟩
  · rw [decide_eq_false hx, decide_eq_false hy, if_neg (by decide)]
    by_cases h : x.natAbs < y.natAbs
    · rw [if_pos h]; exact ⟨_, _, rfl, by omega, by rw [Bool.not_false, Bool.true_and, decide_eq_true (show y.natAbs - x.natAbs ≠ 0 by omega), Bool.true_or, decide_eq_true (show x ≤ y by omega)]⟩
    · rw [if_neg h]; exact ⟨_, _, rfl, by omega, by rw [Bool.false_and, Bool.false_or]; exact decide_eq_decide.2 (by omega)⟩

theorem s31 (a b c d : Int) : Ev E (plenty + 2) 31 [.agg [I a, I b], .agg [I c, I d]] (leqR a b c d) :=
  Ev.mk fun n hn => by
    have hpl : 10 ≤ n := by unfold plenty at hn; omega
    rw [e31, s57 a b n (by omega)]
    simp only [Option.bind_some, ok_bool, cond_true, toBool_bool, leqR]
    cases h : ratB a b with
    | false => rfl
    | true =>
    rw [Bool.not_true, cond_false, s57 c d n (by omega)]
    simp only [Option.bind_some, ok_bool, cond_true, toBool_bool]
    cases h' : ratB c d with
    | false => rfl
    | true =>
    obtain ⟨h1, h2, h3⟩ := ratB_iff.1 h
    obtain ⟨k1, k2, k3⟩ := ratB_iff.1 h'
    have r1 : evP (Tab.env tab) n 58 [.agg [.int .i64 a, .int .i64 b]] = some (.agg [.int .i64 (nm a b), .int .i64 (dn a b)]) := s58 h1 h2 h3 n (by omega)
    have r2 : evP (Tab.env tab) n 58 [.agg [.int .i64 c, .int .i64 d]] = some (.agg [.int .i64 (nm c d), .int .i64 (dn c d)]) := s58 k1 k2 k3 n (by omega)
    have m1 := nm_M (b := b) h1
    have m2 := nm_M (b := d) k1
    have m3 := isM_N (dn_M (a := a) h2)
    have m4 := isM_N (dn_M (a := c) k2)
    have x1 := mulM m1 m4
    have x2 := mulM m2 m3
    have q1 := t51 m1 m4 hpl
    have q2 := t51 m2 m3 hpl
    simp only [r1, r2, q1, q2, Option.bind_some, ok_agg, oks_cons, ok_int, ok_bool, oks_nil, Bool.and_true, Bool.and_self, cond_true, cond_false, Bool.not_true, cs_agg, List.headD_cons, List.tail_cons, toInt_int, toBool_bool]
    generalize nm a b * (dn c d : Int) = x at *
    generalize nm c d * (dn a b : Int) = y at *
    obtain ⟨neg, m, e1, e2, e3⟩ := plusT_leq (x := x) (y := y)
    have q4 := s62 (na := decide (x < 0)) (nb := !decide (y < 0)) (a := x.natAbs) (b := y.natAbs) (by omega) n (by omega)
    rw [e1, wideP_eq, wideP_eq, wideP_eq] at q4
    rw [q4]
    have hne := ne_words (m := m) (by omega)
    simp only [Option.bind_some, ok_agg, oks_cons, ok_int, ok_bool, oks_nil, Bool.and_true, Bool.and_self, cond_true, cond_false, Bool.not_true, cs_agg, List.headD_cons, List.tail_cons, toInt_int, toBool_bool, gate_eq]
    rw [← e3]
    cases neg with
    | true => rfl
    | false =>
      rw [cond_false, Bool.false_or]
      congr 4
      by_cases hm : m = 0
      · rw [decide_eq_true hm]
        rw [decide_eq_false (show ¬ m ≠ 0 by omega)] at hne
        simpa [bne] using hne
      · rw [decide_eq_false hm]
        rw [decide_eq_true (show m ≠ 0 by omega)] at hne
        simpa [bne] using hne

theorem s32 (a b c d : Int) : Ev E (plenty + 2) 32 [.agg [I a, I b], .agg [I c, I d]] (leqR a b c d) :=
  Ev.mk fun n hn => by
    have hpl : 10 ≤ n := by unfold plenty at hn; omega
    rw [e32, s59 a b n (by omega)]
    simp only [Option.bind_some, ok_bool, cond_true, toBool_bool, leqR]
    cases h : ratB a b with
    | false => rfl
    | true =>
    rw [Bool.not_true, cond_false, s59 c d n (by omega)]
    simp only [Option.bind_some, ok_bool, cond_true, toBool_bool]
    cases h' : ratB c d with
    | false => rfl
    | true =>
    obtain ⟨h1, h2, h3⟩ := ratB_iff.1 h
    obtain ⟨k1, k2, k3⟩ := ratB_iff.1 h'
    have r1 : evP (Tab.env tab) n 60 [.agg [.int .i64 a, .int .i64 b]] = some (.agg [.int .i64 (nm a b), .int .i64 (dn a b)]) := s60 h1 h2 h3 n (by omega)
    have r2 : evP (Tab.env tab) n 60 [.agg [.int .i64 c, .int .i64 d]] = some (.agg [.int .i64 (nm c d), .int .i64 (dn c d)]) := s60 k1 k2 k3 n (by omega)
    have m1 := nm_M (b := b) h1
    have m2 := nm_M (b := d) k1
    have m2' : isM (-nm c d) := by unfold isM at m2 ⊢; omega
    have m3 := isM_N (dn_M (a := a) h2)
    have m4 := isM_N (dn_M (a := c) k2)
    have x1 := mulM m1 m4
    have x2 := mulM m2' m3
    have q1 := t55 m1 m4 hpl
    have q2 := t55 m2' m3 hpl
    have q4 := t64 x1 x2 hpl
    have wn : IntKind.wrap .i64 (0 - nm c d) = -nm c d := by unfold isM at m2; rw [w64 (by omega)]; omega
    simp only [r1, r2, wn, q1, q2, q4, Option.bind_some, ok_agg, oks_cons, ok_int, ok_bool, oks_nil, Bool.and_true, Bool.and_self, cond_true, cond_false, Bool.not_true, cs_agg, List.headD_cons, List.tail_cons, toInt_int, toBool_bool]
    have e : nm a b * (dn c d : Int) + -nm c d * (dn a b : Int) = nm a b * dn c d - nm c d * dn a b := by rw [Int.neg_mul]; omega
    rw [e]
    generalize nm a b * (dn c d : Int) = x at *
    generalize nm c d * (dn a b : Int) = y at *
    by_cases hxy : x - y < 0
    · rw [bif_pos (by exact decide_eq_true hxy), decide_eq_true (show x ≤ y by omega)]
    · rw [bif_neg (by exact decide_eq_false hxy)]
      have pn : (Hi (x - y).natAbs != 0 || Lo (x - y).natAbs != 0) = decide ((x - y).natAbs ≠ 0) := parts_ne
      by_cases h0 : x = y
      · subst h0
        rw [Int.sub_self]
        rw [bif_pos (by rfl), decide_eq_true (Int.le_refl _)]
        rfl
      · rw [decide_eq_true (show (x - y).natAbs ≠ 0 by omega)] at pn
        rw [decide_eq_false (show ¬ x ≤ y by omega)]
        by_cases hh : Hi (x - y).natAbs = 0
        · rw [bif_pos (by simp [hh])]
          have : ¬ Lo (x - y).natAbs = 0 := by simpa [hh] using pn
          simp [this]
        · rw [bif_neg (by simp [hh])]

end Go.Proofs.Bw.Qb
