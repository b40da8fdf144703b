/-
  SPECS 7: common divisors; fractions in lowest terms.
-/
import Derived.Test.YtfkidinbolmkiaaQbS6
import Derived.Test.YtfkidinbolmkiaaQbE5
import Derived.Test.YtfkidinbolmkiaaBw4
set_option linter.unusedSimpArgs false
set_option linter.unusedVariables false
set_option maxRecDepth 100000
namespace Go.Proofs.Bw.Qb
open Go.Proofs

theorem loop86 {n : Nat} : ∀ (f a b : Nat), b < f → L86_0 n f a b = some (U ((Nat.gcd b a : Nat) : Int))
  | 0, _, _, h => by omega
  | f + 1, a, b, h => by
    rw [show f + 1 = Nat.succ f from rfl, l86_0, natne]
    by_cases hb : b = 0
    · subst hb; rw [bif_neg (by simp)]; simp
    · rw [bif_pos (by simp [hb]), bif_neg (by exact decide_eq_false (by omega)), tmodN]
      have := Nat.mod_lt a (show 0 < b by omega)
      rw [loop86 f b (a % b) (by omega), ← Nat.gcd_rec]

theorem loop63 {n : Nat} : ∀ (f a b : Nat), b < f → L63_0 n f a b = some (I ((Nat.gcd b a : Nat) : Int))
  | 0, _, _, h => by omega
  | f + 1, a, b, h => by
    rw [show f + 1 = Nat.succ f from rfl, l63_0, natne]
    by_cases hb : b = 0
    · subst hb; rw [bif_neg (by simp)]; simp
    · rw [bif_pos (by simp [hb]), bif_neg (by exact decide_eq_false (by omega)), tmodN]
      have := Nat.mod_lt a (show 0 < b by omega)
      rw [loop63 f b (a % b) (by omega), ← Nat.gcd_rec]

/-- Much fuel. -/
def plenty : Nat := 680564733841876926926749214863536422912

theorem s86 {a b : Nat} (hb : b < 340282366920938463463374607431768211456) : Ev E plenty 86 [U a, U b] (U ((Nat.gcd b a : Nat) : Int)) := by
  refine Ev.mono (Ev.mk (c := 340282366920938463463374607431768211456) fun n hn => ?_) (by unfold plenty; omega)
  rw [e86]
  exact loop86 n a b (by omega)

theorem s63 {a b : Nat} (hb : b < 340282366920938463463374607431768211456) : Ev E plenty 63 [I a, I b] (I ((Nat.gcd b a : Nat) : Int)) := by
  refine Ev.mono (Ev.mk (c := 340282366920938463463374607431768211456) fun n hn => ?_) (by unfold plenty; omega)
  rw [e63]
  exact loop63 n a b (by omega)

def isM (x : Int) : Prop := -1099511627776 ≤ x ∧ x ≤ 1099511627776

theorem who1_iff {x : Int} : who1 x = true ↔ isM x := by simp [who1, isM]

def ratB (a b : Int) : Bool := who1 a && who1 b && (b != 0)

theorem ratB_iff {a b : Int} : ratB a b = true ↔ isM a ∧ isM b ∧ b ≠ 0 := by
  simp only [ratB, Bool.and_eq_true, who1_iff, bne_iff_ne, and_assoc]

theorem s57 (a b : Int) : Ev E 8 57 [.agg [I a, I b]] (.bool (ratB a b)) :=
  Ev.mk fun n hn => by
    have h := s70 [a, b] (by simp) n (by simp; omega)
    simp only [List.map_cons, List.map_nil, List.all_cons, List.all_nil, Bool.and_true] at h
    rw [e57, h]
    simp only [Option.bind_some, ok_bool, cond_true, toBool_bool, ratB]
    cases who1 a && who1 b <;> simp

theorem s59 (a b : Int) : Ev E 1 59 [.agg [I a, I b]] (.bool (ratB a b)) :=
  Ev.mk fun n hn => by
    rw [e59]
    simp only [ratB, who1]
    by_cases h : b = 0
    · subst h; simp
    · rw [bif_pos (by simp [h])]
      by_cases h1 : a ≥ -1099511627776 <;> by_cases h2 : a ≤ 1099511627776 <;> by_cases h3 : b ≥ -1099511627776 <;> by_cases h4 : b ≤ 1099511627776 <;> simp [h, h1, h2, h3, h4]

/-- A fraction in lowest terms. -/
def redT (a b : Int) : Tree := .agg [I (nm a b), I (dn a b)]

theorem tdiv_dvd {z : Int} {g : Nat} (h : (g : Int) ∣ z) : Int.tdiv z g = z / g := (Int.tdiv_eq_ediv_of_dvd h)

theorem nm_dvd {a b : Int} : (Nat.gcd b.natAbs a.natAbs : Int) ∣ (if b < 0 then -a else a) := by
  have h : (Nat.gcd b.natAbs a.natAbs : Int) ∣ a := Int.ofNat_dvd_left.2 (Nat.gcd_dvd_right _ _)
  split
  · exact Int.dvd_neg.2 h
  · exact h

theorem nm_abs_le {a b : Int} : (nm a b).natAbs ≤ a.natAbs := by
  unfold nm
  have h := nm_dvd (a := a) (b := b)
  have h1 := Int.natAbs_ediv_of_dvd h
  rw [h1]
  refine Nat.le_trans (Nat.div_le_self _ _) ?_
  split <;> omega

theorem dn_le {a b : Int} : dn a b ≤ b.natAbs := Nat.div_le_self _ _
theorem dn_pos {a b : Int} (hb : b ≠ 0) : 0 < dn a b := by rw [dn_eq]; exact dnN_pos (by omega)

theorem wN64 {m : Nat} (h : m ≤ 1099511627776) : IntKind.wrap .i64 (m : Int) = m := w64 (by omega)

theorem s58 {a b : Int} (ha : isM a) (hb : isM b) (h0 : b ≠ 0) : Ev E (plenty + 1) 58 [.agg [I a, I b]] (redT a b) :=
  Ev.mk fun n hn => by
    unfold isM at ha hb
    have hpl : 10 ≤ n := by unfold plenty at hn; omega
    have g0 : 0 < Nat.gcd b.natAbs a.natAbs := Nat.gcd_pos_of_pos_left _ (by omega)
    have g1 : Nat.gcd b.natAbs a.natAbs ≤ b.natAbs := Nat.le_of_dvd (by omega) (Nat.gcd_dvd_left _ _)
    have h85 : evP E n 85 [.agg [I a, I b]] = some (.tup [I (if b < 0 then -a else a), I b.natAbs]) := by
      have : Ev E 1 85 [.agg [I a, I b]] (.tup [I (if b < 0 then -a else a), I b.natAbs]) := Ev.mk fun k _ => by
        rw [e85]
        by_cases hn : b < 0
        · rw [bif_pos (by exact decide_eq_true hn), if_pos hn, w64 (by omega), w64 (by omega), Int.zero_sub, Int.zero_sub, show -b = (b.natAbs : Int) by omega]
        · rw [bif_neg (by exact decide_eq_false hn), if_neg hn]
          rw [show b = (b.natAbs : Int) by omega]; simp
      exact this n (by omega)
    have ha' : (if b < 0 then -a else a).natAbs = a.natAbs := by split <;> omega
    have c1 := s83 (z := if b < 0 then -a else a) (by split <;> omega) n (by omega)
    have c2 := s83 (z := (b.natAbs : Int)) (by omega) n (by omega)
    rw [ha'] at c1
    rw [Int.natAbs_natCast] at c2
    have c3 := s86 (a := a.natAbs) (b := b.natAbs) (by omega) n hn
    rw [e58, h85]
    simp only [Option.bind_some, ok_tup, oks_cons, ok_int, oks_nil, Bool.and_true, cond_true, tupl_tup, List.headD_cons, List.tail_cons, toInt_int]
    rw [c1, c2]
    simp only [Option.bind_some, ok_int, cond_true, toInt_int]
    rw [c3]
    simp only [Option.bind_some, ok_int, cond_true, toInt_int]
    have wg : IntKind.wrap .i64 ((Nat.gcd b.natAbs a.natAbs : Nat) : Int) = (Nat.gcd b.natAbs a.natAbs : Nat) := w64 (by omega)
    simp only [wg]
    rw [bif_neg (by exact decide_eq_false (by omega)), bif_neg (by exact decide_eq_false (by omega)), tdiv_dvd nm_dvd, tdivN]
    have e1 := nm_abs_le (a := a) (b := b)
    have e2 := dn_le (a := a) (b := b)
    unfold redT
    unfold nm at e1 ⊢
    unfold dn at e2 ⊢
    rw [w64 (by omega), wN64 (Nat.le_trans e2 (by omega))]

theorem s60 {a b : Int} (ha : isM a) (hb : isM b) (h0 : b ≠ 0) : Ev E (plenty + 1) 60 [.agg [I a, I b]] (redT a b) :=
  Ev.mk fun n hn => by
    unfold isM at ha hb
    have hpl : 10 ≤ n := by unfold plenty at hn; omega
    have g0 : 0 < Nat.gcd b.natAbs a.natAbs := Nat.gcd_pos_of_pos_left _ (by omega)
    have g1 : Nat.gcd b.natAbs a.natAbs ≤ b.natAbs := Nat.le_of_dvd (by omega) (Nat.gcd_dvd_left _ _)
    have e1 := nm_abs_le (a := a) (b := b)
    have e2 := dn_le (a := a) (b := b)
    have hd := nm_dvd (a := a) (b := b)
    rw [e60]
    unfold redT
    unfold nm at e1 ⊢
    unfold dn at e2 ⊢
    have c3 := s63 (a := a.natAbs) (b := b.natAbs) (by omega) n hn
    have wa : IntKind.wrap .i64 ((a.natAbs : Nat) : Int) = a.natAbs := w64 (by omega)
    by_cases hn : b < 0
    · rw [if_pos hn] at e1 hd ⊢
      have c1 := s84 (z := -a) (by omega) n (by omega)
      rw [Int.natAbs_neg] at c1
      have wb : IntKind.wrap .i64 (0 - b) = (b.natAbs : Int) := by rw [w64 (by omega)]; omega
      have wz : IntKind.wrap .i64 (0 - a) = -a := by rw [w64 (by omega)]; omega
      rw [bif_pos (by exact decide_eq_true hn)]
      simp only [wb, wz]
      rw [c1]
      simp only [Option.bind_some, ok_int, cond_true, toInt_int, wa]
      rw [c3]
      simp only [Option.bind_some, ok_int, cond_true, toInt_int]
      rw [bif_neg (by exact decide_eq_false (by omega)), bif_neg (by exact decide_eq_false (by omega)), tdiv_dvd hd, tdivN, w64 (by omega), wN64 (Nat.le_trans e2 (by omega))]
    · rw [if_neg hn] at e1 hd ⊢
      have c1 := s84 (z := a) (by omega) n (by omega)
      have hbb : (b.natAbs : Int) = b := by omega
      rw [hbb] at c3
      rw [bif_neg (by exact decide_eq_false hn), c1]
      simp only [Option.bind_some, ok_int, cond_true, toInt_int, wa]
      rw [c3]
      simp only [Option.bind_some, ok_int, cond_true, toInt_int]
      rw [bif_neg (by exact decide_eq_false (by omega)), bif_neg (by exact decide_eq_false (by omega)), tdiv_dvd hd]
      have hq : Int.tdiv b ((Nat.gcd b.natAbs a.natAbs : Nat) : Int) = ((b.natAbs / Nat.gcd b.natAbs a.natAbs : Nat) : Int) := by
        rw [← tdivN, hbb]
      rw [hq, w64 (by omega), wN64 (Nat.le_trans e2 (by omega))]

end Go.Proofs.Bw.Qb
