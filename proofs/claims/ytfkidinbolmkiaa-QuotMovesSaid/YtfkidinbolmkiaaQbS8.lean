/-
  SPECS 8: quotients of great numbers in lowest terms; the reference's.
-/
import Derived.Test.YtfkidinbolmkiaaQbS7
set_option linter.unusedSimpArgs false
set_option linter.unusedVariables false
set_option maxRecDepth 100000
namespace Go.Proofs.Bw.Qb
open Go.Proofs

theorem wideT_eq (z : Int) : wideT z = .agg [.bool (decide (z < 0)), .int .u64 (Hi z.natAbs), .int .u64 (Lo z.natAbs)] := rfl

theorem plusT_wide {x y : Int} : plusT (decide (x < 0)) (decide (y < 0)) x.natAbs y.natAbs = wideT (x + y) := by
  unfold plusT wideT
  by_cases hx : x < 0 <;> by_cases hy : y < 0
  · rw [decide_eq_true hx, decide_eq_true hy, if_pos rfl, decide_eq_true (show x + y < 0 by omega), show x.natAbs + y.natAbs = (x + y).natAbs by omega]
  · rw [decide_eq_true hx, decide_eq_false hy, if_neg (by decide)]
    by_cases h : x.natAbs < y.natAbs
    · rw [if_pos h, Bool.false_and, decide_eq_false (show ¬ x + y < 0 by omega), show y.natAbs - x.natAbs = (x + y).natAbs by omega]
    · rw [if_neg h, Bool.true_and, show x.natAbs - y.natAbs = (x + y).natAbs by omega]
      by_cases h0 : (x + y).natAbs = 0
      · rw [decide_eq_false (by omega), decide_eq_false (by omega)]
      · rw [decide_eq_true h0, decide_eq_true (show x + y < 0 by omega)]
  · rw [decide_eq_false hx, decide_eq_true hy, if_neg (by decide)]
    by_cases h : x.natAbs < y.natAbs
    · rw [if_pos h, Bool.true_and, show y.natAbs - x.natAbs = (x + y).natAbs by omega, decide_eq_true (show (x + y).natAbs ≠ 0 by omega), decide_eq_true (show x + y < 0 by omega)]
    · rw [if_neg h, Bool.false_and, decide_eq_false (show ¬ x + y < 0 by omega), show x.natAbs - y.natAbs = (x + y).natAbs by omega]
  · rw [decide_eq_false hx, decide_eq_false hy, if_pos rfl, decide_eq_false (show ¬ x + y < 0 by omega), show x.natAbs + y.natAbs = (x + y).natAbs by omega]

theorem wide_div {z : Int} {h : Nat} (hp : 0 < h) (hd : (h : Int) ∣ z) : wideP (decide (z < 0) && decide (z.natAbs / h ≠ 0)) (z.natAbs / h) = wideT (z / h) := by
  obtain ⟨w, rfl⟩ := hd
  rw [Int.mul_ediv_cancel_left _ (by omega), Int.natAbs_mul, Int.natAbs_natCast, Nat.mul_div_cancel_left _ hp]
  unfold wideT
  have : decide ((h : Int) * w < 0) = decide (w < 0) := by
    refine decide_eq_decide.2 ⟨fun q => ?_, fun q => Int.mul_neg_of_pos_of_neg (by omega) q⟩
    by_cases hw : w < 0
    · exact hw
    · have := Int.mul_nonneg (show (0 : Int) ≤ h by omega) (show 0 ≤ w by omega)
      omega
  rw [this]
  by_cases hw : w < 0
  · rw [decide_eq_true hw, decide_eq_true (show w.natAbs ≠ 0 by omega)]; rfl
  · rw [decide_eq_false hw]; rfl

/-- A fraction z / d in lowest terms, unless it is too great. -/
def lowT (z : Int) (d : Nat) : Tree :=
  if (nmN z d).natAbs ≤ 1099511627776 ∧ dnN z d ≤ 1099511627776 then .tup [.agg [I (nmN z d), I (dnN z d)], I 0] else .tup [.agg [I 0, I 0], I 2]

theorem lowT_eq {z w : Int} {d e : Nat} (hd : 0 < d) (he : 0 < e) (h : z * e = w * d) : lowT z d = lowT w e := by
  unfold lowT
  rw [(lowN_eq hd he h).1, (lowN_eq hd he h).2]

theorem nmN_zero {d : Nat} : nmN 0 d = 0 := by unfold nmN; exact Int.zero_ediv _
theorem dnN_zero {d : Nat} (hd : 0 < d) : dnN 0 d = 1 := by unfold dnN; simp [Nat.div_self hd]

theorem loop61 {n : Nat} {z : Int} {d : Nat} {j1 j2 : Int} (hn : 150 ≤ n) (hz : z.natAbs ≤ 85070591730234615865843651857942052864) (hd0 : 0 < d) (hd : d ≤ 85070591730234615865843651857942052864) :
    ∀ (f a b : Nat) (na nb : Bool), b < f → a ≤ 85070591730234615865843651857942052864 → b ≤ 85070591730234615865843651857942052864 → Nat.gcd b a = Nat.gcd d z.natAbs →
    L61_0 n f (decide (z < 0)) (Hi z.natAbs) (Lo z.natAbs) false (Hi d) (Lo d) j1 j2 na (Hi a) (Lo a) nb (Hi b) (Lo b) = some (lowT z d)
  | 0, _, _, _, _, h, _, _, _ => by omega
  | f + 1, a, b, na, nb, h, ha, hb, hg => by
    rw [show f + 1 = Nat.succ f from rfl, l61_0]
    simp only [gate_eq]
    rw [ne_words (m := b) (by omega)]
    by_cases hb0 : b = 0
    · subst hb0
      rw [Nat.gcd_zero_left] at hg
      have ha0 : 0 < a := by rw [hg]; exact gcd_pos hd0
      rw [bif_neg (by simp)]
      have h1 := s88 (A := z.natAbs) (B := a) (decide (z < 0)) na (by omega) ha0 ha n (by omega)
      have hdv : ((a : Nat) : Int) ∣ z := by rw [hg]; exact Int.ofNat_dvd_left.2 (Nat.gcd_dvd_right _ _)
      rw [wide_div ha0 hdv, wideP_eq, wideP_eq, wideT_eq] at h1
      have h2 := s88 (A := d) (B := a) false na (by omega) ha0 ha n (by omega)
      rw [Bool.false_and, wideP_eq, wideP_eq, wideP_eq] at h2
      have h3 := s52 (z / a) n (by omega)
      rw [wideT_eq] at h3
      have h4 := s52 ((d / a : Nat) : Int) n (by omega)
      rw [wideT_eq, Int.natAbs_natCast, decide_eq_false (show ¬ ((d / a : Nat) : Int) < 0 from Int.not_lt.2 (Int.natCast_nonneg _))] at h4
      rw [h1, h2]
      simp only [Option.bind_some, ok_agg, oks_cons, ok_int, ok_bool, oks_nil, Bool.and_true, Bool.and_self, cond_true, cs_agg, List.headD_cons, List.tail_cons, toInt_int, toBool_bool]
      rw [h3, h4]
      have e1 : nmN z d = z / a := by unfold nmN; rw [← hg]
      have e2 : dnN z d = d / a := by unfold dnN; rw [← hg]
      unfold lowT
      rw [e1, e2]
      generalize z / (a : Int) = x at *
      generalize d / a = y at *
      unfold smallT
      by_cases hx : x < -1099511627776 ∨ x > 1099511627776
      · rw [if_pos hx, if_neg (show ¬ (x.natAbs ≤ 1099511627776 ∧ y ≤ 1099511627776) by omega)]
        by_cases hy : (y : Int) < -1099511627776 ∨ (y : Int) > 1099511627776
        · rw [if_pos hy]; rfl
        · rw [if_neg hy]; rfl
      · rw [if_neg hx]
        by_cases hy : (y : Int) < -1099511627776 ∨ (y : Int) > 1099511627776
        · rw [if_pos hy, if_neg (show ¬ (x.natAbs ≤ 1099511627776 ∧ y ≤ 1099511627776) by omega)]; rfl
        · rw [if_neg hy, if_pos (show x.natAbs ≤ 1099511627776 ∧ y ≤ 1099511627776 by omega)]; rfl
    · rw [bif_pos (by simp [hb0])]
      have h1 := s87 (A := a) (B := b) na nb (by omega) (by omega) hb n (by omega)
      have hm := Nat.mod_lt a (show 0 < b by omega)
      rw [wideP_eq, wideP_eq, wideP_eq] at h1
      rw [h1]
      simp only [Option.bind_some, ok_agg, oks_cons, ok_int, ok_bool, oks_nil, Bool.and_true, cond_true, cs_agg, List.headD_cons, List.tail_cons, toInt_int, toBool_bool]
      exact loop61 hn hz hd0 hd f b (a % b) nb false (by omega) hb (by omega) (by rw [← Nat.gcd_rec]; exact hg)

theorem s61 {z : Int} {d : Nat} (hz : z.natAbs ≤ 85070591730234615865843651857942052864) (hd0 : 0 < d) (hd : d ≤ 85070591730234615865843651857942052864) : Ev E plenty 61 [wideT z, wideT d] (lowT z d) := by
  refine Ev.mono (Ev.mk (c := 340282366920938463463374607431768211456) fun n hn => ?_) (by unfold plenty; omega)
  rw [wideT_eq, wideT_eq, Int.natAbs_natCast, decide_eq_false (show ¬ (d : Int) < 0 by omega), e61]
  simp only [gate_eq]
  have hne := ne_words (m := z.natAbs) (by omega)
  by_cases h0 : z = 0
  · subst h0
    rw [bif_pos (by rfl)]
    unfold lowT
    rw [nmN_zero, dnN_zero hd0]
    rfl
  · rw [bif_neg (by
      have : decide (z.natAbs ≠ 0) = true := decide_eq_true (by omega)
      rw [this] at hne
      simpa [bne] using hne)]
    refine loop61 (by omega) hz hd0 hd n z.natAbs d _ _ (by omega) hz hd rfl

theorem s92 (na nb : Bool) (a b : Nat) : Ev E 1 92 [wideP na a, wideP nb b] (I (cmpN a b)) :=
  Ev.mk fun n hn => by
    rw [wideP_eq, wideP_eq, e92]
    unfold cmpN Hi Lo
    by_cases c0 : a / 18446744073709551616 = b / 18446744073709551616
    · rw [bif_neg (by rw [c0]; simp)]
      by_cases c1 : a % 18446744073709551616 = b % 18446744073709551616
      · rw [bif_neg (by rw [c1]; simp), if_neg (by omega), if_neg (by omega)]
      · rw [bif_pos (by simp only [bne_iff_ne, ne_eq, Int.ofNat_inj]; exact c1)]
        by_cases c2 : a % 18446744073709551616 < b % 18446744073709551616
        · rw [bif_pos (by exact decide_eq_true (Int.ofNat_lt.2 c2)), if_pos (by omega)]
        · rw [bif_neg (by exact decide_eq_false (fun q => c2 (Int.ofNat_lt.1 q))), if_neg (by omega), if_pos (by omega)]
    · rw [bif_pos (by simp only [bne_iff_ne, ne_eq, Int.ofNat_inj]; exact c0)]
      by_cases c2 : a / 18446744073709551616 < b / 18446744073709551616
      · rw [bif_pos (by exact decide_eq_true (Int.ofNat_lt.2 c2)), if_pos (by omega)]
      · rw [bif_neg (by exact decide_eq_false (fun q => c2 (Int.ofNat_lt.1 q))), if_neg (by omega), if_pos (by omega)]

theorem s64 {na nb : Bool} {a b : Nat} (h : a + b < 340282366920938463463374607431768211456) : Ev E 6 64 [wideP na a, wideP nb b] (plusT na nb a b) :=
  Ev.mk fun n hn => by
    rw [wideP_eq, wideP_eq, e64]
    simp only [gate_eq]
    unfold plusT
    by_cases hn' : na = nb
    · obtain ⟨w1, w2, w3⟩ := add_words h
      rw [if_pos hn', bif_pos (by rw [hn']; exact beq_self_eq_true _), bif_pos w3, w1, w2]
      rfl
    · rw [if_neg hn', bif_neg (by simpa using hn')]
      have hc := s92 na nb a b n (by omega)
      rw [wideP_eq, wideP_eq] at hc
      rw [hc]
      simp only [Option.bind_some, ok_int, cond_true, toInt_int]
      have bor (x y : Nat) : borrow x y = bif decide (Int.toNat (Lo x) < Int.toNat (Lo y) + Int.toNat 0) then 1 else 0 := by
        unfold borrow
        simp only [Lo, Int.toNat_natCast, show Int.toNat 0 = 0 from rfl, Nat.add_zero]
        by_cases hh : x % 18446744073709551616 < y % 18446744073709551616
        · rw [if_pos hh, decide_eq_true hh]; rfl
        · rw [if_neg hh, decide_eq_false hh]; rfl
      have pn {m : Nat} : (Hi m != 0 || Lo m != 0) = decide (m ≠ 0) := parts_ne
      by_cases hab : a < b
      · obtain ⟨w1, w2, w3⟩ := sub_words (Nat.le_of_lt hab) (by omega)
        have m0 := pn (m := b - a)
        rw [if_pos hab, bif_pos (by unfold cmpN; rw [if_pos hab]; rfl)]
        rw [bor b a] at w1 w3
        cases hd : decide (Int.toNat (Lo b) < Int.toNat (Lo a) + Int.toNat 0) with
        | true =>
          rw [hd] at w1 w3
          simp only [cond_true] at w1 w3 ⊢
          rw [bif_pos w3, w1, w2, ← m0]
          cases nb
          · rfl
          · cases (Hi (b - a) != 0) <;> rfl
        | false =>
          rw [hd] at w1 w3
          simp only [cond_false] at w1 w3 ⊢
          rw [bif_pos w3, w1, w2, ← m0]
          cases nb
          · rfl
          · cases (Hi (b - a) != 0) <;> rfl
      · obtain ⟨w1, w2, w3⟩ := sub_words (Nat.le_of_not_lt hab) (by omega)
        have m0 := pn (m := a - b)
        rw [if_neg hab, bif_neg (by unfold cmpN; rw [if_neg hab]; split <;> rfl)]
        rw [bor a b] at w1 w3
        cases hd : decide (Int.toNat (Lo a) < Int.toNat (Lo b) + Int.toNat 0) with
        | true =>
          rw [hd] at w1 w3
          simp only [cond_true] at w1 w3 ⊢
          rw [bif_pos w3, w1, w2, ← m0]
          cases na
          · rfl
          · cases (Hi (a - b) != 0) <;> rfl
        | false =>
          rw [hd] at w1 w3
          simp only [cond_false] at w1 w3 ⊢
          rw [bif_pos w3, w1, w2, ← m0]
          cases na
          · rfl
          · cases (Hi (a - b) != 0) <;> rfl

theorem s93 {m d : Nat} (neg : Bool) (hm : m < 340282366920938463463374607431768211456) (hd : 0 < d) (hd2 : d < 18446744073709551616) : Ev E 6 93 [wideP neg m, U d] (.tup [wideP (neg && decide (m / d ≠ 0)) (m / d), U ((m % d : Nat) : Int)]) :=
  Ev.mk fun n hn => by
    have hq := Nat.lt_of_le_of_lt (Nat.div_le_self (m / 18446744073709551616) d) (show _ < 18446744073709551616 by omega)
    have pn : (Hi (m / d) != 0 || Lo (m / d) != 0) = decide (m / d ≠ 0) := parts_ne
    have ehi : ((m / 18446744073709551616 / d : Nat) : Int) = Hi (m / d) := by unfold Hi; rw [high_div]
    have elo : (((m / d) % 18446744073709551616 : Nat) : Int) = Lo (m / d) := rfl
    rw [wideP_eq, e93, bif_neg (decide_eq_false (by omega)), bif_neg (decide_eq_false (by omega)), Hi, tmodN, tdivN, s105N hd hd2 n hn, wu64 ⟨Int.natCast_nonneg _, Int.ofNat_lt.2 hq⟩]
    simp only [Option.bind_some, ok_tup, oks_cons, ok_int, oks_nil, Bool.and_true, cond_true, tupl_tup, List.headD_cons, List.tail_cons, toInt_int, wideP_eq]
    rw [ehi, elo, ← pn]
    cases neg
    · rfl
    · cases (Hi (m / d) != 0) <;> rfl

theorem wbig {m : Nat} (h : m > 1099511627776) : (Hi m != 0) = true ∨ ((Hi m != 0) = false ∧ Lo m > 1099511627776) := by
  unfold Hi Lo
  rw [natne]
  by_cases h1 : m / 18446744073709551616 = 0
  · exact .inr ⟨by simp [h1], by omega⟩
  · exact .inl (by simp [h1])

theorem wsmall {m : Nat} (h : ¬ m > 1099511627776) : (Hi m != 0) = false ∧ ¬ Lo m > 1099511627776 := by
  unfold Hi Lo
  rw [natne]
  exact ⟨by simp; omega, by omega⟩

/-- The reference's quotient of a number and a product of three. -/
def ratT (z : Int) (g rest more : Nat) : Tree :=
  if g / Nat.gcd g z.natAbs * rest > 1099511627776 then .tup [.agg [I 0, I 0], I 2]
  else if g / Nat.gcd g z.natAbs * rest * more > 1099511627776 then .tup [.agg [I 0, I 0], I 2]
  else if (z / (Nat.gcd g z.natAbs : Int)).natAbs > 1099511627776 then .tup [.agg [I 0, I 0], I 2]
  else .tup [.agg [I (z / (Nat.gcd g z.natAbs : Int)), I ((g / Nat.gcd g z.natAbs * rest * more : Nat) : Int)], I 0]

theorem s65 {z : Int} {g rest more : Nat} (hz : z.natAbs ≤ 85070591730234615865843651857942052864) (hg : 0 < g) (hg2 : g ≤ 1099511627776) (hr : rest ≤ 1099511627776) (hm : more ≤ 1099511627776) :
    Ev E (plenty + 1) 65 [wideT z, I g, I rest, I more] (ratT z g rest more) :=
  Ev.mk fun n hn => by
    have hpl : 10 ≤ n := by unfold plenty at hn; omega
    have h1 := s93 (m := z.natAbs) (d := g) (decide (z < 0)) (by omega) hg (by omega) n (by omega)
    rw [wideP_eq, wideP_eq] at h1
    have hr2 := Nat.mod_lt z.natAbs hg
    have h2 := s63 (a := z.natAbs % g) (b := g) (by omega) n hn
    rw [Nat.gcd_comm g (z.natAbs % g), ← Nat.gcd_rec] at h2
    have hh0 : 0 < Nat.gcd g z.natAbs := gcd_pos hg
    have hh1 : Nat.gcd g z.natAbs ≤ g := Nat.le_of_dvd hg (Nat.gcd_dvd_left _ _)
    have hdz : ((Nat.gcd g z.natAbs : Nat) : Int) ∣ z := Int.ofNat_dvd_left.2 (Nat.gcd_dvd_right _ _)
    have hq : g / Nat.gcd g z.natAbs ≤ g := Nat.div_le_self _ _
    unfold ratT
    have h3 := s93 (m := z.natAbs) (d := Nat.gcd g z.natAbs) (decide (z < 0)) (by omega) hh0 (by omega) n (by omega)
    rw [wide_div hh0 hdz, wideP_eq, wideT_eq] at h3
    generalize Nat.gcd g z.natAbs = h at *
    generalize z / (h : Int) = x at *
    have htd : Int.tdiv (g : Int) (h : Int) = ((g / h : Nat) : Int) := rfl
    generalize g / h = y at *
    have h4 := s55 (x := (y : Int)) (y := (rest : Int)) (by unfold isN; omega) (by unfold isN; omega) n (by omega)
    rw [← Int.natCast_mul, wideT_eq, Int.natAbs_natCast] at h4
    rw [wideT_eq, e65, wu64 (by omega), h1]
    simp only [Option.bind_some, ok_tup, ok_agg, oks_cons, ok_int, ok_bool, oks_nil, Bool.and_true, Bool.and_self, cond_true, cs_agg, tupl_tup, List.headD_cons, List.tail_cons, toInt_int, toBool_bool]
    rw [wN64 (by omega), h2]
    simp only [Option.bind_some, ok_int, cond_true, toInt_int]
    rw [wu64 (x := (h : Int)) (by omega), h3]
    simp only [Option.bind_some, ok_tup, ok_agg, oks_cons, ok_int, ok_bool, oks_nil, Bool.and_true, Bool.and_self, cond_true, cs_agg, tupl_tup, List.headD_cons, List.tail_cons, toInt_int, toBool_bool]
    rw [bif_neg (by exact decide_eq_false (by omega)), htd, wN64 (show y ≤ 1099511627776 by omega), h4]
    simp only [Option.bind_some, ok_tup, ok_agg, oks_cons, ok_int, ok_bool, oks_nil, Bool.and_true, Bool.and_self, cond_true, cs_agg, tupl_tup, List.headD_cons, List.tail_cons, toInt_int, toBool_bool]
    by_cases c1 : y * rest > 1099511627776
    · rw [if_pos c1]
      rcases wbig c1 with q | ⟨q1, q2⟩
      · rw [bif_pos q]
      · rw [bif_neg q1, bif_pos (by exact decide_eq_true q2)]
    · obtain ⟨q1, q2⟩ := wsmall c1
      rw [if_neg c1, bif_neg q1, bif_neg (by exact decide_eq_false q2)]
      generalize y * rest = v at *
      have h5 := s56 (z := (v : Int)) (by unfold isN; omega) n (by omega)
      rw [wideT_eq, Int.natAbs_natCast] at h5
      rw [h5]
      simp only [Option.bind_some, ok_int, cond_true, toInt_int]
      have h6 := s55 (x := (v : Int)) (y := (more : Int)) (by unfold isN; omega) (by unfold isN; omega) n (by omega)
      rw [← Int.natCast_mul, wideT_eq, Int.natAbs_natCast] at h6
      rw [h6]
      simp only [Option.bind_some, ok_tup, ok_agg, oks_cons, ok_int, ok_bool, oks_nil, Bool.and_true, Bool.and_self, cond_true, cs_agg, tupl_tup, List.headD_cons, List.tail_cons, toInt_int, toBool_bool]
      by_cases c2 : v * more > 1099511627776
      · rw [if_pos c2]
        rcases wbig c2 with q | ⟨q1, q2⟩
        · rw [bif_pos q]
        · rw [bif_neg q1, bif_pos (by exact decide_eq_true q2)]
      · obtain ⟨q1, q2⟩ := wsmall c2
        rw [if_neg c2, bif_neg q1, bif_neg (by exact decide_eq_false q2)]
        by_cases c3 : x.natAbs > 1099511627776
        · rw [if_pos c3]
          rcases wbig c3 with q | ⟨q1, q2⟩
          · rw [bif_pos q]
          · rw [bif_neg q1, bif_pos (by exact decide_eq_true q2)]
        · obtain ⟨q1, q2⟩ := wsmall c3
          rw [if_neg c3, bif_neg q1, bif_neg (by exact decide_eq_false q2)]
          have h7 := s56 (z := x) (by unfold isN; omega) n (by omega)
          rw [wideT_eq] at h7
          generalize v * more = t at *
          have h8 := s56 (z := (t : Int)) (by unfold isN; omega) n (by omega)
          rw [wideT_eq, Int.natAbs_natCast] at h8
          rw [h7]
          simp only [Option.bind_some, ok_int, cond_true, toInt_int]
          rw [h8]
          simp only [Option.bind_some, ok_int, cond_true, toInt_int]

end Go.Proofs.Bw.Qb
