/-
  SPECS 10: sums and products of rationals by the reference's short cuts.
-/
import Derived.Test.YtfkidinbolmkiaaQaS9
set_option linter.unusedSimpArgs false
set_option linter.unusedVariables false
set_option maxRecDepth 100000
namespace Go.Proofs.Aw.Qa
open Go.Proofs

/-- A part of one denominator that the other has no divisor of: none with the sum, either. -/
theorem cop_part {p q : Int} {r m b : Nat} (hr : r ∣ b) (cb : Nat.Coprime b p.natAbs) (crm : Nat.Coprime r m) : Nat.Coprime r (p * m + q * r).natAbs := by
  have h1 := Nat.gcd_dvd_left r (p * m + q * r).natAbs
  have h2 := Nat.gcd_dvd_right r (p * m + q * r).natAbs
  show Nat.gcd r (p * m + q * r).natAbs = 1
  generalize Nat.gcd r (p * m + q * r).natAbs = k at *
  have h3 : (k : Int) ∣ p * m + q * r := Int.ofNat_dvd_left.2 h2
  have h4 : (k : Int) ∣ q * r := Int.dvd_trans (Int.ofNat_dvd.2 h1) (Int.dvd_mul_left _ _)
  have h5 : (k : Int) ∣ p * m := (Int.dvd_iff_dvd_of_dvd_add h3).2 h4
  have h6 : k ∣ p.natAbs * m := by
    have := Int.ofNat_dvd_left.1 h5
    rwa [Int.natAbs_mul, Int.natAbs_natCast] at this
  have h7 : k ∣ m := (Nat.Coprime.coprime_dvd_left (Nat.dvd_trans h1 hr) cb).dvd_of_dvd_mul_left h6
  have := Nat.dvd_gcd h1 h7
  rw [show Nat.gcd r m = 1 from crm] at this
  exact Nat.dvd_one.1 this

theorem ratT_low {p q : Int} {b d : Nat} (hb : 0 < b) (hd : 0 < d) (cb : Nat.Coprime b p.natAbs) (cd : Nat.Coprime d q.natAbs) :
    ratT (p * ((d / Nat.gcd d b : Nat) : Int) + q * ((b / Nat.gcd d b : Nat) : Int)) (Nat.gcd d b) (b / Nat.gcd d b) (d / Nat.gcd d b) = lowT (p * d + q * b) (b * d) := by
  have hg : 0 < Nat.gcd d b := gcd_pos hd
  have crm : Nat.Coprime (b / Nat.gcd d b) (d / Nat.gcd d b) := (Nat.coprime_div_gcd_div_gcd hg).symm
  have eb : b / Nat.gcd d b * Nat.gcd d b = b := Nat.div_mul_cancel (Nat.gcd_dvd_right _ _)
  have ed : d / Nat.gcd d b * Nat.gcd d b = d := Nat.div_mul_cancel (Nat.gcd_dvd_left _ _)
  generalize Nat.gcd d b = g at *
  generalize b / g = r at *
  generalize d / g = m at *
  have hr : 0 < r := by
    by_cases h0 : r = 0
    · subst h0; omega
    · omega
  have hm : 0 < m := by
    by_cases h0 : m = 0
    · subst h0; omega
    · omega
  have c1 : Nat.Coprime r (p * m + q * r).natAbs := cop_part ⟨g, eb.symm⟩ cb crm
  have c2 : Nat.Coprime m (p * m + q * r).natAbs := by
    rw [Int.add_comm]; exact cop_part ⟨g, ed.symm⟩ cd crm.symm
  have e : lowT (p * d + q * b) (b * d) = lowT (p * m + q * r) (g * r * m) := by
    refine lowT_eq (Nat.mul_pos hb hd) (Nat.mul_pos (Nat.mul_pos hg hr) hm) ?_
    rw [← eb, ← ed]
    simp only [Int.natCast_mul, Int.add_mul]
    ac_rfl
  rw [e]
  generalize p * (m : Int) + q * (r : Int) = z at *
  have hG : Nat.gcd (g * r * m) z.natAbs = Nat.gcd g z.natAbs := by
    rw [Nat.Coprime.gcd_mul_right_cancel _ c2, Nat.Coprime.gcd_mul_right_cancel _ c1]
  have hh : 0 < Nat.gcd g z.natAbs := gcd_pos hg
  obtain ⟨y, hy⟩ := Nat.gcd_dvd_left g z.natAbs
  unfold ratT lowT nmN dnN
  rw [hG]
  generalize Nat.gcd g z.natAbs = h at *
  have e1 : g / h = y := by rw [hy]; exact Nat.mul_div_cancel_left _ hh
  have e2 : g * r * m / h = y * r * m := by
    rw [hy, show h * y * r * m = h * (y * r * m) by ac_rfl]
    exact Nat.mul_div_cancel_left _ hh
  rw [e1, e2]
  generalize z / (h : Int) = x
  have hle : y * r ≤ y * r * m := Nat.le_mul_of_pos_right _ hm
  generalize y * r * m = t at *
  generalize y * r = v at *
  by_cases q1 : v > 1099511627776
  · rw [if_pos q1, if_neg (by omega)]
  · rw [if_neg q1]
    by_cases q2 : t > 1099511627776
    · rw [if_pos q2, if_neg (by omega)]
    · rw [if_neg q2]
      by_cases q3 : x.natAbs > 1099511627776
      · rw [if_pos q3, if_neg (by omega)]
      · rw [if_neg q3, if_pos (by omega)]

theorem nm_cop {a b : Int} (hb : b ≠ 0) : Nat.Coprime (dn a b) (nm a b).natAbs := by
  rw [nm_eq, dn_eq]; exact nmN_cop (by omega)

theorem low_zero {d : Nat} (hd : 0 < d) : lowT 0 d = .tup [.agg [I 0, I 1], I 0] := by
  unfold lowT; rw [nmN_zero, dnN_zero hd]; rfl

theorem s26 (a b c d : Int) : Ev E (plenty + 2) 26 [.agg [I a, I b], .agg [I c, I d]] (addR a b c d) :=
  Ev.mk fun n hn => by
    have hpl : 10 ≤ n := by unfold plenty at hn; omega
    rw [e26, s59 a b n (by omega)]
    simp only [Option.bind_some, ok_bool, cond_true, toBool_bool, addR]
    cases h : ratB a b with
    | false => rfl
    | true =>
    rw [Bool.not_true, cond_false, s59 c d n (by omega)]
    simp only [Option.bind_some, ok_bool, cond_true, toBool_bool]
    cases h' : ratB c d with
    | false => rfl
    | true =>
    obtain ⟨h1, h2, h3⟩ := ratB_iff.1 h
    obtain ⟨k1, k2, k3⟩ := ratB_iff.1 h'
    have r1 : evP (Tab.env tab) n 60 [.agg [.int .i64 a, .int .i64 b]] = some (.agg [.int .i64 (nm a b), .int .i64 (dn a b)]) := s60 h1 h2 h3 n (by omega)
    have r2 : evP (Tab.env tab) n 60 [.agg [.int .i64 c, .int .i64 d]] = some (.agg [.int .i64 (nm c d), .int .i64 (dn c d)]) := s60 k1 k2 k3 n (by omega)
    have m1 := nm_M (b := b) h1
    have m2 := nm_M (b := d) k1
    have p1 := dn_pos (a := a) h3
    have p2 := dn_pos (a := c) k3
    have l1 := dn_M (a := a) h2
    have l2 := dn_M (a := c) k2
    have low := ratT_low p1 p2 (nm_cop (a := a) h3) (nm_cop (a := c) k3)
    have g0 : 0 < Nat.gcd (dn c d) (dn a b) := gcd_pos p2
    have g1 : Nat.gcd (dn c d) (dn a b) ≤ dn c d := Nat.le_of_dvd p2 (Nat.gcd_dvd_left _ _)
    have b1 : dn a b / Nat.gcd (dn c d) (dn a b) ≤ 1099511627776 := Nat.le_trans (Nat.div_le_self _ _) l1
    have b2 : dn c d / Nat.gcd (dn c d) (dn a b) ≤ 1099511627776 := Nat.le_trans (Nat.div_le_self _ _) l2
    have hg : evP (Tab.env tab) n 63 [.int .i64 (dn a b), .int .i64 (dn c d)] = some (.int .i64 (Nat.gcd (dn c d) (dn a b))) := s63 (a := dn a b) (b := dn c d) (by omega) n (by omega)
    have q1 := t55 m1 (isM_N b2) hpl
    have q2 := t55 m2 (isM_N b1) hpl
    have x1 := mulM m1 (isM_N b2)
    have x2 := mulM m2 (isM_N b1)
    have q4 := t64 x1 x2 hpl
    have w1 : IntKind.wrap .i64 (Int.tdiv (dn c d : Int) (Nat.gcd (dn c d) (dn a b) : Nat)) = ((dn c d / Nat.gcd (dn c d) (dn a b) : Nat) : Int) := by rw [tdivN]; exact wN64 b2
    have w2 : IntKind.wrap .i64 (Int.tdiv (dn a b : Int) (Nat.gcd (dn c d) (dn a b) : Nat)) = ((dn a b / Nat.gcd (dn c d) (dn a b) : Nat) : Int) := by rw [tdivN]; exact wN64 b1
    have f0 : ¬ ((Nat.gcd (dn c d) (dn a b) : Nat) : Int) = 0 := by omega
    rw [Bool.not_true, cond_false, r1]
    simp only [Option.bind_some, ok_agg, oks_cons, ok_int, oks_nil, Bool.and_true, cond_true, cs_agg, List.headD_cons, List.tail_cons, toInt_int]
    rw [r2]
    simp only [Option.bind_some, ok_agg, oks_cons, ok_int, oks_nil, Bool.and_true, cond_true, cs_agg, List.headD_cons, List.tail_cons, toInt_int]
    rw [hg]
    simp only [Option.bind_some, ok_int, cond_true, toInt_int, w1, w2]
    have q5 := s65 (z := nm a b * ((dn c d / Nat.gcd (dn c d) (dn a b) : Nat) : Int) + nm c d * ((dn a b / Nat.gcd (dn c d) (dn a b) : Nat) : Int)) (g := Nat.gcd (dn c d) (dn a b)) (rest := dn a b / Nat.gcd (dn c d) (dn a b)) (more := dn c d / Nat.gcd (dn c d) (dn a b))
      (by omega) g0 (by omega) b1 b2 n (by omega)
    rw [low, wideT_eq] at q5
    rw [bif_neg (by exact decide_eq_false f0), q1]
    simp only [Option.bind_some, ok_agg, oks_cons, ok_int, ok_bool, oks_nil, Bool.and_true, cond_true, cs_agg, List.headD_cons, List.tail_cons, toInt_int, toBool_bool]
    rw [bif_neg (by exact decide_eq_false f0), q2]
    simp only [q4, Option.bind_some, ok_agg, oks_cons, ok_int, ok_bool, oks_nil, Bool.and_true, cond_true, cs_agg, List.headD_cons, List.tail_cons, toInt_int, toBool_bool]
    have hz : nm a b * ((dn c d / Nat.gcd (dn c d) (dn a b) : Nat) : Int) + nm c d * ((dn a b / Nat.gcd (dn c d) (dn a b) : Nat) : Int) = 0 → lowT (nm a b * dn c d + nm c d * dn a b) (dn a b * dn c d) = .tup [.agg [I 0, I 1], I 0] := by
      intro hz
      have e1 : dn c d / Nat.gcd (dn c d) (dn a b) * Nat.gcd (dn c d) (dn a b) = dn c d := Nat.div_mul_cancel (Nat.gcd_dvd_left _ _)
      have e2 : dn a b / Nat.gcd (dn c d) (dn a b) * Nat.gcd (dn c d) (dn a b) = dn a b := Nat.div_mul_cancel (Nat.gcd_dvd_right _ _)
      have e3 : nm a b * (dn c d : Int) + nm c d * (dn a b : Int) = 0 := by
        have t1 : (dn c d : Int) = ((dn c d / Nat.gcd (dn c d) (dn a b) : Nat) : Int) * ((Nat.gcd (dn c d) (dn a b) : Nat) : Int) := by rw [← Int.natCast_mul, e1]
        have t2 : (dn a b : Int) = ((dn a b / Nat.gcd (dn c d) (dn a b) : Nat) : Int) * ((Nat.gcd (dn c d) (dn a b) : Nat) : Int) := by rw [← Int.natCast_mul, e2]
        have t3 : nm a b * (dn c d : Int) + nm c d * (dn a b : Int) = (nm a b * ((dn c d / Nat.gcd (dn c d) (dn a b) : Nat) : Int) + nm c d * ((dn a b / Nat.gcd (dn c d) (dn a b) : Nat) : Int)) * ((Nat.gcd (dn c d) (dn a b) : Nat) : Int) := by
          rw [Int.add_mul, Int.mul_assoc, Int.mul_assoc, ← t1, ← t2]
        rw [t3, hz, Int.zero_mul]
      rw [e3]
      exact low_zero (Nat.mul_pos p1 p2)
    generalize nm a b * ((dn c d / Nat.gcd (dn c d) (dn a b) : Nat) : Int) + nm c d * ((dn a b / Nat.gcd (dn c d) (dn a b) : Nat) : Int) = z at *
    by_cases h0 : z = 0
    · rw [hz h0, h0]
      rfl
    · have pn : (Hi z.natAbs != 0 || Lo z.natAbs != 0) = true := by
        have : (Hi z.natAbs != 0 || Lo z.natAbs != 0) = decide (z.natAbs ≠ 0) := parts_ne
        rw [this]; exact decide_eq_true (by omega)
      have hfin := tup_look (lowT_form (nm a b * dn c d + nm c d * dn a b) (dn a b * dn c d))
      by_cases hh : Hi z.natAbs = 0
      · have hl : ¬ Lo z.natAbs = 0 := by simpa [hh] using pn
        rw [bif_pos (by simp [hh]), bif_neg (by simp [hl]), bif_neg (by exact decide_eq_false f0), bif_neg (by exact decide_eq_false f0), q5]
        exact hfin
      · rw [bif_neg (by simp [hh]), bif_neg (by exact decide_eq_false f0), bif_neg (by exact decide_eq_false f0), q5]
        exact hfin

theorem nmN_dvd {z : Int} {d : Nat} : (nmN z d).natAbs ∣ z.natAbs := by
  have h := congrArg Int.natAbs (nmN_mul (z := z) (d := d))
  rw [Int.natAbs_mul] at h
  exact ⟨_, h.symm⟩
theorem dnN_dvd {z : Int} {d : Nat} : dnN z d ∣ d := ⟨_, dnN_mul.symm⟩

theorem nm_N {p : Int} {d : Nat} : nm p d = nmN p d := by rw [nm_eq, if_neg (by omega), Int.natAbs_natCast]
theorem dn_N {p : Int} {d : Nat} : dn p d = dnN p d := by rw [dn_eq, if_neg (by omega), Int.natAbs_natCast]

/-- The product of two fractions that are reduced crosswise. -/
theorem mul_low {p q : Int} {b d : Nat} (hb : 0 < b) (hd : 0 < d) (cb : Nat.Coprime b p.natAbs) (cd : Nat.Coprime d q.natAbs) (h0 : p * q ≠ 0) :
    nmN (p * q) (b * d) = nmN p d * nmN q b ∧ dnN (p * q) (b * d) = dnN p d * dnN q b := by
  have x1 := nmN_cross (z := p) (d := d)
  have x2 := nmN_cross (z := q) (d := b)
  have e := lowN_eq (z := p * q) (w := nmN p d * nmN q b) (d := b * d) (e := dnN p d * dnN q b) (Nat.mul_pos hb hd) (Nat.mul_pos (dnN_pos hd) (dnN_pos hb)) (by
    simp only [Int.natCast_mul]
    calc p * q * ((dnN p d : Int) * (dnN q b : Int)) = (p * dnN p d) * (q * dnN q b) := by ac_rfl
      _ = (nmN p d * d) * (nmN q b * b) := by rw [x1, x2]
      _ = nmN p d * nmN q b * ((b : Int) * (d : Int)) := by ac_rfl)
  have c : Nat.Coprime (dnN p d * dnN q b) (nmN p d * nmN q b).natAbs := by
    rw [Int.natAbs_mul]
    refine Nat.Coprime.mul_left (Nat.Coprime.mul_right (nmN_cop hd) ?_) (Nat.Coprime.mul_right ?_ (nmN_cop hb))
    · exact Nat.Coprime.coprime_dvd_left dnN_dvd (Nat.Coprime.coprime_dvd_right nmN_dvd cd)
    · exact Nat.Coprime.coprime_dvd_left dnN_dvd (Nat.Coprime.coprime_dvd_right nmN_dvd cb)
  have s := lowN_self c
  rw [e.1, e.2, s.1, s.2]
  exact ⟨rfl, rfl⟩

theorem s28 (a b c d : Int) : Ev E (plenty + 2) 28 [.agg [I a, I b], .agg [I c, I d]] (mulR a b c d) :=
  Ev.mk fun n hn => by
    have hpl : 10 ≤ n := by unfold plenty at hn; omega
    rw [e28, s59 a b n (by omega)]
    simp only [Option.bind_some, ok_bool, cond_true, toBool_bool, mulR]
    cases h : ratB a b with
    | false => rfl
    | true =>
    rw [Bool.not_true, cond_false, s59 c d n (by omega)]
    simp only [Option.bind_some, ok_bool, cond_true, toBool_bool]
    cases h' : ratB c d with
    | false => rfl
    | true =>
    obtain ⟨h1, h2, h3⟩ := ratB_iff.1 h
    obtain ⟨k1, k2, k3⟩ := ratB_iff.1 h'
    have r1 : evP (Tab.env tab) n 60 [.agg [.int .i64 a, .int .i64 b]] = some (.agg [.int .i64 (nm a b), .int .i64 (dn a b)]) := s60 h1 h2 h3 n (by omega)
    have r2 : evP (Tab.env tab) n 60 [.agg [.int .i64 c, .int .i64 d]] = some (.agg [.int .i64 (nm c d), .int .i64 (dn c d)]) := s60 k1 k2 k3 n (by omega)
    have m1 := nm_M (b := b) h1
    have m2 := nm_M (b := d) k1
    have p1 := dn_pos (a := a) h3
    have p2 := dn_pos (a := c) k3
    have l1 := dn_M (a := a) h2
    have l2 := dn_M (a := c) k2
    have cp1 := nm_cop (a := a) h3
    have cp2 := nm_cop (a := c) k3
    rw [Bool.not_true, cond_false, r1]
    simp only [Option.bind_some, ok_agg, oks_cons, ok_int, oks_nil, Bool.and_true, Bool.and_self, cond_true, cs_agg, List.headD_cons, List.tail_cons, toInt_int]
    rw [r2]
    simp only [Option.bind_some, ok_agg, oks_cons, ok_int, oks_nil, Bool.and_true, cond_true, cs_agg, List.headD_cons, List.tail_cons, toInt_int]
    generalize nm a b = p at *
    generalize nm c d = q at *
    generalize dn a b = B at *
    generalize dn c d = D at *
    have r3 : evP (Tab.env tab) n 60 [.agg [.int .i64 p, .int .i64 D]] = some (.agg [.int .i64 (nm p D), .int .i64 (dn p D)]) := s60 m1 (isM_N l2) (by omega) n (by omega)
    have r4 : evP (Tab.env tab) n 60 [.agg [.int .i64 q, .int .i64 B]] = some (.agg [.int .i64 (nm q B), .int .i64 (dn q B)]) := s60 m2 (isM_N l1) (by omega) n (by omega)
    have n1 := nm_M (b := (D : Int)) m1
    have n2 := nm_M (b := (B : Int)) m2
    have n3 := dn_M (a := p) (isM_N l2)
    have n4 := dn_M (a := q) (isM_N l1)
    have n5 := dn_pos (a := p) (b := (D : Int)) (by omega)
    have n6 := dn_pos (a := q) (b := (B : Int)) (by omega)
    rw [r3]
    simp only [Option.bind_some, ok_agg, oks_cons, ok_int, oks_nil, Bool.and_true, cond_true, cs_agg, List.headD_cons, List.tail_cons, toInt_int]
    rw [r4]
    simp only [Option.bind_some, ok_agg, oks_cons, ok_int, oks_nil, Bool.and_true, cond_true, cs_agg, List.headD_cons, List.tail_cons, toInt_int]
    have q1 := t55 n1 n2 hpl
    have q2 := t55 (isM_N n3) (isM_N n4) hpl
    rw [q1, q2]
    simp only [Option.bind_some, ok_agg, oks_cons, ok_int, ok_bool, oks_nil, Bool.and_true, cond_true, cs_agg, List.headD_cons, List.tail_cons, toInt_int, toBool_bool]
    have hres : lowT (p * q) (B * D) = if (nm p D * nm q B).natAbs ≤ 1099511627776 ∧ dn p D * dn q B ≤ 1099511627776 then .tup [redT (nm p D * nm q B) ((dn p D * dn q B : Nat) : Int), I 0] else .tup [.agg [I 0, I 0], I 2] := by
      have hdd := Nat.mul_pos n5 n6
      unfold redT
      rw [nm_N (d := dn p D * dn q B), dn_N (d := dn p D * dn q B)]
      by_cases hpq : p * q = 0
      · have hz : nm p D * nm q B = 0 := by
          rcases Int.mul_eq_zero.1 hpq with e | e
          · rw [e, nm_N, nmN_zero, Int.zero_mul]
          · rw [e, nm_N (p := 0), nmN_zero, Int.mul_zero]
        have hl : dn p D * dn q B ≤ 1099511627776 := by
          rcases Int.mul_eq_zero.1 hpq with e | e
          · rw [e, dn_N, dnN_zero p2, Nat.one_mul]; exact n4
          · rw [e, dn_N (p := 0), dnN_zero p1, Nat.mul_one]; exact n3
        rw [hpq, low_zero (Nat.mul_pos p1 p2), hz, if_pos ⟨by decide, hl⟩, nmN_zero, dnN_zero hdd]
        rfl
      · have e := mul_low p1 p2 cp1 cp2 hpq
        rw [← nm_N (p := p) (d := D), ← nm_N (p := q) (d := B), ← dn_N (p := p) (d := D), ← dn_N (p := q) (d := B)] at e
        have c : Nat.Coprime (dn p D * dn q B) (nm p D * nm q B).natAbs := by
          rw [← e.1, ← e.2]; exact nmN_cop (Nat.mul_pos p1 p2)
        have s := lowN_self c
        unfold lowT
        rw [e.1, e.2, s.1, s.2]
    rw [hres, ← Int.natCast_mul, Int.natAbs_natCast]
    generalize nm p D * nm q B = x at *
    have hdd := Nat.mul_pos n5 n6
    generalize dn p D * dn q B = y at *
    by_cases c1 : x.natAbs > 1099511627776
    · rw [if_neg (by omega)]
      rcases wbig c1 with w | ⟨w1, w2⟩
      · rw [bif_pos w]
      · rw [bif_neg w1, bif_pos (by exact decide_eq_true w2)]
    · obtain ⟨w1, w2⟩ := wsmall c1
      rw [bif_neg w1, bif_neg (by exact decide_eq_false w2)]
      by_cases c2 : y > 1099511627776
      · rw [if_neg (by omega)]
        rcases wbig c2 with w | ⟨w1, w2⟩
        · rw [bif_pos w]
        · rw [bif_neg w1, bif_pos (by exact decide_eq_true w2)]
      · obtain ⟨w1, w2⟩ := wsmall c2
        rw [if_pos (by omega), bif_neg w1, bif_neg (by exact decide_eq_false w2)]
        have f1 := s56 (z := x) (by unfold isN; omega) n (by omega)
        rw [wideT_eq] at f1
        have f2 := s56 (z := (y : Int)) (by unfold isN; omega) n (by omega)
        rw [wideT_eq, Int.natAbs_natCast] at f2
        have f3 : evP (Tab.env tab) n 60 [.agg [.int .i64 x, .int .i64 y]] = some (.agg [.int .i64 (nm x y), .int .i64 (dn x y)]) := s60 (by unfold isM; omega) (isM_N (by omega)) (by omega) n (by omega)
        rw [f1]
        simp only [Option.bind_some, ok_int, cond_true, toInt_int]
        rw [f2]
        simp only [Option.bind_some, ok_int, cond_true, toInt_int]
        rw [f3]
        simp [redT]

end Go.Proofs.Aw.Qa
