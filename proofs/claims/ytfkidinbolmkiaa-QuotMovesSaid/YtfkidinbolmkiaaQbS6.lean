/-
  SPECS 6: numbers of up to 128 bits, divided.
-/
import Derived.Test.YtfkidinbolmkiaaQbS5
set_option linter.unusedSimpArgs false
set_option linter.unusedVariables false
set_option maxRecDepth 100000
namespace Go.Proofs.Bw.Qb
open Go.Proofs

theorem words_eq (m : Nat) : m / 18446744073709551616 * 18446744073709551616 + m % 18446744073709551616 = m := by omega

theorem high_div {m d : Nat} : (m / d) / 18446744073709551616 = (m / 18446744073709551616) / d := by
  rw [Nat.div_div_eq_div_mul, Nat.div_div_eq_div_mul, Nat.mul_comm]

theorem part_alg {d q r M K s m : Nat} (h : d * q + r = M) (w : M * K + s = m) : d * (q * K) + (r * K + s) = m := by
  rw [← w, ← h, Nat.add_mul, Nat.add_assoc, Nat.mul_assoc]

theorem part_eq {m d : Nat} : d * ((m / 18446744073709551616) / d * 18446744073709551616) + ((m / 18446744073709551616) % d * 18446744073709551616 + m % 18446744073709551616) = m :=
  part_alg (Nat.div_add_mod _ d) (words_eq m)

theorem part_lt {m d : Nat} (hd : 0 < d) : ((m / 18446744073709551616) % d * 18446744073709551616 + m % 18446744073709551616) / d < 18446744073709551616 := by
  have h := Nat.mod_lt (m / 18446744073709551616) hd
  refine (Nat.div_lt_iff_lt_mul hd).2 ?_
  generalize (m / 18446744073709551616) % d = t at *
  have := Nat.mod_lt m (show 0 < 18446744073709551616 by omega)
  omega

theorem low_div {m d : Nat} (hd : 0 < d) : (m / d) % 18446744073709551616 = ((m / 18446744073709551616) % d * 18446744073709551616 + m % 18446744073709551616) / d := by
  have h1 := part_eq (m := m) (d := d)
  have h2 := part_lt (m := m) hd
  have h3 : m / d = (m / 18446744073709551616) / d * 18446744073709551616 + ((m / 18446744073709551616) % d * 18446744073709551616 + m % 18446744073709551616) / d := by
    have : m / d = (d * ((m / 18446744073709551616) / d * 18446744073709551616) + ((m / 18446744073709551616) % d * 18446744073709551616 + m % 18446744073709551616)) / d := by rw [h1]
    rw [this, Nat.mul_add_div hd]
  rw [h3]
  generalize ((m / 18446744073709551616) % d * 18446744073709551616 + m % 18446744073709551616) / d = x at *
  generalize (m / 18446744073709551616) / d = q at *
  omega

theorem low_mod {m d : Nat} : m % d = ((m / 18446744073709551616) % d * 18446744073709551616 + m % 18446744073709551616) % d := by
  have h1 := part_eq (m := m) (d := d)
  have : m % d = (d * ((m / 18446744073709551616) / d * 18446744073709551616) + ((m / 18446744073709551616) % d * 18446744073709551616 + m % 18446744073709551616)) % d := by rw [h1]
  rw [this, Nat.mul_add_mod]

theorem tmodN (a b : Nat) : Int.tmod (a : Int) b = ((a % b : Nat) : Int) := rfl
theorem tdivN (a b : Nat) : Int.tdiv (a : Int) b = ((a / b : Nat) : Int) := rfl

theorem s105N {m d : Nat} (hd : 0 < d) (hd2 : d < 18446744073709551616) (n : Nat) (hn : 5 ≤ n) :
    evP E n 105 [U (((m / 18446744073709551616) % d : Nat) : Int), U (Lo m), U d] = some (.tup [U ((((m / d) % 18446744073709551616 : Nat)) : Int), U ((m % d : Nat) : Int)]) := by
  have h := s105 (a0 := (((m / 18446744073709551616) % d : Nat) : Int)) (a1 := Lo m) (a2 := d) (by omega) (by have := Nat.mod_lt (m / 18446744073709551616) hd; omega) (Lo_U m) (by omega) n hn
  unfold Lo at h ⊢
  rw [h, low_div (m := m) (d := d) hd, low_mod (m := m) (d := d)]
  simp

theorem s123 {m d : Nat} (hd : 0 < d) (hd2 : d < 18446744073709551616) : Ev E 6 123 [U (Hi m), U (Lo m), U d] (U ((m % d : Nat) : Int)) :=
  Ev.mk fun n hn => by
    rw [e123, bif_neg (decide_eq_false (by omega)), Hi, tmodN, s105N hd hd2 n hn]
    simp

theorem s109 {m d : Nat} (neg : Bool) (hd : 0 < d) (hd2 : d < 18446744073709551616) : Ev E 7 109 [wideP neg m, U d] (U ((m % d : Nat) : Int)) :=
  Ev.mk fun n hn => by
    rw [wideP_eq, e109, s123 hd hd2 n hn]
    simp

theorem s108 {m d : Nat} (neg : Bool) (hm : m < 340282366920938463463374607431768211456) (hd : 0 < d) (hd2 : d < 18446744073709551616) : Ev E 6 108 [wideP neg m, U d] (wideP neg (m / d)) :=
  Ev.mk fun n hn => by
    have hq := Nat.lt_of_le_of_lt (Nat.div_le_self (m / 18446744073709551616) d) (show _ < 18446744073709551616 by omega)
    rw [wideP_eq, e108, bif_neg (decide_eq_false (by omega)), bif_neg (decide_eq_false (by omega)), Hi, tmodN, tdivN, s105N hd hd2 n hn, wu64 ⟨Int.natCast_nonneg _, Int.ofNat_lt.2 hq⟩]
    simp only [Option.bind_some, ok_tup, oks_cons, ok_int, oks_nil, Bool.and_true, cond_true, tupl_tup, List.headD_cons, toInt_int, wideP_eq, Hi, Lo, high_div]

/-! ### bit by bit -/
theorem fdiv63 {x : Int} (h0 : 0 ≤ x) : Int.fdiv x (2 ^ min (Int.toNat 63) 64) = x / 9223372036854775808 := by
  show Int.fdiv x 9223372036854775808 = _
  rw [Int.fdiv_eq_ediv_of_nonneg _ (by omega)]

theorem or_bit (x c : Nat) (hx : x < 18446744073709551616) (hc : c ≤ 1) :
    IntKind.wrap .u64 ((BitVec.ofInt 64 (IntKind.wrap .u64 ((x : Int) * 2 ^ min (Int.toNat 1) 64)) ||| BitVec.ofInt 64 (c : Int)).toNat) = ((2 * (x % 9223372036854775808) + c : Nat) : Int) := by
  have e : IntKind.wrap .u64 ((x : Int) * 2 ^ min (Int.toNat 1) 64) = ((x % 9223372036854775808 : Nat) : Int) * 2 ^ 1 := by
    show (x : Int) * 2 % 18446744073709551616 = _
    show _ = ((x % 9223372036854775808 : Nat) : Int) * 2
    omega
  rw [e, or_shift (by omega) (by omega) (by show ((x % 9223372036854775808 : Nat) : Int) * 2 < _; omega) (by show (c : Int) < 2; omega) (by omega)]
  show ((x % 9223372036854775808 : Nat) : Int) * 2 + c = _
  omega

theorem shl_hi {m c : Nat} (hm : m < 340282366920938463463374607431768211456) (hc : c ≤ 1) :
    IntKind.wrap .u64 ((BitVec.ofInt 64 (IntKind.wrap .u64 (Hi m * 2 ^ min (Int.toNat 1) 64)) ||| BitVec.ofInt 64 (Int.fdiv (Lo m) (2 ^ min (Int.toNat 63) 64))).toNat) = Hi ((2 * m + c) % 340282366920938463463374607431768211456) := by
  rw [fdiv63 (Lo_U m).1, show Lo m / 9223372036854775808 = ((m % 18446744073709551616 / 9223372036854775808 : Nat) : Int) from rfl]
  unfold Hi
  rw [or_bit _ _ (by omega) (by omega)]
  exact congrArg Int.ofNat (by omega)

theorem shl_lo {m c : Nat} (hc : c ≤ 1) :
    IntKind.wrap .u64 ((BitVec.ofInt 64 (IntKind.wrap .u64 (Lo m * 2 ^ min (Int.toNat 1) 64)) ||| BitVec.ofInt 64 (c : Int)).toNat) = Lo ((2 * m + c) % 340282366920938463463374607431768211456) := by
  unfold Lo
  rw [or_bit _ _ (by omega) hc]
  exact congrArg Int.ofNat (by omega)

theorem shl_lo0 {m : Nat} : IntKind.wrap .u64 (Lo m * 2 ^ min (Int.toNat 1) 64) = Lo ((2 * m + 0) % 340282366920938463463374607431768211456) := by
  show Lo m * 2 % 18446744073709551616 = _
  unfold Lo
  omega

theorem top_bit {m : Nat} : Int.fdiv (Hi m) (2 ^ min (Int.toNat 63) 64) = ((m / 170141183460469231731687303715884105728 : Nat) : Int) := by
  rw [fdiv63 (by unfold Hi; omega)]
  unfold Hi
  omega

theorem cmpN_ge {a b : Nat} : cmpN a b ≥ 0 ↔ b ≤ a := by
  unfold cmpN
  by_cases h : a < b
  · rw [if_pos h]; omega
  · rw [if_neg h]; split <;> omega

theorem step_alg {A P p a c : Nat} (h : A * P = p * 340282366920938463463374607431768211456 + a) (hc : c = a / 170141183460469231731687303715884105728) (ha : a < 340282366920938463463374607431768211456) :
    A * (P * 2) = (2 * p + c) * 340282366920938463463374607431768211456 + (2 * a + 0) % 340282366920938463463374607431768211456 := by
  rw [← Nat.mul_assoc, h]
  omega

theorem p_lt {A P p a : Nat} (h : A * P = p * 340282366920938463463374607431768211456 + a) (hA : A < 340282366920938463463374607431768211456) (hP : 0 < P) : p < P := by
  have h1 := Nat.mul_lt_mul_of_pos_right hA hP
  rw [h, Nat.mul_comm _ P] at h1
  exact Nat.lt_of_mul_lt_mul_right (a := 340282366920938463463374607431768211456) (Nat.lt_of_le_of_lt (Nat.le_add_right _ _) h1)

theorem q_alg {q r B p c : Nat} (h : q * B + r = p) : 2 * q * B + (2 * r + c) = 2 * p + c := by
  rw [← h, Nat.mul_assoc]; omega

theorem q_alg2 {q r B p c : Nat} (h : q * B + r = p) (hB : B ≤ 2 * r + c) : (2 * q + 1) * B + (2 * r + c - B) = 2 * p + c := by
  rw [← h, Nat.add_mul, Nat.mul_assoc]; omega

theorem q_le {q r B p : Nat} (h : q * B + r = p) (hB : 0 < B) : q ≤ p := by
  have := Nat.le_mul_of_pos_right q hB
  omega

theorem loop102 {n B A : Nat} (hn : 6 ≤ n) (hB : 0 < B) (hB2 : B ≤ 85070591730234615865843651857942052864) (hA : A < 340282366920938463463374607431768211456) {j1 j4 : Bool} {j2 j3 j5 j6 : Int} :
    ∀ (f i a p q r : Nat) (n0 n1 : Bool), 128 - i < f → i ≤ 128 → a < 340282366920938463463374607431768211456 → A * 2 ^ i = p * 340282366920938463463374607431768211456 + a → q * B + r = p → r < B →
    L102_0 n f i n0 (Hi a) (Lo a) n1 (Hi B) (Lo B) j1 j2 j3 j4 j5 j6 false (Hi q) (Lo q) false (Hi r) (Lo r) = some (.tup [wideP false (A / B), wideP false (A % B)])
  | 0, _, _, _, _, _, _, _, h, _, _, _, _, _ => by omega
  | f + 1, i, a, p, q, r, n0, n1, h1, h2, h3, h4, h5, h6 => by
    rw [show f + 1 = Nat.succ f from rfl, l102_0]
    have hpi := p_lt h4 hA (Nat.two_pow_pos i)
    by_cases hi : i < 128
    · have hP : 2 ^ i ≤ 170141183460469231731687303715884105728 := Nat.pow_le_pow_right (n := 2) (by omega) (show i ≤ 127 by omega)
      have hq := q_le h5 hB
      rw [bif_pos (decide_eq_true (by omega))]
      simp only [gate_eq, top_bit]
      obtain ⟨c, hc⟩ : ∃ c, c = a / 170141183460469231731687303715884105728 := ⟨_, rfl⟩
      have hc1 : c ≤ 1 := by omega
      rw [← hc, shl_hi (m := r) (c := c) (by omega) hc1, shl_lo (m := r) (c := c) hc1, Nat.mod_eq_of_lt (show 2 * r + c < 340282366920938463463374607431768211456 by omega), shl_hi (m := a) (c := 0) h3 (by omega), shl_lo0 (m := a)]
      have hcmp := s90 false n1 (2 * r + c) B n (by omega)
      rw [wideP_eq, wideP_eq] at hcmp
      have hs := step_alg h4 hc h3
      rw [← Nat.pow_succ] at hs
      rw [hcmp, w64 (x := (i : Int) + 1) (by omega)]
      simp only [Option.bind_some, ok_int, cond_true, toInt_int]
      by_cases hb : B ≤ 2 * r + c
      · have hp := s62 (na := false) (nb := true) (a := 2 * r + c) (b := B) (by omega) n hn
        rw [wideP_eq, wideP_eq] at hp
        unfold plusT at hp
        rw [if_neg (by decide), if_neg (by omega), Bool.false_and, wideP_eq] at hp
        rw [bif_pos (by exact decide_eq_true (cmpN_ge.2 hb)), hp]
        simp only [Option.bind_some, ok_agg, oks_cons, ok_int, ok_bool, oks_nil, Bool.and_true, cond_true, cs_agg, List.headD_cons, List.tail_cons, toInt_int, toBool_bool]
        have hone : (1 : Int) = ((1 : Nat) : Int) := rfl
        rw [shl_hi (m := q) (c := 1) (by omega) (by omega)]
        have e1 := shl_lo (m := q) (c := 1) (by omega)
        simp only [Int.natCast_one] at e1
        rw [e1, Nat.mod_eq_of_lt (show 2 * q + 1 < 340282366920938463463374607431768211456 by omega)]
        exact loop102 hn hB hB2 hA f (i + 1) _ _ _ _ _ _ (by omega) (by omega) (Nat.mod_lt _ (by omega)) hs (q_alg2 h5 hb) (by omega)
      · rw [bif_neg (by exact decide_eq_false (fun x => hb (cmpN_ge.1 x))), shl_hi (m := q) (c := 0) (by omega) (by omega), shl_lo0 (m := q), Nat.mod_eq_of_lt (show 2 * q + 0 < 340282366920938463463374607431768211456 by omega)]
        exact loop102 hn hB hB2 hA f (i + 1) _ _ _ _ _ _ (by omega) (by omega) (Nat.mod_lt _ (by omega)) hs (q_alg h5) (by omega)
    · obtain rfl : i = 128 := by omega
      rw [bif_neg (decide_eq_false (by omega))]
      have hpow : (2 : Nat) ^ 128 = 340282366920938463463374607431768211456 := rfl
      rw [hpow] at h4
      have hpA : p = A := by omega
      have hm := (Nat.div_mod_unique (a := A) (d := q) (c := r) hB).2 ⟨by rw [Nat.mul_comm B q]; omega, h6⟩
      rw [hm.1, hm.2]
      rfl

/-- Absolute values divided: the quotient and the rest. -/
theorem s102 {A B : Nat} (na nb : Bool) (hA : A < 340282366920938463463374607431768211456) (hB : 0 < B) (hB2 : B ≤ 85070591730234615865843651857942052864) :
    Ev E 140 102 [wideP na A, wideP nb B] (.tup [wideP false (A / B), wideP false (A % B)]) :=
  Ev.mk fun n hn => by
    rw [wideP_eq, wideP_eq, e102]
    by_cases h0 : B / 18446744073709551616 = 0
    · have hBw : B < 18446744073709551616 := by omega
      have hLo : Lo B = ((B : Nat) : Int) := by unfold Lo; rw [Nat.mod_eq_of_lt hBw]
      rw [bif_pos (by unfold Hi; rw [h0]; rfl), hLo]
      have h1 := s108 na hA hB hBw n (by omega)
      have h2 := s109 (m := A) na hB hBw n (by omega)
      rw [wideP_eq] at h1 h2
      rw [h1, h2]
      have h3 : A % B < 18446744073709551616 := Nat.lt_trans (Nat.mod_lt A hB) hBw
      simp only [Option.bind_some, wideP_eq, ok_agg, oks_cons, ok_int, ok_bool, oks_nil, Bool.and_true, cond_true, cs_agg, List.headD_cons, List.tail_cons, toInt_int]
      unfold Hi Lo
      rw [Nat.div_eq_of_lt h3, Nat.mod_eq_of_lt h3]
      rfl
    · rw [bif_neg (by unfold Hi; rw [show ((0 : Int)) = ((0 : Nat) : Int) from rfl]; simp; omega)]
      exact loop102 (by omega) hB hB2 hA n 0 A 0 0 0 na nb (by omega) (by omega) hA (by simp) (by simp) hB

theorem s87 {A B : Nat} (na nb : Bool) (hA : A < 340282366920938463463374607431768211456) (hB : 0 < B) (hB2 : B ≤ 85070591730234615865843651857942052864) :
    Ev E 141 87 [wideP na A, wideP nb B] (wideP false (A % B)) :=
  Ev.mk fun n hn => by
    have h := s102 na nb hA hB hB2 n hn
    rw [wideP_eq, wideP_eq] at h ⊢
    rw [e87, h]
    simp [wideP_eq]

theorem s88 {A B : Nat} (na nb : Bool) (hA : A < 340282366920938463463374607431768211456) (hB : 0 < B) (hB2 : B ≤ 85070591730234615865843651857942052864) :
    Ev E 141 88 [wideP na A, wideP nb B] (wideP (na && decide (A / B ≠ 0)) (A / B)) :=
  Ev.mk fun n hn => by
    have h := s102 na nb hA hB hB2 n hn
    have h2 := Nat.div_le_self A B
    rw [wideP_eq, wideP_eq] at h
    rw [wideP_eq, wideP_eq, e88, h]
    simp only [Option.bind_some, wideP_eq, ok_tup, ok_agg, oks_cons, ok_int, ok_bool, oks_nil, Bool.and_true, Bool.and_self, cond_true, cs_agg, tupl_tup, List.headD_cons, List.tail_cons, toInt_int, gate_eq]
    rw [ne_words (m := A / B) (by omega)]
    cases na <;> rfl

end Go.Proofs.Bw.Qb
