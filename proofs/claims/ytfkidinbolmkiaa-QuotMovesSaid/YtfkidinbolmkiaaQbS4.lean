/-
  SPECS 4: lengths of words; words of 128 bits divided by words of 64.
-/
import Derived.Test.YtfkidinbolmkiaaQbE4
import Derived.Test.YtfkidinbolmkiaaQbS3
import Derived.Test.YtfkidinbolmkiaaBw4
set_option linter.unusedSimpArgs false
set_option linter.unusedVariables false
namespace Go.Proofs.Bw.Qb
open Go.Proofs

theorem fdiv16 {x : Int} (h0 : 0 ≤ x) : Int.fdiv x (2 ^ min (Int.toNat 16) 64) = x / 65536 := by
  show Int.fdiv x 65536 = _
  rw [Int.fdiv_eq_ediv_of_nonneg _ (by omega)]
theorem fdiv8 {x : Int} (h0 : 0 ≤ x) : Int.fdiv x (2 ^ min (Int.toNat 8) 64) = x / 256 := by
  show Int.fdiv x 256 = _
  rw [Int.fdiv_eq_ediv_of_nonneg _ (by omega)]
theorem wu8 {x : Int} (h : 0 ≤ x ∧ x < 256) : IntKind.wrap .u8 x = x := by
  show x % 256 = x
  omega

def chk8 (i : Nat) : Bool :=
  match nth len8 i with
  | some b => decide (b.toNat ≤ 8) && decide (i < 2 ^ b.toNat) && decide (i = 0 ∨ 2 ^ b.toNat ≤ 2 * i)
  | none => false

theorem chk8_all : (List.range 256).all chk8 = true := by decide +kernel

theorem len8_get {i : Nat} (h : i < 256) (h0 : 0 < i) : ∃ b : UInt8, nth len8 i = some b ∧ b.toNat ≤ 8 ∧ i < 2 ^ b.toNat ∧ 2 ^ b.toNat ≤ 2 * i := by
  have := List.all_eq_true.1 chk8_all i (List.mem_range.2 h)
  unfold chk8 at this
  split at this
  · rename_i b hb
    simp only [Bool.and_eq_true, decide_eq_true_eq] at this
    exact ⟨b, hb, this.1.1, this.1.2, this.2.resolve_left (by omega)⟩
  · cases this

theorem wrap8 (b : UInt8) : IntKind.wrap .i64 (b.toNat : Int) = b.toNat := w64 (by have := b.toNat_lt; omega)

/-- A word's length out of the length of its top byte. -/
theorem len_up {y k D : Nat} {z : Int} (hD : D = 2 ^ k) (hz : z = ((y / D : Nat) : Int)) (h1 : y / D < 256) (h2 : 0 < y / D) :
    ∃ b : UInt8, nth len8 (Int.toNat (IntKind.wrap .u8 z)) = some b ∧ 0 ≤ IntKind.wrap .u8 z ∧ b.toNat ≤ 8 ∧ y < 2 ^ (k + b.toNat) ∧ 2 ^ (k + b.toNat) ≤ 2 * y := by
  subst hz
  rw [wu8 (by omega), Int.toNat_natCast]
  obtain ⟨b, e, b1, b2, b3⟩ := len8_get h1 h2
  refine ⟨b, e, by omega, b1, ?_, ?_⟩
  · rw [Nat.pow_add, ← hD]
    have := (Nat.div_lt_iff_lt_mul (by rw [hD]; exact Nat.two_pow_pos k)).1 b2
    rw [Nat.mul_comm]; exact this
  · rw [Nat.pow_add, ← hD]
    have h4 := Nat.mul_le_mul_left D b3
    have h5 := Nat.mul_div_le y D
    rw [show D * (2 * (y / D)) = 2 * (D * (y / D)) from Nat.mul_left_comm ..] at h4
    omega

theorem s122 {y : Nat} (h0 : 0 < y) (h1 : y < 18446744073709551616) : ∃ n : Nat, n ≤ 64 ∧ y < 2 ^ n ∧ 2 ^ n ≤ 2 * y ∧ Ev E 1 122 [U y] (I n) := by
  have mk : ∀ k (D : Nat) (z : Int), D = 2 ^ k → k ≤ 56 → z = ((y / D : Nat) : Int) → y / D < 256 → 0 < y / D →
      (∀ b : UInt8, nth len8 (Int.toNat (IntKind.wrap .u8 z)) = some b → 0 ≤ IntKind.wrap .u8 z → b.toNat ≤ 8 → ∀ n, evQ E n 122 [Tree.int .u64 y] = some (I (k + b.toNat : Nat))) →
      ∃ n : Nat, n ≤ 64 ∧ y < 2 ^ n ∧ 2 ^ n ≤ 2 * y ∧ Ev E 1 122 [U y] (I n) := by
    intro k D z hD hk hz g1 g2 h
    obtain ⟨b, e, e0, e1, e2, e3⟩ := len_up hD hz g1 g2
    exact ⟨k + b.toNat, by omega, e2, e3, Ev.mk fun n _ => h b e e0 e1 n⟩
  by_cases c1 : y ≥ 4294967296
  · by_cases c2 : y / 4294967296 ≥ 65536
    · by_cases c3 : y / 4294967296 / 65536 ≥ 256
      · refine mk 56 (2 ^ 56) (((y : Int) / 4294967296) / 65536 / 256) rfl (by omega) (by omega) (by omega) (by omega) fun b e e0 e1 n => ?_
        rw [e122, bif_pos (by simp; omega), fdiv32 (by omega), bif_pos (by simp; omega), fdiv16 (by omega), bif_pos (by simp; omega), fdiv8 (by omega), bif_pos (by simpa using e0), e, Option.bind_some, wrap8]
        rw [w64 (x := 32 + 16) (by omega), w64 (x := 32 + 16 + 8) (by omega), w64 (by omega)]; simp
      · refine mk 48 (2 ^ 48) (((y : Int) / 4294967296) / 65536) rfl (by omega) (by omega) (by omega) (by omega) fun b e e0 e1 n => ?_
        rw [e122, bif_pos (by simp; omega), fdiv32 (by omega), bif_pos (by simp; omega), fdiv16 (by omega), bif_neg (by simp; omega), bif_pos (by simpa using e0), e, Option.bind_some, wrap8]
        rw [w64 (x := 32 + 16) (by omega), w64 (by omega)]; simp
    · by_cases c3 : y / 4294967296 ≥ 256
      · refine mk 40 (2 ^ 40) (((y : Int) / 4294967296) / 256) rfl (by omega) (by omega) (by omega) (by omega) fun b e e0 e1 n => ?_
        rw [e122, bif_pos (by simp; omega), fdiv32 (by omega), bif_neg (by simp; omega), bif_pos (by simp; omega), fdiv8 (by omega), bif_pos (by simpa using e0), e, Option.bind_some, wrap8]
        rw [w64 (x := 32 + 8) (by omega), w64 (by omega)]; simp
      · refine mk 32 (2 ^ 32) ((y : Int) / 4294967296) rfl (by omega) (by omega) (by omega) (by omega) fun b e e0 e1 n => ?_
        rw [e122, bif_pos (by simp; omega), fdiv32 (by omega), bif_neg (by simp; omega), bif_neg (by simp; omega), bif_pos (by simpa using e0), e, Option.bind_some, wrap8]
        rw [w64 (by omega)]; simp
  · by_cases c2 : y ≥ 65536
    · by_cases c3 : y / 65536 ≥ 256
      · refine mk 24 (2 ^ 24) (((y : Int) / 65536) / 256) rfl (by omega) (by omega) (by omega) (by omega) fun b e e0 e1 n => ?_
        rw [e122, bif_neg (by simp; omega), bif_pos (by simp; omega), fdiv16 (by omega), bif_pos (by simp; omega), fdiv8 (by omega), bif_pos (by simpa using e0), e, Option.bind_some, wrap8]
        rw [w64 (x := 0 + 16) (by omega), w64 (x := 0 + 16 + 8) (by omega), w64 (by omega)]; simp
      · refine mk 16 (2 ^ 16) ((y : Int) / 65536) rfl (by omega) (by omega) (by omega) (by omega) fun b e e0 e1 n => ?_
        rw [e122, bif_neg (by simp; omega), bif_pos (by simp; omega), fdiv16 (by omega), bif_neg (by simp; omega), bif_pos (by simpa using e0), e, Option.bind_some, wrap8]
        rw [w64 (x := 0 + 16) (by omega), w64 (by omega)]; simp
    · by_cases c3 : y ≥ 256
      · refine mk 8 (2 ^ 8) ((y : Int) / 256) rfl (by omega) (by omega) (by omega) (by omega) fun b e e0 e1 n => ?_
        rw [e122, bif_neg (by simp; omega), bif_neg (by simp; omega), bif_pos (by simp; omega), fdiv8 (by omega), bif_pos (by simpa using e0), e, Option.bind_some, wrap8]
        rw [w64 (x := 0 + 8) (by omega), w64 (by omega)]; simp
      · refine mk 0 (2 ^ 0) (y : Int) rfl (by omega) (by simp) (by omega) (by omega) fun b e e0 e1 n => ?_
        rw [e122, bif_neg (by simp; omega), bif_neg (by simp; omega), bif_neg (by simp; omega), bif_pos (by simpa using e0), e, Option.bind_some, wrap8]
        rw [w64 (by omega)]; simp

/-- How far a word is to be shifted. -/
theorem s111 {y : Nat} (h0 : 0 < y) (h1 : y < 18446744073709551616) : ∃ s : Nat, s ≤ 63 ∧ 9223372036854775808 ≤ y * 2 ^ s ∧ y * 2 ^ s < 18446744073709551616 ∧ Ev E 2 111 [U y] (I s) := by
  obtain ⟨n, h2, h3, h4, h5⟩ := s122 h0 h1
  have hn : 1 ≤ n := by
    by_cases hn : n = 0
    · subst hn; simp at h3; omega
    · omega
  have e : 2 ^ n * 2 ^ (64 - n) = 18446744073709551616 := by rw [← Nat.pow_add, show n + (64 - n) = 64 by omega]
  refine ⟨64 - n, by omega, ?_, ?_, Ev.mk fun k hk => ?_⟩
  · have := Nat.mul_le_mul_right (2 ^ (64 - n)) h4
    rw [e, Nat.mul_assoc] at this
    omega
  · have := Nat.mul_lt_mul_of_pos_right h3 (Nat.two_pow_pos (64 - n))
    rw [e] at this
    exact this
  · rw [e111, h5 k (by omega)]
    simp only [Option.bind_some, ok_int, cond_true, toInt_int]
    rw [w64 (by omega), show (64 : Int) - n = ((64 - n : Nat) : Int) by omega]

def un21 (y u u1 Q : Int) : Int := IntKind.wrap .u64 (IntKind.wrap .u64 (IntKind.wrap .u64 (u * 4294967296) + u1) - IntKind.wrap .u64 (Q * y))

theorem loop105_0 {n : Nat} {y s y1 y0 u u1 u0 Q : Int} : ∀ (f : Nat) (q r : Int), Guess y1 y0 u u1 Q q r → 4294967296 ≤ r + f * 2147483648 →
    L105_0 n f y s y1 y0 u u1 u0 q r = L105_1 n n y s y1 y0 u0 Q (IntKind.wrap .u64 (un21 y u u1 Q - IntKind.wrap .u64 (IntKind.wrap .u64 (Int.tdiv (un21 y u u1 Q) y1) * y1))) (un21 y u u1 Q) (IntKind.wrap .u64 (Int.tdiv (un21 y u u1 Q) y1))
  | 0, q, r, g, h => by have := g.ru; omega
  | f + 1, q, r, g, h => by
    have a1 := g.d.y1l; have a2 := g.d.y1u; have a3 := g.d.y0l; have a4 := g.d.y0u; have a5 := g.d.u1l; have a6 := g.d.u1u
    have b1 := g.rl; have b2 := g.ru; have b3 := g.Qq; have b4 := g.qu; have b5 := g.d.Ql
    rw [show f + 1 = Nat.succ f from rfl, l105_0, wu64 (x := r + y1) (by omega)]
    by_cases c : q ≥ 4294967296
    · rw [bif_pos (decide_eq_true c), wu64 (x := q - 1) (by omega)]
      by_cases c2 : r + y1 ≥ 4294967296
      · rw [bif_pos (decide_eq_true c2), bif_neg (decide_eq_false (by omega)), g.last (.inl c) c2]; rfl
      · rw [bif_neg (decide_eq_false c2)]
        exact loop105_0 f _ _ (g.next (.inl c) (by omega)) (by omega)
    · rw [bif_neg (decide_eq_false c)]
      have m1 : 0 ≤ q * y0 := Int.mul_nonneg (by omega) a3
      have m2 : q * y0 ≤ 4294967295 * 4294967295 := Int.mul_le_mul (by omega) (by omega) a3 (by omega)
      rw [wu64 (x := q * y0) (by omega), wu64 (x := 4294967296 * r) (by omega), wu64 (x := 4294967296 * r + u1) (by omega)]
      by_cases c1 : q * y0 > 4294967296 * r + u1
      · rw [bif_pos (decide_eq_true c1), wu64 (x := q - 1) (by have := g.down (.inr c1); omega)]
        by_cases c2 : r + y1 ≥ 4294967296
        · rw [bif_pos (decide_eq_true c2), bif_neg (decide_eq_false (by omega)), g.last (.inr c1) c2]; rfl
        · rw [bif_neg (decide_eq_false c2)]
          exact loop105_0 f _ _ (g.next (.inr c1) (by omega)) (by omega)
      · rw [bif_neg (decide_eq_false c1), bif_neg (decide_eq_false (by omega)), g.stop (by omega) (by omega)]; rfl

theorem loop105_1 {n : Nat} {y y1 y0 u u1 Q q1 : Int} {s : Nat} : ∀ (f : Nat) (q r : Int), Guess y1 y0 u u1 Q q r → 4294967296 ≤ r + f * 2147483648 →
    L105_1 n f y s y1 y0 u1 q1 r u q = some (.tup [U (IntKind.wrap .u64 (IntKind.wrap .u64 (q1 * 4294967296) + Q)), U (Int.fdiv (un21 y u u1 Q) (2 ^ min (Int.toNat s) 64))])
  | 0, q, r, g, h => by have := g.ru; omega
  | f + 1, q, r, g, h => by
    have a1 := g.d.y1l; have a2 := g.d.y1u; have a3 := g.d.y0l; have a4 := g.d.y0u; have a5 := g.d.u1l; have a6 := g.d.u1u
    have b1 := g.rl; have b2 := g.ru; have b3 := g.Qq; have b4 := g.qu; have b5 := g.d.Ql
    rw [show f + 1 = Nat.succ f from rfl, l105_1, wu64 (x := r + y1) (by omega)]
    have hs : decide ((s : Int) < 0) = false := decide_eq_false (by omega)
    rw [hs]
    simp only [cond_false]
    by_cases c : q ≥ 4294967296
    · rw [bif_pos (decide_eq_true c), wu64 (x := q - 1) (by omega)]
      by_cases c2 : r + y1 ≥ 4294967296
      · rw [bif_pos (decide_eq_true c2), g.last (.inl c) c2]; rfl
      · rw [bif_neg (decide_eq_false c2)]
        exact loop105_1 f _ _ (g.next (.inl c) (by omega)) (by omega)
    · rw [bif_neg (decide_eq_false c)]
      have m1 : 0 ≤ q * y0 := Int.mul_nonneg (by omega) a3
      have m2 : q * y0 ≤ 4294967295 * 4294967295 := Int.mul_le_mul (by omega) (by omega) a3 (by omega)
      rw [wu64 (x := q * y0) (by omega), wu64 (x := 4294967296 * r) (by omega), wu64 (x := 4294967296 * r + u1) (by omega)]
      by_cases c1 : q * y0 > 4294967296 * r + u1
      · rw [bif_pos (decide_eq_true c1), wu64 (x := q - 1) (by have := g.down (.inr c1); omega)]
        by_cases c2 : r + y1 ≥ 4294967296
        · rw [bif_pos (decide_eq_true c2), g.last (.inr c1) c2]; rfl
        · rw [bif_neg (decide_eq_false c2)]
          exact loop105_1 f _ _ (g.next (.inr c1) (by omega)) (by omega)
      · rw [bif_neg (decide_eq_false c1), g.stop (by omega) (by omega)]; rfl

/-- What is left of a digit. -/
theorem un21_eq {y1 y0 u u1 Q : Int} (d : Dig y1 y0 u u1 Q) : un21 (4294967296 * y1 + y0) u u1 Q = 4294967296 * u + u1 - Q * (4294967296 * y1 + y0) := by
  obtain ⟨a1, a2, a3, a4, a5, a6, a7, a8, a9, a10, a11, a12⟩ := d
  have e1 : Q * (4294967296 * y1 + y0) = 4294967296 * (Q * y1) + Q * y0 := by rw [Int.mul_add, Int.mul_left_comm]
  unfold un21
  rw [e1]
  generalize 4294967296 * (Q * y1) + Q * y0 = M at *
  simp only [wu64_eq]
  omega

theorem or_shift {a b : Int} {s : Nat} (ha : 0 ≤ a) (hb : 0 ≤ b) (hab : a * 2 ^ s < 18446744073709551616) (hbs : b < 2 ^ s) (hbu : b < 18446744073709551616) :
    IntKind.wrap .u64 ((BitVec.ofInt 64 (a * 2 ^ s) ||| BitVec.ofInt 64 b).toNat) = a * 2 ^ s + b := by
  obtain ⟨a, rfl⟩ := Int.eq_ofNat_of_zero_le ha
  obtain ⟨b, rfl⟩ := Int.eq_ofNat_of_zero_le hb
  have e : (2 : Int) ^ s = ((2 ^ s : Nat) : Int) := by simp
  rw [e] at hab hbs ⊢
  have p0 : (0 : Int) ≤ (a : Int) * ((2 ^ s : Nat) : Int) := Int.mul_nonneg (by omega) (by omega)
  rw [BitVec.toNat_or, ofInt64_toNat p0 hab, ofInt64_toNat (by omega) hbu]
  have e2 : (a : Int) * ((2 ^ s : Nat) : Int) = ((2 ^ s * a : Nat) : Int) := by rw [Nat.mul_comm, Int.natCast_mul]
  rw [e2] at hab ⊢
  rw [Int.toNat_natCast, Int.toNat_natCast, ← Nat.two_pow_add_eq_or_of_lt (by omega)]
  have hlt : (2 ^ s * a + b : Nat) < 18446744073709551616 := by
    have : 2 ^ s * a + b < 2 ^ s * (a + 1) := by rw [Nat.mul_add]; omega
    have h63 : 2 ^ s * a ≤ 2 ^ s * a := Nat.le_refl _
    have hor : 2 ^ s * a ||| b < 2 ^ 64 := Nat.or_lt_two_pow (by omega) (by omega)
    rw [← Nat.two_pow_add_eq_or_of_lt (by omega)] at hor
    omega
  rw [wu64 (by omega)]
  omega

theorem div_fin {N a2 S Q w : Int} (hS : 0 < S) (h : Q * (a2 * S) + w = N * S) (w0 : 0 ≤ w) (w1 : w < a2 * S) (ha : 0 < a2) : N / a2 = Q ∧ N % a2 = w / S := by
  have e : w = (N - Q * a2) * S := by rw [Int.sub_mul, Int.mul_assoc]; omega
  have e2 : w / S = N - Q * a2 := by rw [e]; exact Int.mul_ediv_cancel _ (by omega)
  rw [e2]
  refine (Int.ediv_emod_unique ha).2 ⟨by rw [Int.mul_comm a2 Q]; omega, ?_, ?_⟩
  · rw [e] at w0; exact Int.nonneg_of_mul_nonneg_left w0 hS
  · rw [e] at w1; exact Int.lt_of_mul_lt_mul_right w1 (by omega)

theorem s105 {a0 a1 a2 : Int} (h0 : 0 ≤ a0) (h1 : a0 < a2) (hu1 : isU a1) (hu2 : a2 < 18446744073709551616) :
    Ev E 5 105 [U a0, U a1, U a2] (.tup [U ((a0 * 18446744073709551616 + a1) / a2), U ((a0 * 18446744073709551616 + a1) % a2)]) :=
  Ev.mk fun n hn => by
    obtain ⟨b0, b1⟩ := hu1
    rw [e105, bif_neg (by simp; omega), bif_neg (decide_eq_false (by omega))]
    by_cases c : a0 = 0
    · subst c
      rw [bif_pos (show ((0 : Int) == 0) = true from rfl), bif_neg (decide_eq_false (by omega)), bif_neg (decide_eq_false (by omega)), Int.tdiv_eq_ediv_of_nonneg b0, Int.tmod_eq_emod_of_nonneg b0]
      have e1 := Int.ediv_nonneg b0 (show 0 ≤ a2 by omega)
      have e2 := Int.ediv_le_self a2 b0
      rw [wu64 (by omega)]
      simp
    · obtain ⟨y, rfl⟩ := Int.eq_ofNat_of_zero_le (show 0 ≤ a2 by omega)
      obtain ⟨s, hs, hy1, hy2, hl⟩ := s111 (y := y) (by omega) (by omega)
      rw [bif_neg (by simp; omega), hl n (by omega)]
      simp only [Option.bind_some, ok_int, cond_true, toInt_int]
      have ws : IntKind.wrap .u64 (s : Int) = s := wu64 (by omega)
      have ws2 : IntKind.wrap .u64 (64 - (s : Int)) = 64 - s := wu64 (by omega)
      simp only [ws, ws2]
      rw [bif_neg (decide_eq_false (by omega)), bif_neg (decide_eq_false (by omega)), bif_neg (decide_eq_false (by omega)), bif_neg (decide_eq_false (by omega))]
      rw [show (64 : Int) - s = ((64 - s : Nat) : Int) by omega]
      simp only [Int.toNat_natCast]
      simp only [Nat.min_eq_left (show s ≤ 64 by omega), Nat.min_eq_left (show 64 - s ≤ 64 by omega)]
      have hST : (2 : Int) ^ s * 2 ^ (64 - s) = 18446744073709551616 := by rw [← Int.pow_add, show s + (64 - s) = 64 by omega]; rfl
      have hSp : (0 : Int) < 2 ^ s := Int.pow_pos (by omega)
      have hTp : (0 : Int) < 2 ^ (64 - s) := Int.pow_pos (by omega)
      have hyS : (y : Int) * 2 ^ s = ((y * 2 ^ s : Nat) : Int) := by simp
      have hY1 : 9223372036854775808 ≤ (y : Int) * 2 ^ s := by rw [hyS]; omega
      have hY2 : (y : Int) * 2 ^ s < 18446744073709551616 := by rw [hyS]; omega
      have hq : a1 / 2 ^ (64 - s) < 2 ^ s := Int.ediv_lt_of_lt_mul hTp (by rw [hST]; exact b1)
      have hq0 : 0 ≤ a1 / 2 ^ (64 - s) := Int.ediv_nonneg b0 (by omega)
      have hqu : a1 / 2 ^ (64 - s) < 18446744073709551616 := Int.lt_of_le_of_lt (Int.ediv_le_self _ b0) b1
      have hle : (a0 + 1) * 2 ^ s ≤ (y : Int) * 2 ^ s := Int.mul_le_mul_of_nonneg_right (by omega) (by omega)
      rw [Int.add_mul, Int.one_mul] at hle
      have h00 : 0 ≤ a0 * 2 ^ s := Int.mul_nonneg h0 (by omega)
      simp only [gate_eq]
      have wy : IntKind.wrap .u64 ((y : Int) * 2 ^ s) = y * 2 ^ s := wu64 (by omega)
      have wa : IntKind.wrap .u64 (a0 * 2 ^ s) = a0 * 2 ^ s := wu64 (by omega)
      simp only [wy, wa, Int.fdiv_eq_ediv_of_nonneg a1 (Int.le_of_lt hTp), or_shift h0 hq0 (show a0 * 2 ^ s < 18446744073709551616 by omega) hq hqu]
      have em := Int.mul_ediv_add_emod a1 (2 ^ (64 - s))
      have em0 := Int.emod_nonneg a1 (Int.ne_of_gt hTp)
      have em1 := Int.emod_lt_of_pos a1 hTp
      have hw : IntKind.wrap .u64 (a1 * 2 ^ s) = (a1 % 2 ^ (64 - s)) * 2 ^ s := by
        have e1 : a1 * 2 ^ s = a1 / 2 ^ (64 - s) * 18446744073709551616 + (a1 % 2 ^ (64 - s)) * 2 ^ s := by
          rw [← hST, Int.mul_comm (2 ^ s), ← Int.mul_assoc, ← Int.add_mul, Int.mul_comm _ (2 ^ (64 - s)), em]
        have e2 : (a1 % 2 ^ (64 - s)) * 2 ^ s < 2 ^ (64 - s) * 2 ^ s := Int.mul_lt_mul_of_pos_right em1 hSp
        have e3 : 0 ≤ (a1 % 2 ^ (64 - s)) * 2 ^ s := Int.mul_nonneg em0 (by omega)
        rw [Int.mul_comm (2 ^ (64 - s)), hST] at e2
        rw [wu64_eq, e1, Int.add_comm, Int.add_mul_emod_self_right, Int.emod_eq_of_lt e3 e2]
      have hN : (a0 * 18446744073709551616 + a1) * 2 ^ s = (a0 * 2 ^ s + a1 / 2 ^ (64 - s)) * 18446744073709551616 + (a1 % 2 ^ (64 - s)) * 2 ^ s := by
        have e1 : a1 * 2 ^ s = a1 / 2 ^ (64 - s) * 18446744073709551616 + (a1 % 2 ^ (64 - s)) * 2 ^ s := by
          rw [← hST, Int.mul_comm (2 ^ s), ← Int.mul_assoc, ← Int.add_mul, Int.mul_comm _ (2 ^ (64 - s)), em]
        rw [Int.add_mul, e1, Int.add_mul, Int.mul_right_comm]; omega
      have hw1 : 0 ≤ (a1 % 2 ^ (64 - s)) * 2 ^ s := Int.mul_nonneg em0 (by omega)
      have hw2 : (a1 % 2 ^ (64 - s)) * 2 ^ s < 18446744073709551616 := by
        have e2 : (a1 % 2 ^ (64 - s)) * 2 ^ s < 2 ^ (64 - s) * 2 ^ s := Int.mul_lt_mul_of_pos_right em1 hSp
        rw [Int.mul_comm (2 ^ (64 - s)), hST] at e2
        exact e2
      simp only [hw]
      have hu : a0 * 2 ^ s + a1 / 2 ^ (64 - s) < (y : Int) * 2 ^ s := by omega
      have hul : 0 ≤ a0 * 2 ^ s + a1 / 2 ^ (64 - s) := by omega
      generalize a0 * 2 ^ s + a1 / 2 ^ (64 - s) = u at *
      generalize (a1 % 2 ^ (64 - s)) * 2 ^ s = t at *
      generalize hYe : (y : Int) * 2 ^ s = Y at *
      simp only [fdiv32 (show 0 ≤ Y by omega), fdiv32 hw1, and_mask32 (show 0 ≤ Y by omega) hY2, and_mask32 hw1 hw2, Int.tdiv_eq_ediv_of_nonneg hul]
      rw [bif_neg (decide_eq_false (by omega))]
      have d1 := Dig.mk' (y1 := Y / 4294967296) (y0 := Y % 4294967296) (u := u) (u1 := t / 4294967296) (by omega) (by omega) (by omega) (by omega) hul (by omega) (by omega) (by omega)
      have hYY : 4294967296 * (Y / 4294967296) + Y % 4294967296 = Y := Int.mul_ediv_add_emod _ _
      generalize (4294967296 * u + t / 4294967296) / (4294967296 * (Y / 4294967296) + Y % 4294967296) = Q1 at *
      have g1 := d1.first
      have k1 := Int.ediv_nonneg hul (show 0 ≤ Y / 4294967296 by omega)
      have k2 := g1.qu
      have k3 := g1.rl
      have k4 := g1.ru
      have k5 : 0 ≤ u / (Y / 4294967296) * (Y / 4294967296) := Int.mul_nonneg k1 (by omega)
      rw [wu64 (x := u / (Y / 4294967296)) (by omega), wu64 (x := u / (Y / 4294967296) * (Y / 4294967296)) (by omega), wu64 (x := u - u / (Y / 4294967296) * (Y / 4294967296)) (by omega)]
      rw [loop105_0 n _ _ g1 (by omega)]
      have v1 := un21_eq d1
      rw [hYY] at v1
      rw [v1]
      have l1 := d1.le; have l2 := d1.lt
      have e1 : Q1 * Y = 4294967296 * (Q1 * (Y / 4294967296)) + Q1 * (Y % 4294967296) := by
        conv => lhs; rw [← hYY]
        rw [Int.mul_add, Int.mul_left_comm]
      have l3 : 0 ≤ 4294967296 * u + t / 4294967296 - Q1 * Y := by omega
      have l4 : 4294967296 * u + t / 4294967296 - Q1 * Y < Y := by omega
      generalize hv : 4294967296 * u + t / 4294967296 - Q1 * Y = v at *
      have d2 := Dig.mk' (y1 := Y / 4294967296) (y0 := Y % 4294967296) (u := v) (u1 := t % 4294967296) (by omega) (by omega) (by omega) (by omega) l3 (by omega) (by omega) (by omega)
      generalize (4294967296 * v + t % 4294967296) / (4294967296 * (Y / 4294967296) + Y % 4294967296) = Q2 at *
      have g2 := d2.first
      have k1 := Int.ediv_nonneg l3 (show 0 ≤ Y / 4294967296 by omega)
      have k2 := g2.qu
      have k3 := g2.rl
      have k4 := g2.ru
      have k5 : 0 ≤ v / (Y / 4294967296) * (Y / 4294967296) := Int.mul_nonneg k1 (by omega)
      rw [Int.tdiv_eq_ediv_of_nonneg l3, wu64 (x := v / (Y / 4294967296)) (by omega), wu64 (x := v / (Y / 4294967296) * (Y / 4294967296)) (by omega), wu64 (x := v - v / (Y / 4294967296) * (Y / 4294967296)) (by omega)]
      rw [loop105_1 n _ _ g2 (by omega)]
      have v2 := un21_eq d2
      rw [hYY] at v2
      rw [v2]
      have q1 := d1.Ql; have q2 := d1.Qu; have q3 := d2.Ql; have q4 := d2.Qu
      rw [wu64 (x := Q1 * 4294967296) (by omega), wu64 (x := Q1 * 4294967296 + Q2) (by omega), Int.toNat_natCast, Nat.min_eq_left (show s ≤ 64 by omega), Int.fdiv_eq_ediv_of_nonneg _ (Int.le_of_lt hSp)]
      have m1 := d2.le; have m2 := d2.lt
      have e2 : Q2 * Y = 4294967296 * (Q2 * (Y / 4294967296)) + Q2 * (Y % 4294967296) := by
        conv => lhs; rw [← hYY]
        rw [Int.mul_add, Int.mul_left_comm]
      have fin := div_fin (N := a0 * 18446744073709551616 + a1) (a2 := y) (S := 2 ^ s) (Q := Q1 * 4294967296 + Q2) (w := 4294967296 * v + t % 4294967296 - Q2 * Y) hSp
        (by rw [hYe, hN, Int.add_mul, Int.mul_right_comm]; omega) (by omega) (by rw [hYe]; omega) (by omega)
      rw [fin.1, fin.2]

end Go.Proofs.Bw.Qb
