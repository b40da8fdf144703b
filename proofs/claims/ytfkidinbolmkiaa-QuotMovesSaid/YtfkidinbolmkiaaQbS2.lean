/-
  SPECS 2: products of numbers in words.
-/
import Derived.Test.YtfkidinbolmkiaaQbS1
import Derived.Test.YtfkidinbolmkiaaBw4
set_option linter.unusedSimpArgs false
set_option linter.unusedVariables false
namespace Go.Proofs.Bw.Qb
open Go.Proofs

theorem s82 {a b : Int} (ha : isU a) (hb : isU b) : Ev E 1 82 [U a, U b] (.tup [U (a * b / 18446744073709551616), U (a * b % 18446744073709551616)]) :=
  Ev.mk fun n _ => by
    show evQ E n 82 [Tree.int .u64 a, Tree.int .u64 b] = _
    obtain ⟨a0, a1⟩ := ha
    obtain ⟨b0, b1⟩ := hb
    rw [e82]
    simp only [gate_eq]
    rw [and_mask32 a0 a1, and_mask32 b0 b1, fdiv32 a0, fdiv32 b0]
    obtain ⟨w0, t, v, e1, h1, h2, e2, h3, h4, e3, h5, h6, h7, h8, h9, h10, h11, h12, e⟩ := mul64_high a0 a1 b0 b1
    rw [← e1, wu64 (x := w0) (by omega), fdiv32 h1, wu64 (x := a / 4294967296 * (b % 4294967296)) ⟨h7, h8⟩, ← e2, wu64 (x := t) ⟨h3, h4⟩, fdiv32 h3, and_mask32 h3 h4,
      wu64 (x := a % 4294967296 * (b / 4294967296)) ⟨h9, h10⟩, ← e3, wu64 (x := v) ⟨h5, h6⟩, fdiv32 h5, wu64 (x := a / 4294967296 * (b / 4294967296)) (by omega), wu64_eq, wu64_eq, wu64_eq]
    have hh : a * b < 18446744073709551616 * 18446744073709551616 :=
      Int.lt_of_le_of_lt (Int.mul_le_mul (show a ≤ 18446744073709551615 by omega) (show b ≤ 18446744073709551615 by omega) b0 (by omega)) (by omega)
    have hq : 0 ≤ a * b / 18446744073709551616 ∧ a * b / 18446744073709551616 < 18446744073709551616 := by
      have := Int.mul_nonneg a0 b0
      omega
    rw [← e] at hq ⊢
    rw [show (a / 4294967296 * (b / 4294967296) + t / 4294967296) % 18446744073709551616 = a / 4294967296 * (b / 4294967296) + t / 4294967296 by omega, Int.emod_eq_of_lt hq.1 hq.2]

theorem abs_spec (z : Int) (h : -9223372036854775808 < z ∧ z < 9223372036854775808) : (bif decide (z < 0) then some (Tree.int IntKind.u64 (IntKind.wrap IntKind.u64 (IntKind.wrap IntKind.i64 (0 - z)))) else some (Tree.int IntKind.u64 (IntKind.wrap IntKind.u64 z))) = some (U z.natAbs) := by
  by_cases h2 : z < 0
  · rw [decide_eq_true h2, cond_true, w64 (by omega), wu64 (by omega), show 0 - z = (z.natAbs : Int) by omega]
  · rw [decide_eq_false h2, cond_false, wu64 (by omega)]
    rw [show z = (z.natAbs : Int) by omega]; simp

theorem s83 {z : Int} (h : -9223372036854775808 < z ∧ z < 9223372036854775808) : Ev E 1 83 [I z] (U z.natAbs) :=
  Ev.mk fun n _ => by rw [show I z = Tree.int .i64 z from rfl, e83]; exact abs_spec z h

theorem s84 {z : Int} (h : -9223372036854775808 < z ∧ z < 9223372036854775808) : Ev E 1 84 [I z] (U z.natAbs) :=
  Ev.mk fun n _ => by rw [show I z = Tree.int .i64 z from rfl, e84]; exact abs_spec z h

/-- A number of up to 128 bits with a sign, as it is kept. -/
def wideP (neg : Bool) (m : Nat) : Tree := .agg [.bool neg, U (m / 18446744073709551616 : Nat), U (m % 18446744073709551616 : Nat)]
def wideT (z : Int) : Tree := wideP (decide (z < 0)) z.natAbs

def isN (z : Int) : Prop := -9223372036854775808 < z ∧ z < 9223372036854775808

theorem neg_mul_lt {x y : Int} (hx : x ≠ 0) (hy : y ≠ 0) : decide (x * y < 0) = (decide (x < 0) != decide (y < 0)) := by
  by_cases h1 : x < 0 <;> by_cases h2 : y < 0
  · have := Int.mul_pos_of_neg_of_neg h1 h2
    simp [h1, h2]; omega
  · have := Int.mul_neg_of_neg_of_pos h1 (show 0 < y by omega)
    simp [h1, h2, this]
  · have := Int.mul_neg_of_pos_of_neg (show 0 < x by omega) h2
    simp [h1, h2, this]
  · have := Int.mul_pos (show 0 < x by omega) (show 0 < y by omega)
    simp [h1, h2]; omega

theorem isU_abs {z : Int} (h : isN z) : isU z.natAbs := by unfold isN at h; unfold isU; omega

theorem cast_mul (x y : Int) : ((x.natAbs : Int) * y.natAbs) = ((x * y).natAbs : Nat) := by rw [Int.natAbs_mul]; simp

theorem prod_parts (x y : Int) : ((x.natAbs : Int) * y.natAbs / 18446744073709551616) = ((x * y).natAbs / 18446744073709551616 : Nat) ∧ ((x.natAbs : Int) * y.natAbs % 18446744073709551616) = ((x * y).natAbs % 18446744073709551616 : Nat) := by
  rw [cast_mul]; constructor <;> omega

theorem prod_lt {x y : Int} (hx : isN x) (hy : isN y) : (x * y).natAbs < 340282366920938463463374607431768211456 := by
  rw [Int.natAbs_mul]
  unfold isN at hx hy
  exact Nat.lt_of_le_of_lt (Nat.mul_le_mul (show x.natAbs ≤ 9223372036854775808 by omega) (show y.natAbs ≤ 9223372036854775808 by omega)) (by omega)

theorem parts_ne {m : Nat} : (((m / 18446744073709551616 : Nat) : Int) != 0 || ((m % 18446744073709551616 : Nat) : Int) != 0) = decide (m ≠ 0) := by
  rw [natne, natne]
  by_cases h : m = 0
  · subst h; rfl
  · by_cases h1 : m / 18446744073709551616 = 0
    · have : m % 18446744073709551616 ≠ 0 := by omega
      simp [h, h1, this]
    · simp [h, h1]

theorem isU_hi {m : Nat} (h : m < 340282366920938463463374607431768211456) : isU (m / 18446744073709551616 : Nat) := by unfold isU; omega
theorem isU_lo {m : Nat} : isU (m % 18446744073709551616 : Nat) := by unfold isU; omega

theorem neg_zero_case (x y : Int) : ((decide (x < 0) != decide (y < 0)) && decide ((x * y).natAbs ≠ 0)) = decide (x * y < 0) := by
  by_cases hx : x = 0
  · subst hx; simp
  by_cases hy : y = 0
  · subst hy; simp
  rw [neg_mul_lt hx hy]
  have : x * y ≠ 0 := Int.mul_ne_zero hx hy
  simp [this]

theorem s51 {x y : Int} (hx : isN x) (hy : isN y) : Ev E 3 51 [I x, I y] (wideT (x * y)) :=
  Ev.mk fun n hn => by
    show evQ E n 51 [Tree.int .i64 x, Tree.int .i64 y] = _
    rw [e51, s83 hx n (by omega), s83 hy n (by omega)]
    simp only [Option.bind_some, ok_int, cond_true, toInt_int]
    rw [show ([Tree.int .u64 x.natAbs, Tree.int .u64 y.natAbs]) = [U x.natAbs, U y.natAbs] from rfl, s82 (isU_abs hx) (isU_abs hy) n (by omega)]
    simp only [Option.bind_some, ok_tup, oks_cons, ok_int, oks_nil, Bool.and_true, cond_true, tupl_tup, List.headD_cons, List.tail_cons, toInt_int]
    simp only [gate_eq]
    rw [(prod_parts x y).1, (prod_parts x y).2, or_zero (isU_hi (prod_lt hx hy)) isU_lo, parts_ne]
    unfold wideT wideP
    rw [← neg_zero_case]
    cases decide (x < 0) <;> cases decide (y < 0) <;> rfl

theorem s55 {x y : Int} (hx : isN x) (hy : isN y) : Ev E 3 55 [I x, I y] (wideT (x * y)) :=
  Ev.mk fun n hn => by
    show evQ E n 55 [Tree.int .i64 x, Tree.int .i64 y] = _
    rw [e55, s84 hx n (by omega), s84 hy n (by omega)]
    simp only [Option.bind_some, ok_int, cond_true, toInt_int]
    rw [show ([Tree.int .u64 x.natAbs, Tree.int .u64 y.natAbs]) = [U x.natAbs, U y.natAbs] from rfl, s82 (isU_abs hx) (isU_abs hy) n (by omega)]
    simp only [Option.bind_some, ok_tup, oks_cons, ok_int, oks_nil, Bool.and_true, cond_true, tupl_tup, List.headD_cons, List.tail_cons, toInt_int]
    rw [(prod_parts x y).1, (prod_parts x y).2]
    unfold wideT wideP
    rw [← neg_zero_case, ← parts_ne]
    cases decide (x < 0) <;> cases decide (y < 0) <;> cases ((((x * y).natAbs / 18446744073709551616 : Nat) : Int) != 0) <;> rfl

/-- A small number, and whether it is one. -/
def smallT (z : Int) : Tree := if z < -1099511627776 ∨ z > 1099511627776 then .tup [I 0, .bool false] else .tup [I z, .bool true]

theorem s52 (z : Int) : Ev E 1 52 [wideT z] (smallT z) :=
  Ev.mk fun n hn => by
    show evQ E n 52 [.agg [.bool (decide (z < 0)), Tree.int .u64 (z.natAbs / 18446744073709551616 : Nat), Tree.int .u64 (z.natAbs % 18446744073709551616 : Nat)]] = _
    rw [e52]
    unfold smallT
    by_cases h : z < -1099511627776 ∨ z > 1099511627776
    · rw [if_pos h, natne]
      by_cases h1 : z.natAbs / 18446744073709551616 = 0
      · rw [bif_neg (by simp [h1]), bif_pos (by simp; omega)]
      · rw [bif_pos (by simp [h1])]
    · rw [if_neg h, natne, bif_neg (by simp; omega), bif_neg (by simp; omega), w64 (x := ((z.natAbs % 18446744073709551616 : Nat) : Int)) (by omega)]
      by_cases h2 : z < 0
      · rw [bif_pos (by simp [h2]), w64 (by omega), show (0 : Int) - (z.natAbs % 18446744073709551616 : Nat) = z by omega]
      · rw [bif_neg (by simp; omega), show ((z.natAbs % 18446744073709551616 : Nat) : Int) = z by omega]

theorem s56 {z : Int} (hz : isN z) : Ev E 1 56 [wideT z] (I z) :=
  Ev.mk fun n hn => by
    show evQ E n 56 [.agg [.bool (decide (z < 0)), Tree.int .u64 (z.natAbs / 18446744073709551616 : Nat), Tree.int .u64 (z.natAbs % 18446744073709551616 : Nat)]] = _
    unfold isN at hz
    rw [e56, w64 (x := ((z.natAbs % 18446744073709551616 : Nat) : Int)) (by omega)]
    by_cases h2 : z < 0
    · rw [bif_pos (by simp [h2]), w64 (by omega), show (0 : Int) - (z.natAbs % 18446744073709551616 : Nat) = z by omega]
    · rw [bif_neg (by simp; omega), show ((z.natAbs % 18446744073709551616 : Nat) : Int) = z by omega]

end Go.Proofs.Bw.Qb
