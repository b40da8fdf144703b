/-
  QuotRing: sums and products of small pairs.
-/
import Derived.Test.YtfkidinbolmkiaaQaE3
import Derived.Test.YtfkidinbolmkiaaQaInts
import Derived.Test.YtfkidinbolmkiaaAw4
namespace Go.Proofs.Aw.Qa
open Go.Proofs

def pp (z : Int) : Int := if z < 0 then 0 else z
def pn (z : Int) : Int := if z < 0 then -z else 0

theorem pp_pn (z : Int) : pp z - pn z = z := by unfold pp pn; split <;> omega
theorem pp_b (z : Int) : 0 ≤ pp z ∧ (-1099511627776 ≤ z → z ≤ 1099511627776 → pp z ≤ 1099511627776) := by unfold pp; split <;> omega
theorem pn_b (z : Int) : 0 ≤ pn z ∧ (-1099511627776 ≤ z → z ≤ 1099511627776 → pn z ≤ 1099511627776) := by unfold pn; split <;> omega

/-- The pair of a number. -/
def PT (z : Int) : Tree := .tup [.agg [I (pp z), I (pn z)], I 0]

theorem pairT_PT {z : Int} (h : -1099511627776 ≤ z ∧ z ≤ 1099511627776) : pairT z = PT z := by
  unfold pairT PT pp pn
  rw [if_neg (by omega)]
  split <;> rfl

theorem add_PT {a b c d z : Int} (h : ((0 ≤ a ∧ a ≤ 1099511627776) ∧ 0 ≤ b ∧ b ≤ 1099511627776) ∧ (0 ≤ c ∧ c ≤ 1099511627776) ∧ 0 ≤ d ∧ d ≤ 1099511627776) (e : a - b + c - d = z) (hz : -1099511627776 ≤ z ∧ z ≤ 1099511627776) (n : Nat) (hn : 10 ≤ n) :
    evP (Tab.env tab) n 10 [.agg [.int .i64 a, .int .i64 b], .agg [.int .i64 c, .int .i64 d]] = some (.tup [.agg [.int .i64 (pp z), .int .i64 (pn z)], .int .i64 0]) := by
  have h1 := s10 a b c d n hn
  rw [addT, okB_iff.2 h, cond_true, e, pairT_PT hz] at h1
  exact h1

theorem mul_PT {a b c d z : Int} (h : ((0 ≤ a ∧ a ≤ 1099511627776) ∧ 0 ≤ b ∧ b ≤ 1099511627776) ∧ (0 ≤ c ∧ c ≤ 1099511627776) ∧ 0 ≤ d ∧ d ≤ 1099511627776) (e : (a - b) * (c - d) = z) (hz : -1099511627776 ≤ z ∧ z ≤ 1099511627776) (n : Nat) (hn : 10 ≤ n) :
    evP (Tab.env tab) n 12 [.agg [.int .i64 a, .int .i64 b], .agg [.int .i64 c, .int .i64 d]] = some (.tup [.agg [.int .i64 (pp z), .int .i64 (pn z)], .int .i64 0]) := by
  have h1 := s12 a b c d n hn
  rw [mulT, okB_iff.2 h, cond_true, e, pairT_PT hz] at h1
  exact h1

theorem neg_PT {a b z : Int} (h : (0 ≤ a ∧ a ≤ 1099511627776) ∧ 0 ≤ b ∧ b ≤ 1099511627776) (e : b - a = z) (hz : -1099511627776 ≤ z ∧ z ≤ 1099511627776) (n : Nat) (hn : 10 ≤ n) :
    evP (Tab.env tab) n 11 [.agg [.int .i64 a, .int .i64 b]] = some (.tup [.agg [.int .i64 (pp z), .int .i64 (pn z)], .int .i64 0]) := by
  have h1 := s11 a b n (by omega)
  rw [negT, ok2_iff.2 h, cond_true, e, pairT_PT hz] at h1
  exact h1

theorem leq_PT {a b c d : Int} (h : ((0 ≤ a ∧ a ≤ 1099511627776) ∧ 0 ≤ b ∧ b ≤ 1099511627776) ∧ (0 ≤ c ∧ c ≤ 1099511627776) ∧ 0 ≤ d ∧ d ≤ 1099511627776) (n : Nat) (hn : 10 ≤ n) :
    evP (Tab.env tab) n 13 [.agg [.int .i64 a, .int .i64 b], .agg [.int .i64 c, .int .i64 d]] = some (.tup [.bool (decide (a - b ≤ c - d)), .int .i64 0]) := by
  have h1 := s13 a b c d n hn
  rw [leqT, okB_iff.2 h, cond_true] at h1
  exact h1

theorem same_PT {a b c d : Int} (h : ((0 ≤ a ∧ a ≤ 1099511627776) ∧ 0 ≤ b ∧ b ≤ 1099511627776) ∧ (0 ≤ c ∧ c ≤ 1099511627776) ∧ 0 ≤ d ∧ d ≤ 1099511627776) (n : Nat) (hn : 10 ≤ n) :
    evP (Tab.env tab) n 14 [.agg [.int .i64 a, .int .i64 b], .agg [.int .i64 c, .int .i64 d]] = some (.tup [.bool (a - b == c - d), .int .i64 0]) := by
  have h1 := s14 a b c d n hn
  rw [sameT, okB_iff.2 h, cond_true] at h1
  exact h1

theorem tmodB {a m : Int} (h : 0 ≤ a) (hm : 0 < m) (h2 : m ≤ 1000000) : ∃ x, IntKind.wrap .i64 (Int.tmod a m) = x ∧ 0 ≤ x ∧ x < m := by
  have e : Int.tmod a m = a % m := Int.tmod_eq_emod_of_nonneg h
  have h1 := Int.emod_nonneg a (show m ≠ 0 by omega)
  have h3 := Int.emod_lt_of_pos a hm
  exact ⟨a % m, by rw [e, w64 (by omega)], h1, h3⟩

theorem mulB {x y A B : Int} (hx : -A ≤ x ∧ x ≤ A) (hy : -B ≤ y ∧ y ≤ B) : -(A * B) ≤ x * y ∧ x * y ≤ A * B := by
  have hA : 0 ≤ A := by omega
  have hB : 0 ≤ B := by omega
  have h : (x * y).natAbs ≤ A.natAbs * B.natAbs := by
    rw [Int.natAbs_mul]; exact Nat.mul_le_mul (by omega) (by omega)
  have e : ((A.natAbs * B.natAbs : Nat) : Int) = A * B := by
    rw [Int.natCast_mul, Int.natAbs_of_nonneg hA, Int.natAbs_of_nonneg hB]
  omega

theorem s3 {a0 a1 b0 b1 c0 c1 : Int} (ha0 : 0 ≤ a0) (ha1 : 0 ≤ a1) (hb0 : 0 ≤ b0) (hb1 : 0 ≤ b1) (hc0 : 0 ≤ c0) (hc1 : 0 ≤ c1) :
    Ev E 12 3 [.agg [.int .u32 a0, .int .u32 a1], .agg [.int .u32 b0, .int .u32 b1], .agg [.int .u32 c0, .int .u32 c1]] (.bool true) :=
  Ev.mk fun n hn => by
    rw [e3]
    obtain ⟨x0, e, x00, x01⟩ := tmodB (m := 1000000) ha0 (by omega) (by omega); rw [e]; clear e
    obtain ⟨x1, e, x10, x11⟩ := tmodB (m := 1000000) ha1 (by omega) (by omega); rw [e]; clear e
    obtain ⟨y0, e, y00, y01⟩ := tmodB (m := 1000000) hb0 (by omega) (by omega); rw [e]; clear e
    obtain ⟨y1, e, y10, y11⟩ := tmodB (m := 1000000) hb1 (by omega) (by omega); rw [e]; clear e
    obtain ⟨z0, e, z00, z01⟩ := tmodB (m := 1000) hc0 (by omega) (by omega); rw [e]; clear e
    obtain ⟨z1, e, z10, z11⟩ := tmodB (m := 1000) hc1 (by omega) (by omega); rw [e]; clear e
    clear ha0 ha1 hb0 hb1 hc0 hc1
    obtain ⟨X, hX⟩ : ∃ X, X = x0 - x1 := ⟨_, rfl⟩
    obtain ⟨Y, hY⟩ : ∃ X, X = y0 - y1 := ⟨_, rfl⟩
    obtain ⟨Z, hZ⟩ : ∃ X, X = z0 - z1 := ⟨_, rfl⟩
    have mXY : -(1000000 * 1000000) ≤ X * Y ∧ X * Y ≤ 1000000 * 1000000 := mulB (by omega) (by omega)
    have mXZ : -(1000000 * 1000) ≤ X * Z ∧ X * Z ≤ 1000000 * 1000 := mulB (by omega) (by omega)
    have mYZ : -(1000000 * 1000) ≤ Y * Z ∧ Y * Z ≤ 1000000 * 1000 := mulB (by omega) (by omega)
    have p (z : Int) := pp_b z
    have q (z : Int) := pn_b z
    have d (z : Int) := pp_pn z
    have h1 := add_PT (a := x0) (b := x1) (c := y0) (d := y1) (z := X + Y) (by omega) (by omega) (by omega) n (by omega)
    have h2 := add_PT (a := y0) (b := y1) (c := x0) (d := x1) (z := X + Y) (by omega) (by omega) (by omega) n (by omega)
    have h3 := add_PT (a := y0) (b := y1) (c := z0) (d := z1) (z := Y + Z) (by omega) (by omega) (by omega) n (by omega)
    have pXY := p (X + Y); have qXY := q (X + Y); have dXY := d (X + Y)
    have pYZ := p (Y + Z); have qYZ := q (Y + Z); have dYZ := d (Y + Z)
    have pXZ := p (X + Z); have qXZ := q (X + Z); have dXZ := d (X + Z)
    have pX := p (-X); have qX := q (-X); have dX := d (-X)
    have pmXZ := p (X * Z); have qmXZ := q (X * Z); have dmXZ := d (X * Z)
    have pmYZ := p (Y * Z); have qmYZ := q (Y * Z); have dmYZ := d (Y * Z)
    have h4 := add_PT (a := pp (X + Y)) (b := pn (X + Y)) (c := z0) (d := z1) (z := X + Y + Z) (by omega) (by omega) (by omega) n (by omega)
    have h5 := add_PT (a := x0) (b := x1) (c := pp (Y + Z)) (d := pn (Y + Z)) (z := X + Y + Z) (by omega) (by omega) (by omega) n (by omega)
    have h6 := neg_PT (a := x0) (b := x1) (z := -X) (by omega) (by omega) (by omega) n (by omega)
    have h7 := add_PT (a := x0) (b := x1) (c := pp (-X)) (d := pn (-X)) (z := 0) (by omega) (by omega) (by omega) n (by omega)
    have h8 := mul_PT (a := x0) (b := x1) (c := y0) (d := y1) (z := X * Y) (by omega) (by rw [hX, hY]) (by omega) n (by omega)
    have h9 := mul_PT (a := y0) (b := y1) (c := x0) (d := x1) (z := X * Y) (by omega) (by rw [hX, hY, Int.mul_comm]) (by omega) n (by omega)
    have h10 := mul_PT (a := x0) (b := x1) (c := z0) (d := z1) (z := X * Z) (by omega) (by rw [hX, hZ]) (by omega) n (by omega)
    have h11 := mul_PT (a := y0) (b := y1) (c := z0) (d := z1) (z := Y * Z) (by omega) (by rw [hY, hZ]) (by omega) n (by omega)
    have h12 := add_PT (a := pp (X * Z)) (b := pn (X * Z)) (c := pp (Y * Z)) (d := pn (Y * Z)) (z := X * Z + Y * Z) (by omega) (by omega) (by omega) n (by omega)
    have h13 := mul_PT (a := pp (X + Y)) (b := pn (X + Y)) (c := z0) (d := z1) (z := X * Z + Y * Z) (by omega) (by rw [dXY, ← hZ, Int.add_mul]) (by omega) n (by omega)
    have h14 := leq_PT (a := x0) (b := x1) (c := y0) (d := y1) (by omega) n (by omega)
    have h15 := leq_PT (a := y0) (b := y1) (c := x0) (d := x1) (by omega) n (by omega)
    have h16 := same_PT (a := x0) (b := x1) (c := y0) (d := y1) (by omega) n (by omega)
    have h17 := add_PT (a := x0) (b := x1) (c := z0) (d := z1) (z := X + Z) (by omega) (by omega) (by omega) n (by omega)
    have h18 := leq_PT (a := pp (X + Z)) (b := pn (X + Z)) (c := pp (Y + Z)) (d := pn (Y + Z)) (by omega) n (by omega)
    have h19 := s15 n (by omega)
    simp only [h1, h2, h3, h4, h5, h6, h7, h8, h9, h10, h11, h12, h13, h14, h15, h16, h17, h18, h19, Option.bind_some, ok_tup, ok_agg, oks_cons, ok_int, ok_bool, oks_nil, Bool.and_true, Bool.and_self, cond_true, tupl_tup, cs_agg, List.headD_cons, List.tail_cons, toInt_int, toBool_bool,
      bne_self_eq_false, cond_false, beq_self_eq_true, Bool.not_true, E]
    rw [dXZ, dYZ, ← hX, ← hY, decide_eq_decide.2 (show X + Z ≤ Y + Z ↔ X ≤ Y by omega), show (!(pp 0 == 0 && pn 0 == 0)) = false from rfl, show (X == Y) = decide (X = Y) from rfl]
    by_cases c1 : X ≤ Y
    · by_cases c2 : Y ≤ X
      · rw [decide_eq_true c1, decide_eq_true c2, decide_eq_true (show X = Y by omega)]; rfl
      · rw [decide_eq_true c1, decide_eq_false c2, decide_eq_false (show ¬ X = Y by omega)]; rfl
    · rw [decide_eq_false c1, decide_eq_true (show Y ≤ X by omega), decide_eq_false (show ¬ X = Y by omega)]; rfl

end Go.Proofs.Aw.Qa
