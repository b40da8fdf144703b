/-
  QuotField: what each call gives.
-/
import Derived.Test.YtfkidinbolmkiaaQaField0
set_option linter.unusedSimpArgs false
set_option linter.unusedVariables false
set_option maxRecDepth 100000
namespace Go.Proofs.Aw.Qa
open Go.Proofs

/-- A small fraction, as the statement makes it. -/
structure Fr (a b : Int) : Prop where
  a1 : -1000 < a
  a2 : a < 1000
  b1 : -1000 < b
  b2 : b < 1000
  b0 : b ≠ 0

theorem Fr.sm {a b : Int} (h : Fr a b) : Sm a b := ⟨by have := h.a1; have := h.a2; unfold isM; omega, by have := h.b1; have := h.b2; unfold isM; omega, h.b0⟩
theorem Fr.n {a b : Int} (h : Fr a b) : (nm a b).natAbs ≤ 999 := by have := h.a1; have := h.a2; exact Nat.le_trans nm_abs_le (by omega)
theorem Fr.d {a b : Int} (h : Fr a b) : dn a b ≤ 999 := by have := h.b1; have := h.b2; exact Nat.le_trans dn_le (by omega)
theorem Fr.p {a b : Int} (h : Fr a b) : 0 < dn a b := dn_pos h.b0

theorem abs_mul {x y : Int} {A B : Nat} (hx : x.natAbs ≤ A) (hy : y.natAbs ≤ B) : (x * y).natAbs ≤ A * B := by
  rw [Int.natAbs_mul]; exact Nat.mul_le_mul hx hy

theorem ring_add {nx ny nz dx dy dz : Int} : (nx * dy + ny * dx) * dz + nz * (dx * dy) = nx * (dy * dz) + (ny * dz + nz * dy) * dx := by
  simp only [Int.add_mul]
  have e1 : nx * dy * dz = nx * (dy * dz) := Int.mul_assoc ..
  have e2 : ny * dx * dz = ny * dz * dx := Int.mul_right_comm ..
  have e3 : nz * (dx * dy) = nz * dy * dx := by rw [Int.mul_comm dx, Int.mul_assoc]
  rw [e1, e2, e3, Int.add_assoc]

theorem ring_mul {nx ny nz dx dy dz : Int} : (nx * nz * (dy * dz) + ny * nz * (dx * dz)) * (dx * dy * dz) = (nx * dy + ny * dx) * nz * (dx * dz * (dy * dz)) := by
  simp only [Int.add_mul]
  have e1 : nx * nz * (dy * dz) * (dx * dy * dz) = nx * dy * nz * (dx * dz * (dy * dz)) := by ac_rfl
  have e2 : ny * nz * (dx * dz) * (dx * dy * dz) = ny * dx * nz * (dx * dz * (dy * dz)) := by ac_rfl
  rw [e1, e2]

theorem lowT_self {z : Int} {d : Nat} (hd : 0 < d) (hz : z.natAbs ≤ 1099511627776) (hd2 : d ≤ 1099511627776) : lowT z d = .tup [.agg [.int .i64 (nmN z d), .int .i64 (dnN z d)], .int .i64 0] := lowT_small hd hz hd2

theorem f_add {a b c d : Int} (hx : Fr a b) (hy : Fr c d) : addR a b c d = .tup [.agg [.int .i64 (nmN (nm a b * dn c d + nm c d * dn a b) (dn a b * dn c d)), .int .i64 (dnN (nm a b * dn c d + nm c d * dn a b) (dn a b * dn c d))], .int .i64 0] := by
  unfold addR
  rw [hx.sm.rat, hy.sm.rat, Bool.and_self, cond_true]
  have h1 : (nm a b * (dn c d : Int)).natAbs ≤ 999 * 999 := abs_mul hx.n (by rw [Int.natAbs_natCast]; exact hy.d)
  have h2 : (nm c d * (dn a b : Int)).natAbs ≤ 999 * 999 := abs_mul hy.n (by rw [Int.natAbs_natCast]; exact hx.d)
  have h3 : dn a b * dn c d ≤ 999 * 999 := Nat.mul_le_mul hx.d hy.d
  exact lowT_self (Nat.mul_pos hx.p hy.p) (by omega) (by omega)

theorem f_mul {a b c d : Int} (hx : Fr a b) (hy : Fr c d) : mulR a b c d = .tup [.agg [.int .i64 (nmN (nm a b * nm c d) (dn a b * dn c d)), .int .i64 (dnN (nm a b * nm c d) (dn a b * dn c d))], .int .i64 0] := by
  unfold mulR
  rw [hx.sm.rat, hy.sm.rat, Bool.and_self, cond_true]
  have h1 : (nm a b * nm c d).natAbs ≤ 999 * 999 := abs_mul hx.n hy.n
  have h3 : dn a b * dn c d ≤ 999 * 999 := Nat.mul_le_mul hx.d hy.d
  exact lowT_self (Nat.mul_pos hx.p hy.p) (by omega) (by omega)

/-- The sum of three, and its bounds. -/
theorem f_add3 {a b c d e f : Int} (hx : Fr a b) (hy : Fr c d) (hz : Fr e f) :
    ∃ A B : Int, 
      addR (nmN (nm a b * dn c d + nm c d * dn a b) (dn a b * dn c d)) (dnN (nm a b * dn c d + nm c d * dn a b) (dn a b * dn c d)) e f = .tup [.agg [.int .i64 A, .int .i64 B], .int .i64 0] ∧
      addR a b (nmN (nm c d * dn e f + nm e f * dn c d) (dn c d * dn e f)) (dnN (nm c d * dn e f + nm e f * dn c d) (dn c d * dn e f)) = .tup [.agg [.int .i64 A, .int .i64 B], .int .i64 0] := by
  have h1 : (nm a b * (dn c d : Int)).natAbs ≤ 999 * 999 := abs_mul hx.n (by rw [Int.natAbs_natCast]; exact hy.d)
  have h2 : (nm c d * (dn a b : Int)).natAbs ≤ 999 * 999 := abs_mul hy.n (by rw [Int.natAbs_natCast]; exact hx.d)
  have h3 : dn a b * dn c d ≤ 999 * 999 := Nat.mul_le_mul hx.d hy.d
  have k1 : (nm c d * (dn e f : Int)).natAbs ≤ 999 * 999 := abs_mul hy.n (by rw [Int.natAbs_natCast]; exact hz.d)
  have k2 : (nm e f * (dn c d : Int)).natAbs ≤ 999 * 999 := abs_mul hz.n (by rw [Int.natAbs_natCast]; exact hy.d)
  have k3 : dn c d * dn e f ≤ 999 * 999 := Nat.mul_le_mul hy.d hz.d
  have hxy := Nat.mul_pos hx.p hy.p
  have hyz := Nat.mul_pos hy.p hz.p
  have s1 := sm_low (z := nm a b * dn c d + nm c d * dn a b) hxy (by omega) (by omega)
  have s2 := sm_low (z := nm c d * dn e f + nm e f * dn c d) hyz (by omega) (by omega)
  have e1 := add_val s1 hz.sm hxy hz.p (low_val hxy) (Eq.refl (nm e f * (dn e f : Int)))
  have e2 := add_val hx.sm s2 hx.p hyz (Eq.refl (nm a b * (dn a b : Int))) (low_val hyz)
  rw [e1, e2]
  have eq1 : (nm a b * dn c d + nm c d * dn a b) * (dn e f : Int) + nm e f * ((dn a b * dn c d : Nat) : Int) = nm a b * ((dn c d * dn e f : Nat) : Int) + (nm c d * dn e f + nm e f * dn c d) * (dn a b : Int) := by
    simp only [Int.natCast_mul]; exact ring_add
  have eq2 : dn a b * dn c d * dn e f = dn a b * (dn c d * dn e f) := Nat.mul_assoc ..
  rw [eq1, eq2]
  refine ⟨_, _, lowT_self (Nat.mul_pos hx.p hyz) ?_ ?_, lowT_self (Nat.mul_pos hx.p hyz) ?_ ?_⟩
  all_goals
    first
    | (have q1 : (nm a b * ((dn c d * dn e f : Nat) : Int)).natAbs ≤ 999 * (999 * 999) := abs_mul hx.n (by rw [Int.natAbs_natCast]; exact k3)
       have q2 : ((nm c d * dn e f + nm e f * dn c d) * (dn a b : Int)).natAbs ≤ (2 * 999 * 999) * 999 := abs_mul (by omega) (by rw [Int.natAbs_natCast]; exact hx.d)
       omega)
    | (have q3 : dn a b * (dn c d * dn e f) ≤ 999 * (999 * 999) := Nat.mul_le_mul hx.d k3
       omega)

/-- Both sides of the law of distribution. -/
theorem f_dist {a b c d e f : Int} (hx : Fr a b) (hy : Fr c d) (hz : Fr e f) :
    ∃ A B : Int, 
      addR (nmN (nm a b * nm e f) (dn a b * dn e f)) (dnN (nm a b * nm e f) (dn a b * dn e f)) (nmN (nm c d * nm e f) (dn c d * dn e f)) (dnN (nm c d * nm e f) (dn c d * dn e f)) = .tup [.agg [.int .i64 A, .int .i64 B], .int .i64 0] ∧
      mulR (nmN (nm a b * dn c d + nm c d * dn a b) (dn a b * dn c d)) (dnN (nm a b * dn c d + nm c d * dn a b) (dn a b * dn c d)) e f = .tup [.agg [.int .i64 A, .int .i64 B], .int .i64 0] := by
  have h1 : (nm a b * (dn c d : Int)).natAbs ≤ 999 * 999 := abs_mul hx.n (by rw [Int.natAbs_natCast]; exact hy.d)
  have h2 : (nm c d * (dn a b : Int)).natAbs ≤ 999 * 999 := abs_mul hy.n (by rw [Int.natAbs_natCast]; exact hx.d)
  have h3 : dn a b * dn c d ≤ 999 * 999 := Nat.mul_le_mul hx.d hy.d
  have k1 : (nm a b * nm e f).natAbs ≤ 999 * 999 := abs_mul hx.n hz.n
  have k2 : (nm c d * nm e f).natAbs ≤ 999 * 999 := abs_mul hy.n hz.n
  have k3 : dn a b * dn e f ≤ 999 * 999 := Nat.mul_le_mul hx.d hz.d
  have k4 : dn c d * dn e f ≤ 999 * 999 := Nat.mul_le_mul hy.d hz.d
  have hxy := Nat.mul_pos hx.p hy.p
  have hxz := Nat.mul_pos hx.p hz.p
  have hyz := Nat.mul_pos hy.p hz.p
  have s1 := sm_low (z := nm a b * dn c d + nm c d * dn a b) hxy (by omega) (by omega)
  have s2 := sm_low (z := nm a b * nm e f) hxz (by omega) (by omega)
  have s3 := sm_low (z := nm c d * nm e f) hyz (by omega) (by omega)
  have e1 := add_val s2 s3 hxz hyz (low_val hxz) (low_val hyz)
  have e2 := mul_val s1 hz.sm hxy hz.p (low_val hxy) (Eq.refl (nm e f * (dn e f : Int)))
  have eq := lowT_eq (z := nm a b * nm e f * ((dn c d * dn e f : Nat) : Int) + nm c d * nm e f * ((dn a b * dn e f : Nat) : Int)) (d := dn a b * dn e f * (dn c d * dn e f))
    (w := (nm a b * dn c d + nm c d * dn a b) * nm e f) (e := dn a b * dn c d * dn e f) (Nat.mul_pos hxz hyz) (Nat.mul_pos hxy hz.p) (by simp only [Int.natCast_mul]; exact ring_mul)
  rw [e1, e2, eq]
  have q1 : ((nm a b * dn c d + nm c d * dn a b) * nm e f).natAbs ≤ (2 * 999 * 999) * 999 := abs_mul (by omega) hz.n
  have q2 : dn a b * dn c d * dn e f ≤ (999 * 999) * 999 := Nat.mul_le_mul h3 hz.d
  exact ⟨_, _, lowT_self (Nat.mul_pos hxy hz.p) (by omega) (by omega), lowT_self (Nat.mul_pos hxy hz.p) (by omega) (by omega)⟩

/-- A number times its inverse. -/
theorem f_inv {a b : Int} (hx : Fr a b) (ha : a ≠ 0) : mulR a b (nm b a) (dn b a) = .tup [.agg [.int .i64 1, .int .i64 1], .int .i64 0] := by
  have hb := hx.b0
  have p1 := hx.p
  have p2 : 0 < dn b a := dn_pos ha
  have n2 : (nm b a).natAbs ≤ b.natAbs := nm_abs_le
  have d2 : dn b a ≤ a.natAbs := dn_le
  have hx1 := hx.a1; have hx2 := hx.a2; have hx3 := hx.b1; have hx4 := hx.b2
  have s : Sm (nm b a) (dn b a : Int) := ⟨by unfold isM; omega, by unfold isM; omega, by omega⟩
  have c : Nat.Coprime (dn b a) (nm b a).natAbs := nm_cop ha
  have l := lowN_self c
  have e2 : nm (nm b a) (dn b a : Int) * (dn b a : Int) = nm b a * dn (nm b a) (dn b a : Int) := by rw [nm_N, dn_N, l.1, l.2]
  have e := mul_val hx.sm s p1 p2 (Eq.refl (nm a b * (dn a b : Int))) e2
  have x1 := nm_cross (a := a) (b := b) hb
  have x2 := nm_cross (a := b) (b := a) ha
  have key : nm a b * nm b a = (dn a b : Int) * dn b a := by
    have : (nm a b * nm b a) * (b * a) = ((dn a b : Int) * dn b a) * (b * a) := by
      calc (nm a b * nm b a) * (b * a) = (nm a b * b) * (nm b a * a) := by ac_rfl
        _ = ((dn a b : Int) * dn b a) * (b * a) := by rw [x1, x2]; ac_rfl
    exact Int.eq_of_mul_eq_mul_right (Int.mul_ne_zero hb ha) this
  have one := lowT_eq (z := nm a b * nm b a) (d := dn a b * dn b a) (w := 1) (e := 1) (Nat.mul_pos p1 p2) (by omega) (by rw [key]; simp)
  rw [e, one]
  rfl

end Go.Proofs.Aw.Qa
