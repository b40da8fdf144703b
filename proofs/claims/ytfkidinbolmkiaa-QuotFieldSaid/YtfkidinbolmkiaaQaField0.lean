/-
  QuotField, the plain part: fractions of small numbers are a field.
-/
import Derived.Test.YtfkidinbolmkiaaQaRats
set_option linter.unusedSimpArgs false
set_option linter.unusedVariables false
set_option maxRecDepth 100000
namespace Go.Proofs.Aw.Qa
open Go.Proofs

/-- A denominator as the statement makes it: odd. -/
def oddOf (x : Int) : Int := gate x (gate 1 (IntKind.wrap .i64 ((BitVec.ofInt 64 x ||| BitVec.ofInt 64 1).toNat)))

def chkOdd (i : Nat) : Bool := decide (oddOf ((i : Int) - 999) ≠ 0 ∧ -1000 < oddOf ((i : Int) - 999) ∧ oddOf ((i : Int) - 999) < 1000)

theorem chkOdd_all : (List.range 1999).all chkOdd = true := by decide +kernel

theorem oddOf_b {x : Int} (h1 : -1000 < x) (h2 : x < 1000) : oddOf x ≠ 0 ∧ -1000 < oddOf x ∧ oddOf x < 1000 := by
  have h := List.all_eq_true.1 chkOdd_all (x + 999).toNat (List.mem_range.2 (by omega))
  unfold chkOdd at h
  rw [show (((x + 999).toNat : Nat) : Int) - 999 = x by omega] at h
  exact of_decide_eq_true h

/-- A number of the statement: from -999 to 999. -/
theorem tmod_b {a : Int} : -1000 < Int.tmod a 1000 ∧ Int.tmod a 1000 < 1000 := by
  have h1 := Int.tmod_lt_of_pos a (show (0 : Int) < 1000 by omega)
  have h2 : -1000 < Int.tmod a 1000 := by
    have := Int.tmod_lt_of_pos (-a) (show (0 : Int) < 1000 by omega)
    rw [Int.neg_tmod] at this
    omega
  exact ⟨h2, h1⟩

theorem lowT_small {z : Int} {d : Nat} (hd : 0 < d) (hz : z.natAbs ≤ 1099511627776) (hd2 : d ≤ 1099511627776) : lowT z d = .tup [.agg [I (nmN z d), I (dnN z d)], I 0] := by
  unfold lowT
  rw [if_pos ⟨Nat.le_trans (nmN_le hd) hz, Nat.le_trans dnN_le hd2⟩]

/-- The value of a small fraction: what 'RatAdd' and the others see of it. -/
structure Sm (a b : Int) : Prop where
  ha : isM a
  hb : isM b
  h0 : b ≠ 0

theorem Sm.rat {a b : Int} (h : Sm a b) : ratB a b = true := ratB_iff.2 ⟨h.ha, h.hb, h.h0⟩

theorem nm_cross {a b : Int} (hb : b ≠ 0) : nm a b * b = a * dn a b := by
  rw [nm_eq, dn_eq]
  have h := nmN_cross (z := if b < 0 then -a else a) (d := b.natAbs)
  by_cases hn : b < 0
  · rw [if_pos hn] at h ⊢
    have e : (b.natAbs : Int) = -b := by omega
    rw [e, Int.mul_neg, Int.neg_mul] at h
    omega
  · rw [if_neg hn] at h ⊢
    have e : (b.natAbs : Int) = b := by omega
    rw [e] at h
    exact h

/-- Lowest terms of what is in lowest terms. -/
theorem nm_low {z : Int} {d : Nat} (hd : 0 < d) : nm (nmN z d) (dnN z d : Int) = nmN z d ∧ dn (nmN z d) (dnN z d : Int) = dnN z d := by
  rw [nm_N, dn_N]
  exact lowN_self (nmN_cop hd)

theorem sm_low {z : Int} {d : Nat} (hd : 0 < d) (hz : z.natAbs ≤ 1099511627776) (hd2 : d ≤ 1099511627776) : Sm (nmN z d) (dnN z d : Int) := by
  have h1 := nmN_le (z := z) hd
  have h2 := dnN_le (z := z) (d := d)
  have h3 := dnN_pos (z := z) hd
  exact ⟨by unfold isM; omega, by unfold isM; omega, by omega⟩

/-- A sum, by any fractions of the same values. -/
theorem add_val {a b c d p q : Int} {m n : Nat} (h1 : Sm a b) (h2 : Sm c d) (hm : 0 < m) (hn : 0 < n) (e1 : nm a b * m = p * dn a b) (e2 : nm c d * n = q * dn c d) : addR a b c d = lowT (p * n + q * m) (m * n) := by
  have p1 := dn_pos (a := a) h1.h0
  have p2 := dn_pos (a := c) h2.h0
  unfold addR
  rw [h1.rat, h2.rat, Bool.and_self, cond_true]
  refine lowT_eq (Nat.mul_pos p1 p2) (Nat.mul_pos hm hn) ?_
  simp only [Int.natCast_mul, Int.add_mul]
  have x1 : nm a b * (dn c d : Int) * ((m : Int) * n) = p * n * ((dn a b : Int) * dn c d) := by
    calc nm a b * (dn c d : Int) * ((m : Int) * n) = (nm a b * m) * (dn c d * n) := by ac_rfl
      _ = p * n * ((dn a b : Int) * dn c d) := by rw [e1]; ac_rfl
  have x2 : nm c d * (dn a b : Int) * ((m : Int) * n) = q * m * ((dn a b : Int) * dn c d) := by
    calc nm c d * (dn a b : Int) * ((m : Int) * n) = (nm c d * n) * (dn a b * m) := by ac_rfl
      _ = q * m * ((dn a b : Int) * dn c d) := by rw [e2]; ac_rfl
  rw [x1, x2]

theorem mul_val {a b c d p q : Int} {m n : Nat} (h1 : Sm a b) (h2 : Sm c d) (hm : 0 < m) (hn : 0 < n) (e1 : nm a b * m = p * dn a b) (e2 : nm c d * n = q * dn c d) : mulR a b c d = lowT (p * q) (m * n) := by
  have p1 := dn_pos (a := a) h1.h0
  have p2 := dn_pos (a := c) h2.h0
  unfold mulR
  rw [h1.rat, h2.rat, Bool.and_self, cond_true]
  refine lowT_eq (Nat.mul_pos p1 p2) (Nat.mul_pos hm hn) ?_
  simp only [Int.natCast_mul]
  calc nm a b * nm c d * ((m : Int) * n) = (nm a b * m) * (nm c d * n) := by ac_rfl
    _ = p * q * ((dn a b : Int) * dn c d) := by rw [e1, e2]; ac_rfl

/-- The value of a fraction in lowest terms. -/
theorem low_val {z : Int} {d : Nat} (hd : 0 < d) : nm (nmN z d) (dnN z d : Int) * d = z * dn (nmN z d) (dnN z d : Int) := by
  rw [(nm_low hd).1, (nm_low hd).2]
  exact nmN_cross

end Go.Proofs.Aw.Qa
