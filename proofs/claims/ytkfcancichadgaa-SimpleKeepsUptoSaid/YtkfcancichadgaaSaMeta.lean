/-
  SIMPLE, the plain part: shifting by nothing.
-/
import Derived.Test.YtkfcancichadgaaSaPure
set_option linter.unusedSimpArgs false
set_option linter.unusedVariables false
namespace Go.Proofs.Aw.Sa
open Go.Proofs

mutual
theorem shift_zero : ∀ (t : Lam) (k : Int), shift 0 k t = t
  | .mk o n t l, k => by
    unfold shift
    rw [shifts_zero l]
    split
    · rw [Int.add_zero]
    · rfl
theorem shifts_zero : ∀ (l : List Lam) (k : Int), shifts 0 k l = l
  | [], k => rfl
  | t :: r, k => by
    unfold shifts
    rw [shift_zero t, shifts_zero r]
end

mutual
theorem sizeL_shift : ∀ (t : Lam) (d k : Int), sizeL (shift d k t) = sizeL t
  | .mk o n t l, d, k => by
    unfold shift sizeL
    rw [sizeLs_shift l]
theorem sizeLs_shift : ∀ (l : List Lam) (d k : Int), sizeLs (shifts d k l) = sizeLs l
  | [], d, k => rfl
  | t :: r, d, k => by
    unfold shifts sizeLs
    rw [sizeL_shift t, sizeLs_shift r]
end

end Go.Proofs.Aw.Sa
