/-
  Proved: the Go function QuotFolds answers true for every input, and leaves its arguments as they were.
  Conditions: none beyond those of the given statement.
-/
import Derived.Test.YtfkidinbolmkiaaQbFolds2
import Derived.Test.YtfkidinbolmkiaaBw4
import Derived.Test.YtfkidinbolmkiaaQbFoldsRow
set_option linter.unusedSimpArgs false
set_option linter.unusedVariables false
set_option maxRecDepth 100000
namespace Go.Proofs.Ytfkidinbolmkiaa
open Go.Proofs Go.Proofs.Bw Go.Proofs.Bw.Qb

theorem quotFolds_pure : QuotFoldsPure := by
  intro x0 x1 x2 x3 w0 w1 w2 w3
  obtain ⟨a, rfl, ha⟩ := w0.isInts (k := .i32) (e := 21) (by kernel_rfl) (by kernel_rfl) (by kernel_rfl) (by kernel_rfl)
  obtain ⟨b, rfl, hb⟩ := w1.isInts (k := .i32) (e := 21) (by kernel_rfl) (by kernel_rfl) (by kernel_rfl) (by kernel_rfl)
  obtain ⟨c, rfl, hc⟩ := w2.isInts (k := .i32) (e := 21) (by kernel_rfl) (by kernel_rfl) (by kernel_rfl) (by kernel_rfl)
  obtain ⟨x, rfl, hx⟩ := w3.isInt (k := .i32) (by kernel_rfl) (by kernel_rfl)
  have f : ∀ {n : Int}, Bw.fits .i32 n → -2147483648 ≤ n ∧ n ≤ 2147483647 := fun {n} h => ⟨h.1, h.2⟩
  exact ⟨1201, s7 a b c x (fun y hy => f (ha.2.2 y hy)) (fun y hy => f (hb.2.2 y hy)) (fun y hy => f (hc.2.2 y hy)) (f hx) 1201 (Nat.le_refl _)⟩

theorem quotFolds_holds : Rows.QuotFoldsSaid := QuotFoldsRow quotFolds_pure

#print axioms quotFolds_holds
end Go.Proofs.Ytfkidinbolmkiaa
