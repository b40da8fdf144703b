/-
  Proved: the Go function QuotField answers true for every input, and leaves its arguments as they were.
  Conditions: none beyond those of the given statement.
-/
import Derived.Test.YtfkidinbolmkiaaQaField2
import Derived.Test.YtfkidinbolmkiaaAw4
import Derived.Test.YtfkidinbolmkiaaQaFieldRow
set_option linter.unusedSimpArgs false
set_option linter.unusedVariables false
set_option maxRecDepth 100000
namespace Go.Proofs.Ytfkidinbolmkiaa
open Go.Proofs Go.Proofs.Aw Go.Proofs.Aw.Qa

theorem quotField_pure : QuotFieldPure := by
  intro x0 x1 x2 w0 w1 w2
  obtain ⟨a0, a1, rfl, fa0, fa1⟩ := w0.isPair (k := .i16) (e := 41) (by kernel_rfl) (by kernel_rfl) (by kernel_rfl) (by kernel_rfl) (by kernel_rfl)
  obtain ⟨b0, b1, rfl, fb0, fb1⟩ := w1.isPair (k := .i16) (e := 41) (by kernel_rfl) (by kernel_rfl) (by kernel_rfl) (by kernel_rfl) (by kernel_rfl)
  obtain ⟨c0, c1, rfl, fc0, fc1⟩ := w2.isPair (k := .i16) (e := 41) (by kernel_rfl) (by kernel_rfl) (by kernel_rfl) (by kernel_rfl) (by kernel_rfl)
  exact ⟨_, s6 a0 a1 b0 b1 c0 c1 _ (Nat.le_refl _)⟩

theorem quotField_holds : Rows.QuotFieldSaid := QuotFieldRow quotField_pure

end Go.Proofs.Ytfkidinbolmkiaa
