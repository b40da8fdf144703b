/-
  Proved: the Go function QuotInts answers true for every input, and leaves its arguments as they were.
  Conditions: none beyond those of the given statement.
-/
import Derived.Test.YtfkidinbolmkiaaQaInts
import Derived.Test.YtfkidinbolmkiaaAw4
import Derived.Test.YtfkidinbolmkiaaQaIntsRow
set_option maxRecDepth 100000
namespace Go.Proofs.Ytfkidinbolmkiaa
open Go.Proofs Go.Proofs.Aw Go.Proofs.Aw.Qa

theorem quotInts_pure : QuotIntsPure := by
  intro x0 x1 w0 w1
  obtain ⟨a0, a1, rfl, fa0, fa1⟩ := w0.isPair (k := .i64) (e := 3) (by kernel_rfl) (by kernel_rfl) (by kernel_rfl) (by kernel_rfl) (by kernel_rfl)
  obtain ⟨b0, b1, rfl, fb0, fb1⟩ := w1.isPair (k := .i64) (e := 3) (by kernel_rfl) (by kernel_rfl) (by kernel_rfl) (by kernel_rfl) (by kernel_rfl)
  exact ⟨12, s4 a0 a1 b0 b1 12 (Nat.le_refl _)⟩

theorem quotInts_holds : Rows.QuotIntsSaid := QuotIntsRow quotInts_pure

end Go.Proofs.Ytfkidinbolmkiaa
