/-
  Proved: the Go function QuotRing answers true for every input, and leaves its arguments as they were.
  Conditions: none beyond those of the given statement.
-/
import Derived.Test.YtfkidinbolmkiaaQaRing
import Derived.Test.YtfkidinbolmkiaaQaRingRow
set_option maxRecDepth 100000
namespace Go.Proofs.Ytfkidinbolmkiaa
open Go.Proofs Go.Proofs.Aw Go.Proofs.Aw.Qa

theorem quotRing_pure : QuotRingPure := by
  intro x0 x1 x2 w0 w1 w2
  obtain ⟨a0, a1, rfl, fa0, fa1⟩ := w0.isPair (k := .u32) (e := 22) (by kernel_rfl) (by kernel_rfl) (by kernel_rfl) (by kernel_rfl) (by kernel_rfl)
  obtain ⟨b0, b1, rfl, fb0, fb1⟩ := w1.isPair (k := .u32) (e := 22) (by kernel_rfl) (by kernel_rfl) (by kernel_rfl) (by kernel_rfl) (by kernel_rfl)
  obtain ⟨c0, c1, rfl, fc0, fc1⟩ := w2.isPair (k := .u32) (e := 22) (by kernel_rfl) (by kernel_rfl) (by kernel_rfl) (by kernel_rfl) (by kernel_rfl)
  exact ⟨12, s3 fa0.1 fa1.1 fb0.1 fb1.1 fc0.1 fc1.1 12 (Nat.le_refl _)⟩

theorem quotRing_holds : Rows.QuotRingSaid := QuotRingRow quotRing_pure

end Go.Proofs.Ytfkidinbolmkiaa
