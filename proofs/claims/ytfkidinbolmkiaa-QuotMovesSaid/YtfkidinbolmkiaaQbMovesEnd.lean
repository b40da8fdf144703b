/-
  Proved: the Go function QuotMoves answers true for every input, and leaves its arguments as they were.
  Conditions: none beyond those of the given statement.
-/
import Derived.Test.YtfkidinbolmkiaaQbMoves
import Derived.Test.YtfkidinbolmkiaaBw4
import Derived.Test.YtfkidinbolmkiaaQbMovesRow
set_option linter.unusedSimpArgs false
set_option linter.unusedVariables false
set_option maxRecDepth 100000
namespace Go.Proofs.Ytfkidinbolmkiaa
open Go.Proofs Go.Proofs.Bw Go.Proofs.Bw.Qb

theorem quotMoves_pure : QuotMovesPure := by
  intro x0 x1 x2 x3 w0 w1 w2 w3
  obtain ⟨a0, a1, rfl, fa0, fa1⟩ := w0.isPair (k := .u32) (e := 22) (by kernel_rfl) (by kernel_rfl) (by kernel_rfl) (by kernel_rfl) (by kernel_rfl)
  obtain ⟨b0, b1, rfl, fb0, fb1⟩ := w1.isPair (k := .u32) (e := 22) (by kernel_rfl) (by kernel_rfl) (by kernel_rfl) (by kernel_rfl) (by kernel_rfl)
  obtain ⟨m, rfl, fm⟩ := w2.isInt (k := .u32) (by kernel_rfl) (by kernel_rfl)
  obtain ⟨l, rfl, hl⟩ := w3.isInts (k := .i32) (e := 21) (by kernel_rfl) (by kernel_rfl) (by kernel_rfl) (by kernel_rfl)
  have f : ∀ {n : Int}, Bw.fits .i32 n → -2147483648 ≤ n ∧ n ≤ 2147483647 := fun {n} h => ⟨h.1, h.2⟩
  exact ⟨plenty + 1201 + 1, s9 l fa0.1 fa1.1 fb0.1 fb1.1 fm.1 (fun y hy => f (hl.2.2 y hy)) _ (Nat.le_refl _)⟩

theorem quotMoves_holds : Rows.QuotMovesSaid := QuotMovesRow quotMoves_pure

#print axioms quotMoves_holds
end Go.Proofs.Ytfkidinbolmkiaa
