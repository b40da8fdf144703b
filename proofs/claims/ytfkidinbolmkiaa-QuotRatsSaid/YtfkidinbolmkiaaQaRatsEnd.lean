/-
  Proved: the Go function QuotRats answers true for every input, and leaves its arguments as they were.
  Conditions: none beyond those of the given statement.
-/
import Derived.Test.YtfkidinbolmkiaaQaRats
import Derived.Test.YtfkidinbolmkiaaAw4
import Derived.Test.YtfkidinbolmkiaaQaRatsRow
set_option maxRecDepth 100000
namespace Go.Proofs.Ytfkidinbolmkiaa
open Go.Proofs Go.Proofs.Aw Go.Proofs.Aw.Qa

theorem rat_shape {x : Tree} (w : WT Try.prog 35 x) : ∃ a b, x = .agg [I a, I b] ∧ fits .i64 a ∧ fits .i64 b :=
  w.isRec2 Try.underlying35 (by kernel_rfl) (by kernel_rfl) (by kernel_rfl) (by kernel_rfl) (by kernel_rfl) (by kernel_rfl) rfl rfl

theorem quotRats_pure : QuotRatsPure := by
  intro x0 x1 w0 w1
  obtain ⟨a0, a1, rfl, fa0, fa1⟩ := rat_shape w0
  obtain ⟨b0, b1, rfl, fb0, fb1⟩ := rat_shape w1
  exact ⟨_, s5 a0 a1 b0 b1 _ (Nat.le_refl _)⟩

theorem quotRats_holds : Rows.QuotRatsSaid := QuotRatsRow quotRats_pure

end Go.Proofs.Ytfkidinbolmkiaa
