/-
  Proved: the Go function SimpleKeeps answers true for every input that is of bulk at most 1048576, and leaves its arguments as they were.
  Conditions: the arguments hold together at most 1048576 values and letters.
-/
import Derived.Test.YtkfcancichadgaaSaKeeps
import Derived.Test.YtkfcancichadgaaSaArgs
import Derived.Test.YtkfcancichadgaaSaKeepsRow
set_option linter.unusedSimpArgs false
set_option linter.unusedVariables false
set_option maxRecDepth 100000
namespace Go.Proofs.Ytkfcancichadgaa
open Go.Proofs Go.Proofs.Aw Go.Proofs.Aw.Sa

theorem simpleKeeps_pure : SimpleKeepsPure := by
  intro x0 x1 w0 w1 hb
  obtain ⟨ctx, rfl, _, _, hc⟩ := argTs w0
  obtain ⟨t, rfl, _, ht⟩ := argL w1
  obtain ⟨c, h⟩ := keeps_law ctx t (by omega) (by omega)
  exact ⟨c, h c (Nat.le_refl _)⟩

theorem simpleKeeps_holds : Rows.SimpleKeepsUptoSaid := SimpleKeepsRow simpleKeeps_pure

end Go.Proofs.Ytkfcancichadgaa
#print axioms Go.Proofs.Ytkfcancichadgaa.simpleKeeps_holds
