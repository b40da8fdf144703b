/-
  Proved: the Go function SimpleSubsts answers true for every input that is of bulk at most 1048576, and leaves its arguments as they were.
  Conditions: the arguments hold together at most 1048576 values and letters.
-/
import Derived.Test.YtkfcancichadgaaSaSubsts
import Derived.Test.YtkfcancichadgaaSaArgs
import Derived.Test.YtkfcancichadgaaSaSubstsRow
set_option linter.unusedSimpArgs false
set_option linter.unusedVariables false
set_option maxRecDepth 100000
namespace Go.Proofs.Ytkfcancichadgaa
open Go.Proofs Go.Proofs.Aw Go.Proofs.Aw.Sa

theorem simpleSubsts_pure : SimpleSubstsPure := by
  intro x0 x1 x2 w0 w1 w2 hb
  obtain ⟨ctx, rfl, _, _, hc⟩ := argTs w0
  obtain ⟨t, rfl, _, ht⟩ := argL w1
  obtain ⟨s, rfl, _, hs⟩ := argL w2
  obtain ⟨c, h⟩ := substs_law ctx t s (by omega) (by omega) (by omega)
  exact ⟨c, h c (Nat.le_refl _)⟩

theorem simpleSubsts_holds : Rows.SimpleSubstsUptoSaid := SimpleSubstsRow simpleSubsts_pure

end Go.Proofs.Ytkfcancichadgaa
#print axioms Go.Proofs.Ytkfcancichadgaa.simpleSubsts_holds
