/-
  Proved: the Go function SimplePuts answers true for every input that is of bulk at most 1048576, and leaves its arguments as they were.
  Conditions: the arguments hold together at most 1048576 values and letters.
-/
import Derived.Test.YtkfcancichadgaaSaPuts
import Derived.Test.YtkfcancichadgaaSaArgs
import Derived.Test.YtkfcancichadgaaSaPutsRow
set_option linter.unusedSimpArgs false
set_option linter.unusedVariables false
set_option maxRecDepth 100000
namespace Go.Proofs.Ytkfcancichadgaa
open Go.Proofs Go.Proofs.Aw Go.Proofs.Aw.Sa

theorem simplePuts_pure : SimplePutsPure := by
  intro x0 x1 x2 x3 w0 w1 w2 w3 hb
  obtain ⟨t, rfl, _, ht⟩ := argL w0
  obtain ⟨s, rfl, _, hs⟩ := argL w1
  obtain ⟨a, rfl, _⟩ := argI w2
  obtain ⟨d, rfl, _⟩ := argI w3
  obtain ⟨c, h⟩ := puts_law t s a d (by omega) (by omega)
  exact ⟨c, h c (Nat.le_refl _)⟩

theorem simplePuts_holds : Rows.SimplePutsUptoSaid := SimplePutsRow simplePuts_pure

end Go.Proofs.Ytkfcancichadgaa
#print axioms Go.Proofs.Ytkfcancichadgaa.simplePuts_holds
