/-
  Proved: the Go function SimpleValues answers true for every input that is of bulk at most 1048576, and leaves its arguments as they were.
  Conditions: the arguments hold together at most 1048576 values and letters.
-/
import Derived.Test.YtkfcancichadgaaSaValues
import Derived.Test.YtkfcancichadgaaSaArgs
import Derived.Test.YtkfcancichadgaaSaValuesRow
set_option linter.unusedSimpArgs false
set_option linter.unusedVariables false
set_option maxRecDepth 100000
namespace Go.Proofs.Ytkfcancichadgaa
open Go.Proofs Go.Proofs.Aw Go.Proofs.Aw.Sa

theorem simpleValues_pure : SimpleValuesPure := by
  intro x0 x1 w0 w1 hb
  obtain ⟨t, rfl, _, ht⟩ := argL w0
  obtain ⟨a, rfl, _⟩ := argI w1
  obtain ⟨c, h⟩ := values_law t a (by omega)
  exact ⟨c, h c (Nat.le_refl _)⟩

theorem simpleValues_holds : Rows.SimpleValuesUptoSaid := SimpleValuesRow simpleValues_pure

end Go.Proofs.Ytkfcancichadgaa
#print axioms Go.Proofs.Ytkfcancichadgaa.simpleValues_holds
