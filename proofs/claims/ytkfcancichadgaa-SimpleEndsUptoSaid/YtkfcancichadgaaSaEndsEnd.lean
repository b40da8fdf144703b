/-
  Proved: the Go function SimpleEnds answers true for every input that is of bulk at most 1048576, and leaves its arguments as they were.
  Conditions: the arguments hold together at most 1048576 values and letters.
-/
import Derived.Test.YtkfcancichadgaaSaEnds
import Derived.Test.YtkfcancichadgaaSaArgs
import Derived.Test.YtkfcancichadgaaSaEndsRow
set_option linter.unusedSimpArgs false
set_option linter.unusedVariables false
set_option maxRecDepth 100000
namespace Go.Proofs.Ytkfcancichadgaa
open Go.Proofs Go.Proofs.Aw Go.Proofs.Aw.Sa

theorem simpleEnds_pure : SimpleEndsPure := by
  intro x0 x1 w0 w1 hb
  obtain ⟨t, rfl, _, ht⟩ := argL w0
  obtain ⟨a, rfl, ha⟩ := argU w1
  obtain ⟨c, h⟩ := ends_law t a (by omega) (by simpa [fits, IntKind.min, IntKind.max, IntKind.signed, IntKind.bits] using ha)
  exact ⟨c, h c (Nat.le_refl _)⟩

theorem simpleEnds_holds : Rows.SimpleEndsUptoSaid := SimpleEndsRow simpleEnds_pure

end Go.Proofs.Ytkfcancichadgaa
#print axioms Go.Proofs.Ytkfcancichadgaa.simpleEnds_holds
