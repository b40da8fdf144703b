/-
  Proved: the Go function SimpleGeneral answers true for every input that is of bulk at most 1048576, and leaves its argument as it was; the card ties the listed package variables to the program's text.
  Conditions: the argument holds together at most 1048576 values and letters; the listed package variables hold what the program's text lays (tied by the card).
-/
import Derived.Test.YtominoddfkpflaaDoorPart4
set_option linter.unusedSimpArgs false
set_option linter.unusedVariables false
set_option maxRecDepth 100000
namespace Go.Proofs.YtominoddfkpflaaDoor
open Go.Proofs Go.Proofs.Cw Go.Proofs.Cw.Si

theorem simpleGeneral_pure : SimpleGeneralPure := by
  intro x0 w0 hb
  obtain ⟨t, rfl, _, ht⟩ := argL w0
  obtain ⟨c, h⟩ := simpleGeneral (t := t) (by omega)
  exact ⟨c, h c (Nat.le_refl _)⟩

theorem simpleGeneral_holds : Rows.SimpleGeneralUptoCardSaid := SimpleGeneralCard simpleGeneral_pure

end Go.Proofs.YtominoddfkpflaaDoor
#print axioms Go.Proofs.YtominoddfkpflaaDoor.simpleGeneral_holds
