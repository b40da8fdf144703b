/-
  Proved: the Go function CertSizes answers true for every two certificates, and leaves them as they were; the card ties the listed package variable to the program's text.
  Conditions: the listed package variable (errors.errorType) holds what the program's text lays (tied by the card).
-/
import Derived.Test.YtkgffjkdhmdfkaaGreatDoorPart5
set_option linter.unusedSimpArgs false
set_option linter.unusedVariables false
set_option maxRecDepth 100000
namespace Go.Proofs.YtkgffjkdhmdfkaaGreatDoor
open Go.Proofs Go.Proofs.Dw Go.Proofs.Dw.Zl

theorem certSizes_holds : Rows.CertSizesCardSaid :=
  Claim7.holds_tied_plain_at .later [] _ _ _ _ CertSizesRow (fun _ h => by cases h) (by kernel_rfl) (fun _ h => by cases h) certSizes_row_tie rfl ⟨rfl, rfl⟩ (by kernel_rfl) rfl CertSizesPlain (by kernel_rfl)

end Go.Proofs.YtkgffjkdhmdfkaaGreatDoor
#print axioms Go.Proofs.YtkgffjkdhmdfkaaGreatDoor.certSizes_holds
