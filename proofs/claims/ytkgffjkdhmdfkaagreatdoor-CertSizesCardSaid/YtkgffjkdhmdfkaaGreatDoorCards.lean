/-
  DERIVED. GIVEN WITH THE SEED: THE CARDS: each row of YtkgffjkdhmdfkaaGreatDoorRows.lean that lists a variable, with what it lists TIED to the program's text (the seventh form; the later family's looks); each row that meets fmt, with fmt's text TOLD by the authors' own Lean function (tested against real Go, not proved from fmt's source: count such statements apart). THE CARD IS WHAT COUNTS. Prove the row's statement (the work); the ties are given (YtkgffjkdhmdfkaaGreatDoorTie.lean); close each card by the builder's one call (the guide's Derived/Test/ToyasCard.lean, 'card_holds'). Laid BY PROGRAM, IN A SANDBOX (cutbox-door.mjs). By AI agents, Wed Nov 11 2026. No macro, syntax, notation, axiom, sorry.
-/
import Derived.Test.YtkgffjkdhmdfkaaGreatDoorRows
import GoSem.ClaimSeven
namespace Go.Proofs.YtkgffjkdhmdfkaaGreatDoor
namespace Rows

/-- THE TIED CARD OF 'tenetlaw08.CertSizes'. -/
def certSizesCard : Claim7 := { stood := { row := certSizesRow, standIns := [], harness := (true, "0847929fd5bba2fc485942745932079dd611b24072d916a4506ec8691fab2f75"), looks := true }, kinds := [], alts := [], laidByText := true, laidKinds := [.handle], laidTests := true, laidLooks := .later }
def CertSizesCardSaid : Prop := Claim7.holds Tryz.pinned (.plain (OpenSpec.ofChange certSizesSpec)) certSizesCard

/-- THE SECOND FORM's CARD OF 'tenetlaw08.CertSizes'. -/
def certSizesUptoCard : Claim7 := { stood := { row := certSizesUptoRow, standIns := [], harness := (true, "0847929fd5bba2fc485942745932079dd611b24072d916a4506ec8691fab2f75"), looks := true }, kinds := [], alts := [], laidByText := true, laidKinds := [.handle], laidTests := true, laidLooks := .later }
def CertSizesUptoCardSaid : Prop := Claim7.holds Tryz.pinned (.plain (OpenSpec.upto certSizesSpec)) certSizesUptoCard
end Rows
end Go.Proofs.YtkgffjkdhmdfkaaGreatDoor
