/-
  DERIVED. GIVEN WITH THE SEED: THE CARDS: each row of YtominoddfkpflaaDoorRows.lean that lists a variable, with what it lists TIED to the program's text (the seventh form; the later family's looks); each row that meets fmt, with fmt's text TOLD by the authors' own Lean function (tested against real Go, not proved from fmt's source: count such statements apart). THE CARD IS WHAT COUNTS. Prove the row's statement (the work); the ties are given (YtominoddfkpflaaDoorTie.lean); close each card by the builder's one call (the guide's Derived/Test/ToyasCard.lean, 'card_holds'). Laid BY PROGRAM, IN A SANDBOX (cutbox-door.mjs). By AI agents, Wed Nov 11 2026. No macro, syntax, notation, axiom, sorry.
-/
import Derived.Test.YtominoddfkpflaaDoorRows
import GoSem.ClaimSeven
namespace Go.Proofs.YtominoddfkpflaaDoor
namespace Rows

/-- THE TIED CARD OF 'tenetlaw25.SimpleInfers'. -/
def simpleInfersCard : Claim7 := { stood := { row := simpleInfersRow, standIns := [], harness := (true, "9278e9cb03d6aea7d4922795df93a82644ddf141452bdbd7509a49959cbece83"), looks := false }, kinds := [], alts := [], laidByText := true, laidKinds := [.data, .data, .data], laidTests := true, laidLooks := .later }
def SimpleInfersCardSaid : Prop := Claim7.holds Tryd.pinned (.plain (OpenSpec.ofChange simpleInfersSpec)) simpleInfersCard

/-- THE TIED CARD OF 'tenetlaw25.SimpleGeneral'. -/
def simpleGeneralCard : Claim7 := { stood := { row := simpleGeneralRow, standIns := [], harness := (true, "9278e9cb03d6aea7d4922795df93a82644ddf141452bdbd7509a49959cbece83"), looks := false }, kinds := [], alts := [], laidByText := true, laidKinds := [.data, .data, .data], laidTests := true, laidLooks := .later }
def SimpleGeneralCardSaid : Prop := Claim7.holds Tryd.pinned (.plain (OpenSpec.ofChange simpleGeneralSpec)) simpleGeneralCard

/-- THE SECOND FORM's CARD OF 'tenetlaw25.SimpleInfers'. -/
def simpleInfersUptoCard : Claim7 := { stood := { row := simpleInfersUptoRow, standIns := [], harness := (true, "9278e9cb03d6aea7d4922795df93a82644ddf141452bdbd7509a49959cbece83"), looks := false }, kinds := [], alts := [], laidByText := true, laidKinds := [.data, .data, .data], laidTests := true, laidLooks := .later }
def SimpleInfersUptoCardSaid : Prop := Claim7.holds Tryd.pinned (.plain (OpenSpec.upto simpleInfersSpec)) simpleInfersUptoCard

/-- THE SECOND FORM's CARD OF 'tenetlaw25.SimpleGeneral'. -/
def simpleGeneralUptoCard : Claim7 := { stood := { row := simpleGeneralUptoRow, standIns := [], harness := (true, "9278e9cb03d6aea7d4922795df93a82644ddf141452bdbd7509a49959cbece83"), looks := false }, kinds := [], alts := [], laidByText := true, laidKinds := [.data, .data, .data], laidTests := true, laidLooks := .later }
def SimpleGeneralUptoCardSaid : Prop := Claim7.holds Tryd.pinned (.plain (OpenSpec.upto simpleGeneralSpec)) simpleGeneralUptoCard
end Rows
end Go.Proofs.YtominoddfkpflaaDoor
