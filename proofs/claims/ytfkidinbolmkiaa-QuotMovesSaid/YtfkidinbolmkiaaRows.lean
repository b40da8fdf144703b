/-
  No cell of these rows narrows 'for every input' (looked for: loops, veiled, ifaces, maps, wideKeys, modest, calm, conditions, laid).
  DERIVED. THE GIVEN ROWS OF THIS SEAT. 7 by the template 'for every input the law returns true; each argument reads behind the call as it read before'; 0 by the template 'total and deterministic' (their statements: YtfkidinbolmkiaaTotals.lean).
  GIVEN WITH THE SEED: the statements are not yours to turn. If you find one false, say at which input.
  Laid BY PROGRAM, IN A SANDBOX (cutbox-rows.mjs): the forced cells as the released guide's own fill.sh prints them over the translation 1e3e0347746bf579… (all of the seat's roots in one cut). By AI agents, Wed Nov 11 2026. No macro, syntax, notation, axiom, sorry.
-/
import Derived.Test.YtfkidinbolmkiaaChecked
import GoSem.Claim
import GoSem.ClaimJoined
import GoSem.ClaimMapViews
import Derived.JoinedTies
import Derived.KernelRfl
namespace Go.Proofs.Ytfkidinbolmkiaa
/- THE CELL 'sum', in the pinned program and in every row, IS THE sha256 OF THE DUMP (.gsa) THAT YtfkidinbolmkiaaProg.lean LOADS. Nothing in Lean hashes anything: it is a label: what it is worth is what the hold of that sum in a sandbox is worth. -/
noncomputable def Try.pinned : Pinned := { name := "ytfkidinbolmkiaa", sum := "1e3e0347746bf5792cf19746f39e22259af7bfc45919062ef671c5a9d7ba7a0c", checked := Try.checked }
namespace Rows
def none {H : Type} : Left H := { results := [], args := [] }

/-- 'tenetlaw23.QuotRing': WHATEVER THE INPUT: true; the input reads as it did. -/
def quotRingSpec : ChangeSpec := { name := "quotRing", fn := fun _ => fun
  | [d1, d2, d3] => { results := [.lit (.bool true)], args := [d1, d2, d3] }
  | _ => none }
def quotRingRow : OpenClaim := { program := "ytfkidinbolmkiaa", sum := "1e3e0347746bf5792cf19746f39e22259af7bfc45919062ef671c5a9d7ba7a0c", func := "tenet/tenetlaw23.QuotRing", spec := "quotRing", unfollowed := true, recurses := true, apart := false }
def QuotRingSaid : Prop := quotRingRow.holds Try.pinned (OpenSpec.ofChange quotRingSpec)

/-- ITS FALSE NEIGHBOUR: 'it returns false'. Refute it at one input. -/
def quotRingWrong : ChangeSpec := { name := "quotRing", fn := fun _ => fun
  | [d1, d2, d3] => { results := [.lit (.bool false)], args := [d1, d2, d3] }
  | _ => none }
def QuotRingWrongFalsely : Prop := quotRingRow.holds Try.pinned (OpenSpec.ofChange quotRingWrong)

/-- 'tenetlaw23.QuotInts': WHATEVER THE INPUT: true; the input reads as it did. -/
def quotIntsSpec : ChangeSpec := { name := "quotInts", fn := fun _ => fun
  | [d1, d2] => { results := [.lit (.bool true)], args := [d1, d2] }
  | _ => none }
def quotIntsRow : OpenClaim := { program := "ytfkidinbolmkiaa", sum := "1e3e0347746bf5792cf19746f39e22259af7bfc45919062ef671c5a9d7ba7a0c", func := "tenet/tenetlaw23.QuotInts", spec := "quotInts", unfollowed := true, recurses := true, apart := false }
def QuotIntsSaid : Prop := quotIntsRow.holds Try.pinned (OpenSpec.ofChange quotIntsSpec)

/-- ITS FALSE NEIGHBOUR: 'it returns false'. Refute it at one input. -/
def quotIntsWrong : ChangeSpec := { name := "quotInts", fn := fun _ => fun
  | [d1, d2] => { results := [.lit (.bool false)], args := [d1, d2] }
  | _ => none }
def QuotIntsWrongFalsely : Prop := quotIntsRow.holds Try.pinned (OpenSpec.ofChange quotIntsWrong)

/-- 'tenetlaw23.QuotRats': WHATEVER THE INPUT: true; the input reads as it did. -/
def quotRatsSpec : ChangeSpec := { name := "quotRats", fn := fun _ => fun
  | [d1, d2] => { results := [.lit (.bool true)], args := [d1, d2] }
  | _ => none }
def quotRatsRow : OpenClaim := { program := "ytfkidinbolmkiaa", sum := "1e3e0347746bf5792cf19746f39e22259af7bfc45919062ef671c5a9d7ba7a0c", func := "tenet/tenetlaw23.QuotRats", spec := "quotRats", inPlace := ["math/bits.Add64", "math/bits.Sub64"], unfollowed := true, recurses := true, named := ["math/bits.divideError", "math/bits.overflowError"], apart := false }
def QuotRatsSaid : Prop := quotRatsRow.holds Try.pinned (OpenSpec.ofChange quotRatsSpec)

/-- ITS FALSE NEIGHBOUR: 'it returns false'. Refute it at one input. -/
def quotRatsWrong : ChangeSpec := { name := "quotRats", fn := fun _ => fun
  | [d1, d2] => { results := [.lit (.bool false)], args := [d1, d2] }
  | _ => none }
def QuotRatsWrongFalsely : Prop := quotRatsRow.holds Try.pinned (OpenSpec.ofChange quotRatsWrong)

/-- 'tenetlaw23.QuotField': WHATEVER THE INPUT: true; the input reads as it did. -/
def quotFieldSpec : ChangeSpec := { name := "quotField", fn := fun _ => fun
  | [d1, d2, d3] => { results := [.lit (.bool true)], args := [d1, d2, d3] }
  | _ => none }
def quotFieldRow : OpenClaim := { program := "ytfkidinbolmkiaa", sum := "1e3e0347746bf5792cf19746f39e22259af7bfc45919062ef671c5a9d7ba7a0c", func := "tenet/tenetlaw23.QuotField", spec := "quotField", inPlace := ["math/bits.Add64", "math/bits.Sub64"], unfollowed := true, recurses := true, named := ["math/bits.divideError", "math/bits.overflowError"], apart := false }
def QuotFieldSaid : Prop := quotFieldRow.holds Try.pinned (OpenSpec.ofChange quotFieldSpec)

/-- ITS FALSE NEIGHBOUR: 'it returns false'. Refute it at one input. -/
def quotFieldWrong : ChangeSpec := { name := "quotField", fn := fun _ => fun
  | [d1, d2, d3] => { results := [.lit (.bool false)], args := [d1, d2, d3] }
  | _ => none }
def QuotFieldWrongFalsely : Prop := quotFieldRow.holds Try.pinned (OpenSpec.ofChange quotFieldWrong)

/-- 'tenetlaw23.QuotFolds': WHATEVER THE INPUT: true; the input reads as it did. -/
def quotFoldsSpec : ChangeSpec := { name := "quotFolds", fn := fun _ => fun
  | [d1, d2, d3, d4] => { results := [.lit (.bool true)], args := [d1, d2, d3, d4] }
  | _ => none }
def quotFoldsRow : OpenClaim := { program := "ytfkidinbolmkiaa", sum := "1e3e0347746bf5792cf19746f39e22259af7bfc45919062ef671c5a9d7ba7a0c", func := "tenet/tenetlaw23.QuotFolds", spec := "quotFolds", unfollowed := true, recurses := true, apart := false }
def QuotFoldsSaid : Prop := quotFoldsRow.holds Try.pinned (OpenSpec.ofChange quotFoldsSpec)

/-- ITS FALSE NEIGHBOUR: 'it returns false'. Refute it at one input. -/
def quotFoldsWrong : ChangeSpec := { name := "quotFolds", fn := fun _ => fun
  | [d1, d2, d3, d4] => { results := [.lit (.bool false)], args := [d1, d2, d3, d4] }
  | _ => none }
def QuotFoldsWrongFalsely : Prop := quotFoldsRow.holds Try.pinned (OpenSpec.ofChange quotFoldsWrong)

/-- 'tenetlaw23.QuotLists': WHATEVER THE INPUT: true; the input reads as it did. -/
def quotListsSpec : ChangeSpec := { name := "quotLists", fn := fun _ => fun
  | [d1, d2, d3, d4] => { results := [.lit (.bool true)], args := [d1, d2, d3, d4] }
  | _ => none }
def quotListsRow : OpenClaim := { program := "ytfkidinbolmkiaa", sum := "1e3e0347746bf5792cf19746f39e22259af7bfc45919062ef671c5a9d7ba7a0c", func := "tenet/tenetlaw23.QuotLists", spec := "quotLists", unfollowed := true, recurses := true, apart := false }
def QuotListsSaid : Prop := quotListsRow.holds Try.pinned (OpenSpec.ofChange quotListsSpec)

/-- ITS FALSE NEIGHBOUR: 'it returns false'. Refute it at one input. -/
def quotListsWrong : ChangeSpec := { name := "quotLists", fn := fun _ => fun
  | [d1, d2, d3, d4] => { results := [.lit (.bool false)], args := [d1, d2, d3, d4] }
  | _ => none }
def QuotListsWrongFalsely : Prop := quotListsRow.holds Try.pinned (OpenSpec.ofChange quotListsWrong)

/-- 'tenetlaw23.QuotMoves': WHATEVER THE INPUT: true; the input reads as it did. -/
def quotMovesSpec : ChangeSpec := { name := "quotMoves", fn := fun _ => fun
  | [d1, d2, d3, d4] => { results := [.lit (.bool true)], args := [d1, d2, d3, d4] }
  | _ => none }
def quotMovesRow : OpenClaim := { program := "ytfkidinbolmkiaa", sum := "1e3e0347746bf5792cf19746f39e22259af7bfc45919062ef671c5a9d7ba7a0c", func := "tenet/tenetlaw23.QuotMoves", spec := "quotMoves", inPlace := ["math/bits.Add64", "math/bits.Sub64"], unfollowed := true, recurses := true, named := ["math/bits.divideError", "math/bits.overflowError"], apart := false }
def QuotMovesSaid : Prop := quotMovesRow.holds Try.pinned (OpenSpec.ofChange quotMovesSpec)

/-- ITS FALSE NEIGHBOUR: 'it returns false'. Refute it at one input. -/
def quotMovesWrong : ChangeSpec := { name := "quotMoves", fn := fun _ => fun
  | [d1, d2, d3, d4] => { results := [.lit (.bool false)], args := [d1, d2, d3, d4] }
  | _ => none }
def QuotMovesWrongFalsely : Prop := quotMovesRow.holds Try.pinned (OpenSpec.ofChange quotMovesWrong)

/- THE SECOND FORM. 'bulk': how many values and letters a reading holds, each counted each time it is reached (what is shared counts as often as it is met; a slice's spare places count too). A statement '..UptoSaid' is the law's where the arguments, and the package variables that the reading takes, are together of bulk at most 1048576: NARROWER than '..Said'. Prove '..Said' where nothing that the law and all that it calls make is longer than what came in: it says more and counts as full. Else prove '..UptoSaid'. A law counts once. -/
mutual
def uptoBulk {H : Type} : DataW H → Nat
  | .lit (.string bytes) => bytes.length + 1
  | .lit _ => 1
  | .nil => 1
  | .ptr d => uptoBulk d + 1
  | .slice elems spare => uptoBulkAll elems + uptoBulkAll spare + 1
  | .agg parts => uptoBulkAll parts + 1
  | .iface _ d => uptoBulk d + 1
  | .map entries => uptoBulkEntries entries + 1
  | .held _ => 1
def uptoBulkAll {H : Type} : List (DataW H) → Nat
  | [] => 0
  | d :: r => uptoBulk d + uptoBulkAll r
def uptoBulkEntries {H : Type} : List (Lit × DataW H) → Nat
  | [] => 0
  | x :: r => uptoBulkEntry x + uptoBulkEntries r
def uptoBulkEntry {H : Type} : Lit × DataW H → Nat
  | (.string bytes, d) => bytes.length + uptoBulk d + 1
  | (_, d) => uptoBulk d + 1
 end
def uptoSmall : (H : Type) → List (DataW H) → Bool := fun _ ds => decide (uptoBulkAll ds ≤ 1048576)
def OpenSpec.upto (s : _root_.Go.ChangeSpec) : _root_.Go.OpenSpec := { _root_.Go.OpenSpec.ofChange s with cond := some uptoSmall }

/-- 'tenetlaw23.QuotRing', WHERE WHAT IT READS IS OF BULK AT MOST 1048576: true; the input reads as it did. -/
def quotRingUptoRow : OpenClaim := { program := "ytfkidinbolmkiaa", sum := "1e3e0347746bf5792cf19746f39e22259af7bfc45919062ef671c5a9d7ba7a0c", func := "tenet/tenetlaw23.QuotRing", spec := "quotRing", unfollowed := true, recurses := true, apart := false, narrowed := true }
def QuotRingUptoSaid : Prop := quotRingUptoRow.holds Try.pinned (OpenSpec.upto quotRingSpec)

/-- 'tenetlaw23.QuotInts', WHERE WHAT IT READS IS OF BULK AT MOST 1048576: true; the input reads as it did. -/
def quotIntsUptoRow : OpenClaim := { program := "ytfkidinbolmkiaa", sum := "1e3e0347746bf5792cf19746f39e22259af7bfc45919062ef671c5a9d7ba7a0c", func := "tenet/tenetlaw23.QuotInts", spec := "quotInts", unfollowed := true, recurses := true, apart := false, narrowed := true }
def QuotIntsUptoSaid : Prop := quotIntsUptoRow.holds Try.pinned (OpenSpec.upto quotIntsSpec)

/-- 'tenetlaw23.QuotRats', WHERE WHAT IT READS IS OF BULK AT MOST 1048576: true; the input reads as it did. -/
def quotRatsUptoRow : OpenClaim := { program := "ytfkidinbolmkiaa", sum := "1e3e0347746bf5792cf19746f39e22259af7bfc45919062ef671c5a9d7ba7a0c", func := "tenet/tenetlaw23.QuotRats", spec := "quotRats", inPlace := ["math/bits.Add64", "math/bits.Sub64"], unfollowed := true, recurses := true, named := ["math/bits.divideError", "math/bits.overflowError"], apart := false, narrowed := true }
def QuotRatsUptoSaid : Prop := quotRatsUptoRow.holds Try.pinned (OpenSpec.upto quotRatsSpec)

/-- 'tenetlaw23.QuotField', WHERE WHAT IT READS IS OF BULK AT MOST 1048576: true; the input reads as it did. -/
def quotFieldUptoRow : OpenClaim := { program := "ytfkidinbolmkiaa", sum := "1e3e0347746bf5792cf19746f39e22259af7bfc45919062ef671c5a9d7ba7a0c", func := "tenet/tenetlaw23.QuotField", spec := "quotField", inPlace := ["math/bits.Add64", "math/bits.Sub64"], unfollowed := true, recurses := true, named := ["math/bits.divideError", "math/bits.overflowError"], apart := false, narrowed := true }
def QuotFieldUptoSaid : Prop := quotFieldUptoRow.holds Try.pinned (OpenSpec.upto quotFieldSpec)

/-- 'tenetlaw23.QuotFolds', WHERE WHAT IT READS IS OF BULK AT MOST 1048576: true; the input reads as it did. -/
def quotFoldsUptoRow : OpenClaim := { program := "ytfkidinbolmkiaa", sum := "1e3e0347746bf5792cf19746f39e22259af7bfc45919062ef671c5a9d7ba7a0c", func := "tenet/tenetlaw23.QuotFolds", spec := "quotFolds", unfollowed := true, recurses := true, apart := false, narrowed := true }
def QuotFoldsUptoSaid : Prop := quotFoldsUptoRow.holds Try.pinned (OpenSpec.upto quotFoldsSpec)

/-- 'tenetlaw23.QuotLists', WHERE WHAT IT READS IS OF BULK AT MOST 1048576: true; the input reads as it did. -/
def quotListsUptoRow : OpenClaim := { program := "ytfkidinbolmkiaa", sum := "1e3e0347746bf5792cf19746f39e22259af7bfc45919062ef671c5a9d7ba7a0c", func := "tenet/tenetlaw23.QuotLists", spec := "quotLists", unfollowed := true, recurses := true, apart := false, narrowed := true }
def QuotListsUptoSaid : Prop := quotListsUptoRow.holds Try.pinned (OpenSpec.upto quotListsSpec)

/-- 'tenetlaw23.QuotMoves', WHERE WHAT IT READS IS OF BULK AT MOST 1048576: true; the input reads as it did. -/
def quotMovesUptoRow : OpenClaim := { program := "ytfkidinbolmkiaa", sum := "1e3e0347746bf5792cf19746f39e22259af7bfc45919062ef671c5a9d7ba7a0c", func := "tenet/tenetlaw23.QuotMoves", spec := "quotMoves", inPlace := ["math/bits.Add64", "math/bits.Sub64"], unfollowed := true, recurses := true, named := ["math/bits.divideError", "math/bits.overflowError"], apart := false, narrowed := true }
def QuotMovesUptoSaid : Prop := quotMovesUptoRow.holds Try.pinned (OpenSpec.upto quotMovesSpec)

end Rows
end Go.Proofs.Ytfkidinbolmkiaa
