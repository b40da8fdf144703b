/-
  NARROWER THAN 'FOR EVERY INPUT', by the rows' own cells (each row's printed sentence says how): SimpleValues: loops · SimpleSubsts: loops · SimpleSteps: loops · SimpleKeeps: loops · SimpleEnds: loops · SimpleTypes: loops · SimplePuts: loops.
  DERIVED. THE GIVEN ROWS OF THIS SEAT. 7 by the template 'for every input the law returns true; each argument reads behind the call as it read before'; 0 by the template 'total and deterministic' (their statements: YtkfcancichadgaaTotals.lean).
  GIVEN WITH THE SEED: the statements are not yours to turn. If you find one false, say at which input.
  Laid BY PROGRAM, IN A SANDBOX (cutbox-rows.mjs): the forced cells as the released guide's own fill.sh prints them over the translation 3a66a72306fbdf69… (all of the seat's roots in one cut). By AI agents, Wed Nov 11 2026. No macro, syntax, notation, axiom, sorry.
-/
import Derived.Test.YtkfcancichadgaaChecked
import GoSem.Claim
import GoSem.ClaimJoined
import GoSem.ClaimMapViews
import Derived.JoinedTies
import Derived.KernelRfl
namespace Go.Proofs.Ytkfcancichadgaa
/- THE CELL 'sum', in the pinned program and in every row, IS THE sha256 OF THE DUMP (.gsa) THAT YtkfcancichadgaaProg.lean LOADS. Nothing in Lean hashes anything: it is a label: what it is worth is what the hold of that sum in a sandbox is worth. -/
noncomputable def Try.pinned : Pinned := { name := "ytkfcancichadgaa", sum := "3a66a72306fbdf6980cd0355b02f3c803c4e9516b5eb77f2fb818b0f06a6055a", checked := Try.checked }
namespace Rows
def none {H : Type} : Left H := { results := [], args := [] }

/-- 'tenetlaw25.SimpleValues': WHATEVER THE INPUT: true; the input reads as it did. -/
def simpleValuesSpec : ChangeSpec := { name := "simpleValues", fn := fun _ => fun
  | [d1, d2] => { results := [.lit (.bool true)], args := [d1, d2] }
  | _ => none }
def simpleValuesRow : OpenClaim := { program := "ytkfcancichadgaa", sum := "3a66a72306fbdf6980cd0355b02f3c803c4e9516b5eb77f2fb818b0f06a6055a", func := "tenet/tenetlaw25.SimpleValues", spec := "simpleValues", unfollowed := true, recurses := true, loops := true, apart := false }
def SimpleValuesSaid : Prop := simpleValuesRow.holds Try.pinned (OpenSpec.ofChange simpleValuesSpec)

/-- ITS FALSE NEIGHBOUR: 'it returns false'. Refute it at one input. -/
def simpleValuesWrong : ChangeSpec := { name := "simpleValues", fn := fun _ => fun
  | [d1, d2] => { results := [.lit (.bool false)], args := [d1, d2] }
  | _ => none }
def SimpleValuesWrongFalsely : Prop := simpleValuesRow.holds Try.pinned (OpenSpec.ofChange simpleValuesWrong)

/-- 'tenetlaw25.SimpleSubsts': WHATEVER THE INPUT: true; the input reads as it did. -/
def simpleSubstsSpec : ChangeSpec := { name := "simpleSubsts", fn := fun _ => fun
  | [d1, d2, d3] => { results := [.lit (.bool true)], args := [d1, d2, d3] }
  | _ => none }
def simpleSubstsRow : OpenClaim := { program := "ytkfcancichadgaa", sum := "3a66a72306fbdf6980cd0355b02f3c803c4e9516b5eb77f2fb818b0f06a6055a", func := "tenet/tenetlaw25.SimpleSubsts", spec := "simpleSubsts", unfollowed := true, recurses := true, loops := true, apart := false }
def SimpleSubstsSaid : Prop := simpleSubstsRow.holds Try.pinned (OpenSpec.ofChange simpleSubstsSpec)

/-- ITS FALSE NEIGHBOUR: 'it returns false'. Refute it at one input. -/
def simpleSubstsWrong : ChangeSpec := { name := "simpleSubsts", fn := fun _ => fun
  | [d1, d2, d3] => { results := [.lit (.bool false)], args := [d1, d2, d3] }
  | _ => none }
def SimpleSubstsWrongFalsely : Prop := simpleSubstsRow.holds Try.pinned (OpenSpec.ofChange simpleSubstsWrong)

/-- 'tenetlaw25.SimpleSteps': WHATEVER THE INPUT: true; the input reads as it did. -/
def simpleStepsSpec : ChangeSpec := { name := "simpleSteps", fn := fun _ => fun
  | [d1, d2] => { results := [.lit (.bool true)], args := [d1, d2] }
  | _ => none }
def simpleStepsRow : OpenClaim := { program := "ytkfcancichadgaa", sum := "3a66a72306fbdf6980cd0355b02f3c803c4e9516b5eb77f2fb818b0f06a6055a", func := "tenet/tenetlaw25.SimpleSteps", spec := "simpleSteps", unfollowed := true, recurses := true, loops := true, apart := false }
def SimpleStepsSaid : Prop := simpleStepsRow.holds Try.pinned (OpenSpec.ofChange simpleStepsSpec)

/-- ITS FALSE NEIGHBOUR: 'it returns false'. Refute it at one input. -/
def simpleStepsWrong : ChangeSpec := { name := "simpleSteps", fn := fun _ => fun
  | [d1, d2] => { results := [.lit (.bool false)], args := [d1, d2] }
  | _ => none }
def SimpleStepsWrongFalsely : Prop := simpleStepsRow.holds Try.pinned (OpenSpec.ofChange simpleStepsWrong)

/-- 'tenetlaw25.SimpleKeeps': WHATEVER THE INPUT: true; the input reads as it did. -/
def simpleKeepsSpec : ChangeSpec := { name := "simpleKeeps", fn := fun _ => fun
  | [d1, d2] => { results := [.lit (.bool true)], args := [d1, d2] }
  | _ => none }
def simpleKeepsRow : OpenClaim := { program := "ytkfcancichadgaa", sum := "3a66a72306fbdf6980cd0355b02f3c803c4e9516b5eb77f2fb818b0f06a6055a", func := "tenet/tenetlaw25.SimpleKeeps", spec := "simpleKeeps", unfollowed := true, recurses := true, loops := true, apart := false }
def SimpleKeepsSaid : Prop := simpleKeepsRow.holds Try.pinned (OpenSpec.ofChange simpleKeepsSpec)

/-- ITS FALSE NEIGHBOUR: 'it returns false'. Refute it at one input. -/
def simpleKeepsWrong : ChangeSpec := { name := "simpleKeeps", fn := fun _ => fun
  | [d1, d2] => { results := [.lit (.bool false)], args := [d1, d2] }
  | _ => none }
def SimpleKeepsWrongFalsely : Prop := simpleKeepsRow.holds Try.pinned (OpenSpec.ofChange simpleKeepsWrong)

/-- 'tenetlaw25.SimpleEnds': WHATEVER THE INPUT: true; the input reads as it did. -/
def simpleEndsSpec : ChangeSpec := { name := "simpleEnds", fn := fun _ => fun
  | [d1, d2] => { results := [.lit (.bool true)], args := [d1, d2] }
  | _ => none }
def simpleEndsRow : OpenClaim := { program := "ytkfcancichadgaa", sum := "3a66a72306fbdf6980cd0355b02f3c803c4e9516b5eb77f2fb818b0f06a6055a", func := "tenet/tenetlaw25.SimpleEnds", spec := "simpleEnds", unfollowed := true, recurses := true, loops := true, apart := false }
def SimpleEndsSaid : Prop := simpleEndsRow.holds Try.pinned (OpenSpec.ofChange simpleEndsSpec)

/-- ITS FALSE NEIGHBOUR: 'it returns false'. Refute it at one input. -/
def simpleEndsWrong : ChangeSpec := { name := "simpleEnds", fn := fun _ => fun
  | [d1, d2] => { results := [.lit (.bool false)], args := [d1, d2] }
  | _ => none }
def SimpleEndsWrongFalsely : Prop := simpleEndsRow.holds Try.pinned (OpenSpec.ofChange simpleEndsWrong)

/-- 'tenetlaw25.SimpleTypes': WHATEVER THE INPUT: true; the input reads as it did. -/
def simpleTypesSpec : ChangeSpec := { name := "simpleTypes", fn := fun _ => fun
  | [d1, d2] => { results := [.lit (.bool true)], args := [d1, d2] }
  | _ => none }
def simpleTypesRow : OpenClaim := { program := "ytkfcancichadgaa", sum := "3a66a72306fbdf6980cd0355b02f3c803c4e9516b5eb77f2fb818b0f06a6055a", func := "tenet/tenetlaw25.SimpleTypes", spec := "simpleTypes", unfollowed := true, recurses := true, loops := true, apart := false }
def SimpleTypesSaid : Prop := simpleTypesRow.holds Try.pinned (OpenSpec.ofChange simpleTypesSpec)

/-- ITS FALSE NEIGHBOUR: 'it returns false'. Refute it at one input. -/
def simpleTypesWrong : ChangeSpec := { name := "simpleTypes", fn := fun _ => fun
  | [d1, d2] => { results := [.lit (.bool false)], args := [d1, d2] }
  | _ => none }
def SimpleTypesWrongFalsely : Prop := simpleTypesRow.holds Try.pinned (OpenSpec.ofChange simpleTypesWrong)

/-- 'tenetlaw25.SimplePuts': WHATEVER THE INPUT: true; the input reads as it did. -/
def simplePutsSpec : ChangeSpec := { name := "simplePuts", fn := fun _ => fun
  | [d1, d2, d3, d4] => { results := [.lit (.bool true)], args := [d1, d2, d3, d4] }
  | _ => none }
def simplePutsRow : OpenClaim := { program := "ytkfcancichadgaa", sum := "3a66a72306fbdf6980cd0355b02f3c803c4e9516b5eb77f2fb818b0f06a6055a", func := "tenet/tenetlaw25.SimplePuts", spec := "simplePuts", unfollowed := true, recurses := true, loops := true, apart := false }
def SimplePutsSaid : Prop := simplePutsRow.holds Try.pinned (OpenSpec.ofChange simplePutsSpec)

/-- ITS FALSE NEIGHBOUR: 'it returns false'. Refute it at one input. -/
def simplePutsWrong : ChangeSpec := { name := "simplePuts", fn := fun _ => fun
  | [d1, d2, d3, d4] => { results := [.lit (.bool false)], args := [d1, d2, d3, d4] }
  | _ => none }
def SimplePutsWrongFalsely : Prop := simplePutsRow.holds Try.pinned (OpenSpec.ofChange simplePutsWrong)

/- THE SECOND FORM. 'bulk': how many values and letters a reading holds, each counted each time it is reached (what is shared counts as often as it is met; a slice's spare places count too). A statement '..UptoSaid' is the law's where the arguments, and the package variables that the reading takes, are together of bulk at most 1048576: NARROWER than '..Said'. Prove '..Said' where nothing that the law and all that it calls make is longer than what came in: it says more and counts as full. Else prove '..UptoSaid'. A law counts once. -/
mutual
def uptoBulk {H : Type} : DataW H → Nat
  | .lit (.string bytes) => bytes.length + 1
  | .lit _ => 1
  | .nil => 1
  | .ptr d => uptoBulk d + 1
  | .slice elems spare => uptoBulkAll elems + uptoBulkAll spare + 1
  | .agg parts => uptoBulkAll parts + 1
  | .iface _ d => uptoBulk d + 1
  | .map entries => uptoBulkEntries entries + 1
  | .held _ => 1
def uptoBulkAll {H : Type} : List (DataW H) → Nat
  | [] => 0
  | d :: r => uptoBulk d + uptoBulkAll r
def uptoBulkEntries {H : Type} : List (Lit × DataW H) → Nat
  | [] => 0
  | x :: r => uptoBulkEntry x + uptoBulkEntries r
def uptoBulkEntry {H : Type} : Lit × DataW H → Nat
  | (.string bytes, d) => bytes.length + uptoBulk d + 1
  | (_, d) => uptoBulk d + 1
 end
def uptoSmall : (H : Type) → List (DataW H) → Bool := fun _ ds => decide (uptoBulkAll ds ≤ 1048576)
def OpenSpec.upto (s : _root_.Go.ChangeSpec) : _root_.Go.OpenSpec := { _root_.Go.OpenSpec.ofChange s with cond := some uptoSmall }

/-- 'tenetlaw25.SimpleValues', WHERE WHAT IT READS IS OF BULK AT MOST 1048576: true; the input reads as it did. -/
def simpleValuesUptoRow : OpenClaim := { program := "ytkfcancichadgaa", sum := "3a66a72306fbdf6980cd0355b02f3c803c4e9516b5eb77f2fb818b0f06a6055a", func := "tenet/tenetlaw25.SimpleValues", spec := "simpleValues", unfollowed := true, recurses := true, loops := true, apart := false, narrowed := true }
def SimpleValuesUptoSaid : Prop := simpleValuesUptoRow.holds Try.pinned (OpenSpec.upto simpleValuesSpec)

/-- 'tenetlaw25.SimpleSubsts', WHERE WHAT IT READS IS OF BULK AT MOST 1048576: true; the input reads as it did. -/
def simpleSubstsUptoRow : OpenClaim := { program := "ytkfcancichadgaa", sum := "3a66a72306fbdf6980cd0355b02f3c803c4e9516b5eb77f2fb818b0f06a6055a", func := "tenet/tenetlaw25.SimpleSubsts", spec := "simpleSubsts", unfollowed := true, recurses := true, loops := true, apart := false, narrowed := true }
def SimpleSubstsUptoSaid : Prop := simpleSubstsUptoRow.holds Try.pinned (OpenSpec.upto simpleSubstsSpec)

/-- 'tenetlaw25.SimpleSteps', WHERE WHAT IT READS IS OF BULK AT MOST 1048576: true; the input reads as it did. -/
def simpleStepsUptoRow : OpenClaim := { program := "ytkfcancichadgaa", sum := "3a66a72306fbdf6980cd0355b02f3c803c4e9516b5eb77f2fb818b0f06a6055a", func := "tenet/tenetlaw25.SimpleSteps", spec := "simpleSteps", unfollowed := true, recurses := true, loops := true, apart := false, narrowed := true }
def SimpleStepsUptoSaid : Prop := simpleStepsUptoRow.holds Try.pinned (OpenSpec.upto simpleStepsSpec)

/-- 'tenetlaw25.SimpleKeeps', WHERE WHAT IT READS IS OF BULK AT MOST 1048576: true; the input reads as it did. -/
def simpleKeepsUptoRow : OpenClaim := { program := "ytkfcancichadgaa", sum := "3a66a72306fbdf6980cd0355b02f3c803c4e9516b5eb77f2fb818b0f06a6055a", func := "tenet/tenetlaw25.SimpleKeeps", spec := "simpleKeeps", unfollowed := true, recurses := true, loops := true, apart := false, narrowed := true }
def SimpleKeepsUptoSaid : Prop := simpleKeepsUptoRow.holds Try.pinned (OpenSpec.upto simpleKeepsSpec)

/-- 'tenetlaw25.SimpleEnds', WHERE WHAT IT READS IS OF BULK AT MOST 1048576: true; the input reads as it did. -/
def simpleEndsUptoRow : OpenClaim := { program := "ytkfcancichadgaa", sum := "3a66a72306fbdf6980cd0355b02f3c803c4e9516b5eb77f2fb818b0f06a6055a", func := "tenet/tenetlaw25.SimpleEnds", spec := "simpleEnds", unfollowed := true, recurses := true, loops := true, apart := false, narrowed := true }
def SimpleEndsUptoSaid : Prop := simpleEndsUptoRow.holds Try.pinned (OpenSpec.upto simpleEndsSpec)

/-- 'tenetlaw25.SimpleTypes', WHERE WHAT IT READS IS OF BULK AT MOST 1048576: true; the input reads as it did. -/
def simpleTypesUptoRow : OpenClaim := { program := "ytkfcancichadgaa", sum := "3a66a72306fbdf6980cd0355b02f3c803c4e9516b5eb77f2fb818b0f06a6055a", func := "tenet/tenetlaw25.SimpleTypes", spec := "simpleTypes", unfollowed := true, recurses := true, loops := true, apart := false, narrowed := true }
def SimpleTypesUptoSaid : Prop := simpleTypesUptoRow.holds Try.pinned (OpenSpec.upto simpleTypesSpec)

/-- 'tenetlaw25.SimplePuts', WHERE WHAT IT READS IS OF BULK AT MOST 1048576: true; the input reads as it did. -/
def simplePutsUptoRow : OpenClaim := { program := "ytkfcancichadgaa", sum := "3a66a72306fbdf6980cd0355b02f3c803c4e9516b5eb77f2fb818b0f06a6055a", func := "tenet/tenetlaw25.SimplePuts", spec := "simplePuts", unfollowed := true, recurses := true, loops := true, apart := false, narrowed := true }
def SimplePutsUptoSaid : Prop := simplePutsUptoRow.holds Try.pinned (OpenSpec.upto simplePutsSpec)

end Rows
end Go.Proofs.Ytkfcancichadgaa
