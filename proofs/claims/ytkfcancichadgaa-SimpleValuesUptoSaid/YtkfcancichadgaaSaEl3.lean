/-
  EQUATIONS of the reckoned code: printed by program.
-/
import Derived.Test.YtkfcancichadgaaSaTab
import Derived.Test.YtkfcancichadgaaAw4
set_option linter.unusedSimpArgs false
set_option linter.unusedVariables false
set_option maxRecDepth 100000
namespace Go.Proofs.Aw.Sa
open Go.Proofs

theorem e3 (n : Nat) (a00 : Int) (a01 : Int) (a02 : List UInt8) (a03 : List Tree) (a04 : List Tree) (a1 : Int) : evQ (Tab.env tab) n 3 [Tree.agg [Tree.int IntKind.i64 a00,
 Tree.int IntKind.i64 a01, Tree.str a02, Tree.slc a03, Tree.slc a04], Tree.int IntKind.i64 a1] = Option.bind (evP (Tab.env tab) n 10 [Tree.slc [Tree.agg [Tree.int
 IntKind.i64 a00, Tree.int IntKind.i64 a01, Tree.str a02, Tree.slc a03, Tree.slc a04]]]) fun y => bif Sh.ok Sh.bool y then bif Tree.toBool y then some (Tree.bool true)
 else bif decide (a1 > 200) then some (Tree.bool true) else Option.bind (evP (Tab.env tab) n 11 [Tree.agg [Tree.int IntKind.i64 a00, Tree.int IntKind.i64 a01, Tree.str
 a02, Tree.slc a03, Tree.slc a04], Tree.int IntKind.i64 a1]) fun y => bif Sh.ok (Sh.tup [Sh.int IntKind.i64, Sh.int IntKind.i64]) y then Option.bind (evP (Tab.env tab) n
 12 [Tree.agg [Tree.int IntKind.i64 a00, Tree.int IntKind.i64 a01, Tree.str a02, Tree.slc a03, Tree.slc a04], Tree.int IntKind.i64 a1]) fun y_1 => bif Sh.ok (Sh.tup
 [Sh.int IntKind.i64, Sh.int IntKind.i64]) y_1 then bif Tree.toInt (List.headD (List.tail (Tree.tupl y_1)) (Tree.bool false)) == 5 then bif Tree.toInt (List.headD
 (List.tail (Tree.tupl y)) (Tree.bool false)) != 5 then Option.bind (evP (Tab.env tab) n 12 [Tree.agg [Tree.int IntKind.i64 a00, Tree.int IntKind.i64 a01, Tree.str a02,
 Tree.slc a03, Tree.slc a04], Tree.int IntKind.i64 2000]) fun y_2 => bif Sh.ok (Sh.tup [Sh.int IntKind.i64, Sh.int IntKind.i64]) y_2 then bif Tree.toInt (List.headD
 (List.tail (Tree.tupl y_2)) (Tree.bool false)) == 5 then Option.bind (evP (Tab.env tab) n 13 []) fun y => bif Sh.ok Sh.bool y then some (Tree.bool (Tree.toBool y)) else
 none else bif Tree.toInt (List.headD (Tree.tupl y) (Tree.bool false)) == Tree.toInt (List.headD (Tree.tupl y_2) (Tree.bool false)) then bif Tree.toInt (List.headD
 (List.tail (Tree.tupl y)) (Tree.bool false)) == Tree.toInt (List.headD (List.tail (Tree.tupl y_2)) (Tree.bool false)) then Option.bind (evP (Tab.env tab) n 13 []) fun y
 => bif Sh.ok Sh.bool y then some (Tree.bool (Tree.toBool y)) else none else some (Tree.bool false) else some (Tree.bool false) else none else bif Tree.toInt (List.headD
 (Tree.tupl y) (Tree.bool false)) == Tree.toInt (List.headD (Tree.tupl y_1) (Tree.bool false)) then bif Tree.toInt (List.headD (List.tail (Tree.tupl y)) (Tree.bool false))
 == Tree.toInt (List.headD (List.tail (Tree.tupl y_1)) (Tree.bool false)) then Option.bind (evP (Tab.env tab) n 13 []) fun y => bif Sh.ok Sh.bool y then some (Tree.bool
 (Tree.toBool y)) else none else some (Tree.bool false) else some (Tree.bool false) else bif Tree.toInt (List.headD (Tree.tupl y) (Tree.bool false)) == Tree.toInt
 (List.headD (Tree.tupl y_1) (Tree.bool false)) then bif Tree.toInt (List.headD (List.tail (Tree.tupl y)) (Tree.bool false)) == Tree.toInt (List.headD (List.tail
 (Tree.tupl y_1)) (Tree.bool false)) then Option.bind (evP (Tab.env tab) n 13 []) fun y => bif Sh.ok Sh.bool y then some (Tree.bool (Tree.toBool y)) else none else some
 (Tree.bool false) else some (Tree.bool false) else none else none else none := by kernel_rfl


end Go.Proofs.Aw.Sa
