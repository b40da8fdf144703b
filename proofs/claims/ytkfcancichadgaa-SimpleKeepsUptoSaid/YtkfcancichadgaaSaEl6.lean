/-
  EQUATIONS of the reckoned code: printed by program.
-/
import Derived.Test.YtkfcancichadgaaSaTab
import Derived.Test.YtkfcancichadgaaAw4
set_option linter.unusedSimpArgs false
set_option linter.unusedVariables false
set_option maxRecDepth 100000
namespace Go.Proofs.Aw.Sa
open Go.Proofs

theorem e6 (n : Nat) (a0 : List Tree) (a10 : Int) (a11 : Int) (a12 : List UInt8) (a13 : List Tree) (a14 : List Tree) : evQ (Tab.env tab) n 6 [Tree.slc a0, Tree.agg
 [Tree.int IntKind.i64 a10, Tree.int IntKind.i64 a11, Tree.str a12, Tree.slc a13, Tree.slc a14]] = Option.bind (evP (Tab.env tab) n 10 [Tree.slc [Tree.agg [Tree.int
 IntKind.i64 a10, Tree.int IntKind.i64 a11, Tree.str a12, Tree.slc a13, Tree.slc a14]]]) fun y => bif Sh.ok Sh.bool y then bif Tree.toBool y then some (Tree.bool true)
 else bif decide ((↑(List.length a0) : Int) > 20) then some (Tree.bool true) else Option.bind (evP (Tab.env tab) n 14 [Tree.slc a0, Tree.int IntKind.i64 300]) fun y => bif
 Sh.ok (Sh.int IntKind.i64) y then bif decide (Tree.toInt y > 300) then some (Tree.bool true) else Option.bind (evP (Tab.env tab) n 15 [Tree.slc a0, Tree.agg [Tree.int
 IntKind.i64 a10, Tree.int IntKind.i64 a11, Tree.str a12, Tree.slc a13, Tree.slc a14]]) fun y => bif Sh.ok (Sh.tup [Sh.agg [Sh.str, Sh.slc], Sh.int IntKind.i64]) y then
 bif Tree.toInt (List.headD (List.tail (Tree.tupl y)) (Tree.bool false)) != 0 then Option.bind (evP (Tab.env tab) n 13 []) fun y => bif Sh.ok Sh.bool y then some
 (Tree.bool (Tree.toBool y)) else none else Option.bind (evP (Tab.env tab) n 20 [Tree.agg [Tree.int IntKind.i64 a10, Tree.int IntKind.i64 a11, Tree.str a12, Tree.slc a13,
 Tree.slc a14]]) fun y_1 => bif Sh.ok (Sh.tup [Sh.agg [Sh.int IntKind.i64, Sh.int IntKind.i64, Sh.str, Sh.slc, Sh.slc], Sh.slc, Sh.bool]) y_1 then bif Tree.toBool
 (List.headD (List.tail (List.tail (Tree.tupl y_1))) (Tree.bool false)) then Option.bind (evP (Tab.env tab) n 15 [Tree.slc a0, Tree.agg [Tree.int IntKind.i64 (Tree.toInt
 (List.headD (Tree.cs (List.headD (Tree.tupl y_1) (Tree.bool false))) (Tree.bool false))), Tree.int IntKind.i64 (Tree.toInt (List.headD (List.tail (Tree.cs (List.headD
 (Tree.tupl y_1) (Tree.bool false)))) (Tree.bool false))), Tree.str (Tree.toStr (List.headD (List.tail (List.tail (Tree.cs (List.headD (Tree.tupl y_1) (Tree.bool
 false))))) (Tree.bool false))), Tree.slc (Tree.elems (List.headD (List.tail (List.tail (List.tail (Tree.cs (List.headD (Tree.tupl y_1) (Tree.bool false)))))) (Tree.bool
 false))), Tree.slc (Tree.elems (List.headD (List.tail (List.tail (List.tail (List.tail (Tree.cs (List.headD (Tree.tupl y_1) (Tree.bool false))))))) (Tree.bool false)))]])
 fun y_2 => bif Sh.ok (Sh.tup [Sh.agg [Sh.str, Sh.slc], Sh.int IntKind.i64]) y_2 then bif Tree.toInt (List.headD (List.tail (Tree.tupl y_2)) (Tree.bool false)) == 4 then
 Option.bind (evP (Tab.env tab) n 18 [Tree.agg [Tree.int IntKind.i64 (Tree.toInt (List.headD (Tree.cs (List.headD (Tree.tupl y_1) (Tree.bool false))) (Tree.bool false))),
 Tree.int IntKind.i64 (Tree.toInt (List.headD (List.tail (Tree.cs (List.headD (Tree.tupl y_1) (Tree.bool false)))) (Tree.bool false))), Tree.str (Tree.toStr (List.headD
 (List.tail (List.tail (Tree.cs (List.headD (Tree.tupl y_1) (Tree.bool false))))) (Tree.bool false))), Tree.slc (Tree.elems (List.headD (List.tail (List.tail (List.tail
 (Tree.cs (List.headD (Tree.tupl y_1) (Tree.bool false)))))) (Tree.bool false))), Tree.slc (Tree.elems (List.headD (List.tail (List.tail (List.tail (List.tail (Tree.cs
 (List.headD (Tree.tupl y_1) (Tree.bool false))))))) (Tree.bool false)))]]) fun y_3 => bif Sh.ok Sh.bool y_3 then bif !Tree.toBool y_3 then Option.bind (evP (Tab.env tab)
 n 13 []) fun y => bif Sh.ok Sh.bool y then some (Tree.bool (Tree.toBool y)) else none else bif Tree.toInt (List.headD (List.tail (Tree.tupl y_2)) (Tree.bool false)) == 0
 then Option.bind (evP (Tab.env tab) n 16 [Tree.agg [Tree.str (Tree.toStr (List.headD (Tree.cs (List.headD (Tree.tupl y) (Tree.bool false))) (Tree.bool false))), Tree.slc
 (Tree.elems (List.headD (List.tail (Tree.cs (List.headD (Tree.tupl y) (Tree.bool false)))) (Tree.bool false)))], Tree.agg [Tree.str (Tree.toStr (List.headD (Tree.cs
 (List.headD (Tree.tupl y_2) (Tree.bool false))) (Tree.bool false))), Tree.slc (Tree.elems (List.headD (List.tail (Tree.cs (List.headD (Tree.tupl y_2) (Tree.bool false))))
 (Tree.bool false)))]]) fun y => bif Sh.ok Sh.bool y then bif Tree.toBool y then Option.bind (evP (Tab.env tab) n 13 []) fun y => bif Sh.ok Sh.bool y then some (Tree.bool
 (Tree.toBool y)) else none else some (Tree.bool false) else none else some (Tree.bool false) else none else bif Tree.toInt (List.headD (List.tail (Tree.tupl y_2))
 (Tree.bool false)) == 0 then Option.bind (evP (Tab.env tab) n 16 [Tree.agg [Tree.str (Tree.toStr (List.headD (Tree.cs (List.headD (Tree.tupl y) (Tree.bool false)))
 (Tree.bool false))), Tree.slc (Tree.elems (List.headD (List.tail (Tree.cs (List.headD (Tree.tupl y) (Tree.bool false)))) (Tree.bool false)))], Tree.agg [Tree.str
 (Tree.toStr (List.headD (Tree.cs (List.headD (Tree.tupl y_2) (Tree.bool false))) (Tree.bool false))), Tree.slc (Tree.elems (List.headD (List.tail (Tree.cs (List.headD
 (Tree.tupl y_2) (Tree.bool false)))) (Tree.bool false)))]]) fun y => bif Sh.ok Sh.bool y then bif Tree.toBool y then Option.bind (evP (Tab.env tab) n 13 []) fun y => bif
 Sh.ok Sh.bool y then some (Tree.bool (Tree.toBool y)) else none else some (Tree.bool false) else none else some (Tree.bool false) else none else bif decide
 ((↑(List.length a0) : Int) > 0) then Option.bind (evP (Tab.env tab) n 13 []) fun y => bif Sh.ok Sh.bool y then some (Tree.bool (Tree.toBool y)) else none else Option.bind
 (evP (Tab.env tab) n 26 [Tree.str (Tree.toStr (List.headD (Tree.cs (List.headD (Tree.tupl y) (Tree.bool false))) (Tree.bool false)))]) fun y => bif Sh.ok (Sh.int
 IntKind.i64) y then bif a10 == Tree.toInt y then Option.bind (evP (Tab.env tab) n 13 []) fun y => bif Sh.ok Sh.bool y then some (Tree.bool (Tree.toBool y)) else none else
 some (Tree.bool false) else none else none else none else none else none := by kernel_rfl


end Go.Proofs.Aw.Sa
