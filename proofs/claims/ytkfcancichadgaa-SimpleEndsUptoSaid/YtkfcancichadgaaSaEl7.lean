/-
  EQUATIONS of the reckoned code: printed by program.
-/
import Derived.Test.YtkfcancichadgaaSaTab
import Derived.Test.YtkfcancichadgaaAw4
set_option linter.unusedSimpArgs false
set_option linter.unusedVariables false
set_option maxRecDepth 100000
namespace Go.Proofs.Aw.Sa
open Go.Proofs

theorem e7 (n : Nat) (a00 : Int) (a01 : Int) (a02 : List UInt8) (a03 : List Tree) (a04 : List Tree) (a1 : Int) : evQ (Tab.env tab) n 7 [Tree.agg [Tree.int IntKind.i64 a00,
 Tree.int IntKind.i64 a01, Tree.str a02, Tree.slc a03, Tree.slc a04], Tree.int IntKind.u8 a1] = Option.bind (evP (Tab.env tab) n 10 [Tree.slc [Tree.agg [Tree.int
 IntKind.i64 a00, Tree.int IntKind.i64 a01, Tree.str a02, Tree.slc a03, Tree.slc a04]]]) fun y => bif Sh.ok Sh.bool y then bif Tree.toBool y then some (Tree.bool true)
 else Option.bind (evP (Tab.env tab) n 15 [Tree.slc [], Tree.agg [Tree.int IntKind.i64 a00, Tree.int IntKind.i64 a01, Tree.str a02, Tree.slc a03, Tree.slc a04]]) fun y =>
 bif Sh.ok (Sh.tup [Sh.agg [Sh.str, Sh.slc], Sh.int IntKind.i64]) y then bif Tree.toInt (List.headD (List.tail (Tree.tupl y)) (Tree.bool false)) != 0 then Option.bind (evP
 (Tab.env tab) n 13 []) fun y => bif Sh.ok Sh.bool y then some (Tree.bool (Tree.toBool y)) else none else Option.bind (evP (Tab.env tab) n 24 [Tree.agg [Tree.int
 IntKind.i64 a00, Tree.int IntKind.i64 a01, Tree.str a02, Tree.slc a03, Tree.slc a04], Tree.int IntKind.i64 (imin (IntKind.wrap IntKind.i64 a1) 200)]) fun y_1 => bif Sh.ok
 (Sh.tup [Sh.agg [Sh.int IntKind.i64, Sh.int IntKind.i64, Sh.str, Sh.slc, Sh.slc], Sh.int IntKind.i64, Sh.int IntKind.i64]) y_1 then bif Tree.toInt (List.headD (List.tail
 (List.tail (Tree.tupl y_1))) (Tree.bool false)) != 0 then bif Tree.toInt (List.headD (List.tail (List.tail (Tree.tupl y_1))) (Tree.bool false)) == 5 then Option.bind (evP
 (Tab.env tab) n 13 []) fun y => bif Sh.ok Sh.bool y then some (Tree.bool (Tree.toBool y)) else none else some (Tree.bool false) else Option.bind (evP (Tab.env tab) n 24
 [Tree.agg [Tree.int IntKind.i64 a00, Tree.int IntKind.i64 a01, Tree.str a02, Tree.slc a03, Tree.slc a04], Tree.int IntKind.i64 (IntKind.wrap IntKind.i64 (IntKind.wrap
 IntKind.i64 (2 * imin (IntKind.wrap IntKind.i64 a1) 200) + 5))]) fun y_2 => bif Sh.ok (Sh.tup [Sh.agg [Sh.int IntKind.i64, Sh.int IntKind.i64, Sh.str, Sh.slc, Sh.slc],
 Sh.int IntKind.i64, Sh.int IntKind.i64]) y_2 then Option.bind (evP (Tab.env tab) n 20 [Tree.agg [Tree.int IntKind.i64 (Tree.toInt (List.headD (Tree.cs (List.headD
 (Tree.tupl y_1) (Tree.bool false))) (Tree.bool false))), Tree.int IntKind.i64 (Tree.toInt (List.headD (List.tail (Tree.cs (List.headD (Tree.tupl y_1) (Tree.bool false))))
 (Tree.bool false))), Tree.str (Tree.toStr (List.headD (List.tail (List.tail (Tree.cs (List.headD (Tree.tupl y_1) (Tree.bool false))))) (Tree.bool false))), Tree.slc
 (Tree.elems (List.headD (List.tail (List.tail (List.tail (Tree.cs (List.headD (Tree.tupl y_1) (Tree.bool false)))))) (Tree.bool false))), Tree.slc (Tree.elems (List.headD
 (List.tail (List.tail (List.tail (List.tail (Tree.cs (List.headD (Tree.tupl y_1) (Tree.bool false))))))) (Tree.bool false)))]]) fun y_3 => bif Sh.ok (Sh.tup [Sh.agg
 [Sh.int IntKind.i64, Sh.int IntKind.i64, Sh.str, Sh.slc, Sh.slc], Sh.slc, Sh.bool]) y_3 then bif Tree.toInt (List.headD (List.tail (List.tail (Tree.tupl y_2))) (Tree.bool
 false)) != 0 then some (Tree.bool false) else bif Tree.toInt (List.headD (List.tail (Tree.tupl y_1)) (Tree.bool false)) != Tree.toInt (List.headD (List.tail (Tree.tupl
 y_2)) (Tree.bool false)) then some (Tree.bool false) else bif Tree.toBool (List.headD (List.tail (List.tail (Tree.tupl y_3))) (Tree.bool false)) then some (Tree.bool
 false) else Option.bind (evP (Tab.env tab) n 22 [Tree.agg [Tree.int IntKind.i64 (Tree.toInt (List.headD (Tree.cs (List.headD (Tree.tupl y_1) (Tree.bool false)))
 (Tree.bool false))), Tree.int IntKind.i64 (Tree.toInt (List.headD (List.tail (Tree.cs (List.headD (Tree.tupl y_1) (Tree.bool false)))) (Tree.bool false))), Tree.str
 (Tree.toStr (List.headD (List.tail (List.tail (Tree.cs (List.headD (Tree.tupl y_1) (Tree.bool false))))) (Tree.bool false))), Tree.slc (Tree.elems (List.headD (List.tail
 (List.tail (List.tail (Tree.cs (List.headD (Tree.tupl y_1) (Tree.bool false)))))) (Tree.bool false))), Tree.slc (Tree.elems (List.headD (List.tail (List.tail (List.tail
 (List.tail (Tree.cs (List.headD (Tree.tupl y_1) (Tree.bool false))))))) (Tree.bool false)))], Tree.agg [Tree.int IntKind.i64 (Tree.toInt (List.headD (Tree.cs (List.headD
 (Tree.tupl y_2) (Tree.bool false))) (Tree.bool false))), Tree.int IntKind.i64 (Tree.toInt (List.headD (List.tail (Tree.cs (List.headD (Tree.tupl y_2) (Tree.bool false))))
 (Tree.bool false))), Tree.str (Tree.toStr (List.headD (List.tail (List.tail (Tree.cs (List.headD (Tree.tupl y_2) (Tree.bool false))))) (Tree.bool false))), Tree.slc
 (Tree.elems (List.headD (List.tail (List.tail (List.tail (Tree.cs (List.headD (Tree.tupl y_2) (Tree.bool false)))))) (Tree.bool false))), Tree.slc (Tree.elems (List.headD
 (List.tail (List.tail (List.tail (List.tail (Tree.cs (List.headD (Tree.tupl y_2) (Tree.bool false))))))) (Tree.bool false)))]]) fun y_4 => bif Sh.ok Sh.bool y_4 then bif
 !Tree.toBool y_4 then some (Tree.bool false) else Option.bind (evP (Tab.env tab) n 15 [Tree.slc [], Tree.agg [Tree.int IntKind.i64 (Tree.toInt (List.headD (Tree.cs
 (List.headD (Tree.tupl y_1) (Tree.bool false))) (Tree.bool false))), Tree.int IntKind.i64 (Tree.toInt (List.headD (List.tail (Tree.cs (List.headD (Tree.tupl y_1)
 (Tree.bool false)))) (Tree.bool false))), Tree.str (Tree.toStr (List.headD (List.tail (List.tail (Tree.cs (List.headD (Tree.tupl y_1) (Tree.bool false))))) (Tree.bool
 false))), Tree.slc (Tree.elems (List.headD (List.tail (List.tail (List.tail (Tree.cs (List.headD (Tree.tupl y_1) (Tree.bool false)))))) (Tree.bool false))), Tree.slc
 (Tree.elems (List.headD (List.tail (List.tail (List.tail (List.tail (Tree.cs (List.headD (Tree.tupl y_1) (Tree.bool false))))))) (Tree.bool false)))]]) fun y_5 => bif
 Sh.ok (Sh.tup [Sh.agg [Sh.str, Sh.slc], Sh.int IntKind.i64]) y_5 then bif Tree.toInt (List.headD (List.tail (Tree.tupl y_5)) (Tree.bool false)) == 4 then Option.bind (evP
 (Tab.env tab) n 18 [Tree.agg [Tree.int IntKind.i64 (Tree.toInt (List.headD (Tree.cs (List.headD (Tree.tupl y_1) (Tree.bool false))) (Tree.bool false))), Tree.int
 IntKind.i64 (Tree.toInt (List.headD (List.tail (Tree.cs (List.headD (Tree.tupl y_1) (Tree.bool false)))) (Tree.bool false))), Tree.str (Tree.toStr (List.headD (List.tail
 (List.tail (Tree.cs (List.headD (Tree.tupl y_1) (Tree.bool false))))) (Tree.bool false))), Tree.slc (Tree.elems (List.headD (List.tail (List.tail (List.tail (Tree.cs
 (List.headD (Tree.tupl y_1) (Tree.bool false)))))) (Tree.bool false))), Tree.slc (Tree.elems (List.headD (List.tail (List.tail (List.tail (List.tail (Tree.cs (List.headD
 (Tree.tupl y_1) (Tree.bool false))))))) (Tree.bool false)))]]) fun y_6 => bif Sh.ok Sh.bool y_6 then bif !Tree.toBool y_6 then Option.bind (evP (Tab.env tab) n 13 []) fun
 y => bif Sh.ok Sh.bool y then some (Tree.bool (Tree.toBool y)) else none else bif Tree.toInt (List.headD (List.tail (Tree.tupl y_5)) (Tree.bool false)) == 0 then
 Option.bind (evP (Tab.env tab) n 16 [Tree.agg [Tree.str (Tree.toStr (List.headD (Tree.cs (List.headD (Tree.tupl y) (Tree.bool false))) (Tree.bool false))), Tree.slc
 (Tree.elems (List.headD (List.tail (Tree.cs (List.headD (Tree.tupl y) (Tree.bool false)))) (Tree.bool false)))], Tree.agg [Tree.str (Tree.toStr (List.headD (Tree.cs
 (List.headD (Tree.tupl y_5) (Tree.bool false))) (Tree.bool false))), Tree.slc (Tree.elems (List.headD (List.tail (Tree.cs (List.headD (Tree.tupl y_5) (Tree.bool false))))
 (Tree.bool false)))]]) fun y => bif Sh.ok Sh.bool y then bif Tree.toBool y then Option.bind (evP (Tab.env tab) n 13 []) fun y => bif Sh.ok Sh.bool y then some (Tree.bool
 (Tree.toBool y)) else none else some (Tree.bool false) else none else some (Tree.bool false) else none else bif Tree.toInt (List.headD (List.tail (Tree.tupl y_5))
 (Tree.bool false)) == 0 then Option.bind (evP (Tab.env tab) n 16 [Tree.agg [Tree.str (Tree.toStr (List.headD (Tree.cs (List.headD (Tree.tupl y) (Tree.bool false)))
 (Tree.bool false))), Tree.slc (Tree.elems (List.headD (List.tail (Tree.cs (List.headD (Tree.tupl y) (Tree.bool false)))) (Tree.bool false)))], Tree.agg [Tree.str
 (Tree.toStr (List.headD (Tree.cs (List.headD (Tree.tupl y_5) (Tree.bool false))) (Tree.bool false))), Tree.slc (Tree.elems (List.headD (List.tail (Tree.cs (List.headD
 (Tree.tupl y_5) (Tree.bool false)))) (Tree.bool false)))]]) fun y => bif Sh.ok Sh.bool y then bif Tree.toBool y then Option.bind (evP (Tab.env tab) n 13 []) fun y => bif
 Sh.ok Sh.bool y then some (Tree.bool (Tree.toBool y)) else none else some (Tree.bool false) else none else some (Tree.bool false) else none else none else none else none
 else none else none else none := by kernel_rfl


end Go.Proofs.Aw.Sa
