/-
  EQUATIONS of the reckoned code: printed by program.
-/
import Derived.Test.YtfkidinbolmkiaaQbTab
import Derived.Test.YtfkidinbolmkiaaBw4
set_option linter.unusedSimpArgs false
set_option linter.unusedVariables false
set_option maxRecDepth 100000
namespace Go.Proofs.Bw.Qb
open Go.Proofs

theorem e15 (n : Nat) : evQ (Tab.env tab) n 15 [] = Option.bind (evP (Tab.env tab) n 12 [Tree.agg [Tree.int IntKind.i64 0, Tree.int IntKind.i64 3], Tree.agg [Tree.int
 IntKind.i64 2, Tree.int IntKind.i64 5]]) fun y => bif Sh.ok (Sh.tup [Sh.agg [Sh.int IntKind.i64, Sh.int IntKind.i64], Sh.int IntKind.i64]) y then bif Tree.toInt
 (List.headD (List.tail (Tree.tupl y)) (Tree.bool false)) == 0 then some (Tree.bool (Tree.toInt (List.headD (Tree.cs (List.headD (Tree.tupl y) (Tree.bool false)))
 (Tree.bool false)) == 9 && (Tree.toInt (List.headD (List.tail (Tree.cs (List.headD (Tree.tupl y) (Tree.bool false)))) (Tree.bool false)) == 0 && true))) else some
 (Tree.bool false) else none := by kernel_rfl

theorem e4 (n : Nat) (a00 : Int) (a01 : Int) (a10 : Int) (a11 : Int) : evQ (Tab.env tab) n 4 [Tree.agg [Tree.int IntKind.i64 a00, Tree.int IntKind.i64 a01], Tree.agg
 [Tree.int IntKind.i64 a10, Tree.int IntKind.i64 a11]] = Option.bind (evP (Tab.env tab) n 16 [Tree.agg [Tree.int IntKind.i64 a00, Tree.int IntKind.i64 a01]]) fun y => bif
 Sh.ok (Sh.tup [Sh.agg [Sh.int IntKind.i64, Sh.int IntKind.i64], Sh.int IntKind.i64]) y then Option.bind (evP (Tab.env tab) n 17 [Tree.agg [Tree.int IntKind.i64 a00,
 Tree.int IntKind.i64 a01]]) fun y_1 => bif Sh.ok (Sh.tup [Sh.agg [Sh.int IntKind.i64, Sh.int IntKind.i64], Sh.int IntKind.i64]) y_1 then bif !(Tree.toInt (List.headD
 (Tree.cs (List.headD (Tree.tupl y) (Tree.bool false))) (Tree.bool false)) == Tree.toInt (List.headD (Tree.cs (List.headD (Tree.tupl y_1) (Tree.bool false))) (Tree.bool
 false)) && (Tree.toInt (List.headD (List.tail (Tree.cs (List.headD (Tree.tupl y) (Tree.bool false)))) (Tree.bool false)) == Tree.toInt (List.headD (List.tail (Tree.cs
 (List.headD (Tree.tupl y_1) (Tree.bool false)))) (Tree.bool false)) && true)) then some (Tree.bool false) else bif Tree.toInt (List.headD (List.tail (Tree.tupl y))
 (Tree.bool false)) != Tree.toInt (List.headD (List.tail (Tree.tupl y_1)) (Tree.bool false)) then some (Tree.bool false) else Option.bind (evP (Tab.env tab) n 10 [Tree.agg
 [Tree.int IntKind.i64 a00, Tree.int IntKind.i64 a01], Tree.agg [Tree.int IntKind.i64 a10, Tree.int IntKind.i64 a11]]) fun y => bif Sh.ok (Sh.tup [Sh.agg [Sh.int
 IntKind.i64, Sh.int IntKind.i64], Sh.int IntKind.i64]) y then Option.bind (evP (Tab.env tab) n 18 [Tree.agg [Tree.int IntKind.i64 a00, Tree.int IntKind.i64 a01], Tree.agg
 [Tree.int IntKind.i64 a10, Tree.int IntKind.i64 a11]]) fun y_2 => bif Sh.ok (Sh.tup [Sh.agg [Sh.int IntKind.i64, Sh.int IntKind.i64], Sh.int IntKind.i64]) y_2 then bif
 !(Tree.toInt (List.headD (Tree.cs (List.headD (Tree.tupl y) (Tree.bool false))) (Tree.bool false)) == Tree.toInt (List.headD (Tree.cs (List.headD (Tree.tupl y_2)
 (Tree.bool false))) (Tree.bool false)) && (Tree.toInt (List.headD (List.tail (Tree.cs (List.headD (Tree.tupl y) (Tree.bool false)))) (Tree.bool false)) == Tree.toInt
 (List.headD (List.tail (Tree.cs (List.headD (Tree.tupl y_2) (Tree.bool false)))) (Tree.bool false)) && true)) then some (Tree.bool false) else bif Tree.toInt (List.headD
 (List.tail (Tree.tupl y)) (Tree.bool false)) != Tree.toInt (List.headD (List.tail (Tree.tupl y_2)) (Tree.bool false)) then some (Tree.bool false) else Option.bind (evP
 (Tab.env tab) n 12 [Tree.agg [Tree.int IntKind.i64 a00, Tree.int IntKind.i64 a01], Tree.agg [Tree.int IntKind.i64 a10, Tree.int IntKind.i64 a11]]) fun y => bif Sh.ok
 (Sh.tup [Sh.agg [Sh.int IntKind.i64, Sh.int IntKind.i64], Sh.int IntKind.i64]) y then Option.bind (evP (Tab.env tab) n 19 [Tree.agg [Tree.int IntKind.i64 a00, Tree.int
 IntKind.i64 a01], Tree.agg [Tree.int IntKind.i64 a10, Tree.int IntKind.i64 a11]]) fun y_3 => bif Sh.ok (Sh.tup [Sh.agg [Sh.int IntKind.i64, Sh.int IntKind.i64], Sh.int
 IntKind.i64]) y_3 then bif !(Tree.toInt (List.headD (Tree.cs (List.headD (Tree.tupl y) (Tree.bool false))) (Tree.bool false)) == Tree.toInt (List.headD (Tree.cs
 (List.headD (Tree.tupl y_3) (Tree.bool false))) (Tree.bool false)) && (Tree.toInt (List.headD (List.tail (Tree.cs (List.headD (Tree.tupl y) (Tree.bool false))))
 (Tree.bool false)) == Tree.toInt (List.headD (List.tail (Tree.cs (List.headD (Tree.tupl y_3) (Tree.bool false)))) (Tree.bool false)) && true)) then some (Tree.bool false)
 else bif Tree.toInt (List.headD (List.tail (Tree.tupl y)) (Tree.bool false)) != Tree.toInt (List.headD (List.tail (Tree.tupl y_3)) (Tree.bool false)) then some (Tree.bool
 false) else Option.bind (evP (Tab.env tab) n 11 [Tree.agg [Tree.int IntKind.i64 a00, Tree.int IntKind.i64 a01]]) fun y => bif Sh.ok (Sh.tup [Sh.agg [Sh.int IntKind.i64,
 Sh.int IntKind.i64], Sh.int IntKind.i64]) y then Option.bind (evP (Tab.env tab) n 20 [Tree.agg [Tree.int IntKind.i64 a00, Tree.int IntKind.i64 a01]]) fun y_4 => bif Sh.ok
 (Sh.tup [Sh.agg [Sh.int IntKind.i64, Sh.int IntKind.i64], Sh.int IntKind.i64]) y_4 then bif !(Tree.toInt (List.headD (Tree.cs (List.headD (Tree.tupl y) (Tree.bool
 false))) (Tree.bool false)) == Tree.toInt (List.headD (Tree.cs (List.headD (Tree.tupl y_4) (Tree.bool false))) (Tree.bool false)) && (Tree.toInt (List.headD (List.tail
 (Tree.cs (List.headD (Tree.tupl y) (Tree.bool false)))) (Tree.bool false)) == Tree.toInt (List.headD (List.tail (Tree.cs (List.headD (Tree.tupl y_4) (Tree.bool false))))
 (Tree.bool false)) && true)) then some (Tree.bool false) else bif Tree.toInt (List.headD (List.tail (Tree.tupl y)) (Tree.bool false)) != Tree.toInt (List.headD (List.tail
 (Tree.tupl y_4)) (Tree.bool false)) then some (Tree.bool false) else Option.bind (evP (Tab.env tab) n 13 [Tree.agg [Tree.int IntKind.i64 a00, Tree.int IntKind.i64 a01],
 Tree.agg [Tree.int IntKind.i64 a10, Tree.int IntKind.i64 a11]]) fun y => bif Sh.ok (Sh.tup [Sh.bool, Sh.int IntKind.i64]) y then Option.bind (evP (Tab.env tab) n 21
 [Tree.agg [Tree.int IntKind.i64 a00, Tree.int IntKind.i64 a01], Tree.agg [Tree.int IntKind.i64 a10, Tree.int IntKind.i64 a11]]) fun y_5 => bif Sh.ok (Sh.tup [Sh.bool,
 Sh.int IntKind.i64]) y_5 then Option.bind (evP (Tab.env tab) n 14 [Tree.agg [Tree.int IntKind.i64 a00, Tree.int IntKind.i64 a01], Tree.agg [Tree.int IntKind.i64 a10,
 Tree.int IntKind.i64 a11]]) fun y_6 => bif Sh.ok (Sh.tup [Sh.bool, Sh.int IntKind.i64]) y_6 then Option.bind (evP (Tab.env tab) n 22 [Tree.agg [Tree.int IntKind.i64 a00,
 Tree.int IntKind.i64 a01], Tree.agg [Tree.int IntKind.i64 a10, Tree.int IntKind.i64 a11]]) fun y_7 => bif Sh.ok (Sh.tup [Sh.bool, Sh.int IntKind.i64]) y_7 then bif
 Tree.toBool (List.headD (Tree.tupl y) (Tree.bool false)) == Tree.toBool (List.headD (Tree.tupl y_5) (Tree.bool false)) then bif Tree.toInt (List.headD (List.tail
 (Tree.tupl y)) (Tree.bool false)) == Tree.toInt (List.headD (List.tail (Tree.tupl y_5)) (Tree.bool false)) then bif Tree.toBool (List.headD (Tree.tupl y_6) (Tree.bool
 false)) == Tree.toBool (List.headD (Tree.tupl y_7) (Tree.bool false)) then bif Tree.toInt (List.headD (List.tail (Tree.tupl y_6)) (Tree.bool false)) == Tree.toInt
 (List.headD (List.tail (Tree.tupl y_7)) (Tree.bool false)) then Option.bind (evP (Tab.env tab) n 15 []) fun y => bif Sh.ok Sh.bool y then some (Tree.bool (Tree.toBool y))
 else none else some (Tree.bool false) else some (Tree.bool false) else some (Tree.bool false) else some (Tree.bool false) else none else none else none else none else
 none else none else none else none else none else none else none else none := by kernel_rfl


end Go.Proofs.Bw.Qb
