/-
  EQUATIONS of the reckoned code: printed by program.
-/
import Derived.Test.YtfkidinbolmkiaaQbTab
import Derived.Test.YtfkidinbolmkiaaBw4
set_option linter.unusedSimpArgs false
set_option linter.unusedVariables false
set_option maxRecDepth 100000
namespace Go.Proofs.Bw.Qb
open Go.Proofs

theorem e10 (n : Nat) (a00 : Int) (a01 : Int) (a10 : Int) (a11 : Int) : evQ (Tab.env tab) n 10 [Tree.agg [Tree.int IntKind.i64 a00, Tree.int IntKind.i64 a01], Tree.agg
 [Tree.int IntKind.i64 a10, Tree.int IntKind.i64 a11]] = Option.bind (evP (Tab.env tab) n 49 [Tree.slc [Tree.int IntKind.i64 a00, Tree.int IntKind.i64 a01, Tree.int
 IntKind.i64 a10, Tree.int IntKind.i64 a11]]) fun y => bif Sh.ok Sh.bool y then bif !Tree.toBool y then some (Tree.tup [Tree.agg [Tree.int IntKind.i64 0, Tree.int
 IntKind.i64 0], Tree.int IntKind.i64 4]) else Option.bind (evP (Tab.env tab) n 50 [Tree.int IntKind.i64 (IntKind.wrap IntKind.i64 (IntKind.wrap IntKind.i64 (IntKind.wrap
 IntKind.i64 (a00 - a01) + a10) - a11))]) fun y => bif Sh.ok (Sh.tup [Sh.agg [Sh.int IntKind.i64, Sh.int IntKind.i64], Sh.int IntKind.i64]) y then some (Tree.tup [Tree.agg
 [Tree.int IntKind.i64 (Tree.toInt (List.headD (Tree.cs (List.headD (Tree.tupl y) (Tree.bool false))) (Tree.bool false))), Tree.int IntKind.i64 (Tree.toInt (List.headD
 (List.tail (Tree.cs (List.headD (Tree.tupl y) (Tree.bool false)))) (Tree.bool false)))], Tree.int IntKind.i64 (Tree.toInt (List.headD (List.tail (Tree.tupl y)) (Tree.bool
 false)))]) else none else none := by kernel_rfl

theorem e11 (n : Nat) (a00 : Int) (a01 : Int) : evQ (Tab.env tab) n 11 [Tree.agg [Tree.int IntKind.i64 a00, Tree.int IntKind.i64 a01]] = Option.bind (evP (Tab.env tab) n
 49 [Tree.slc [Tree.int IntKind.i64 a00, Tree.int IntKind.i64 a01]]) fun y => bif Sh.ok Sh.bool y then bif !Tree.toBool y then some (Tree.tup [Tree.agg [Tree.int
 IntKind.i64 0, Tree.int IntKind.i64 0], Tree.int IntKind.i64 4]) else Option.bind (evP (Tab.env tab) n 50 [Tree.int IntKind.i64 (IntKind.wrap IntKind.i64 (a01 - a00))])
 fun y => bif Sh.ok (Sh.tup [Sh.agg [Sh.int IntKind.i64, Sh.int IntKind.i64], Sh.int IntKind.i64]) y then some (Tree.tup [Tree.agg [Tree.int IntKind.i64 (Tree.toInt
 (List.headD (Tree.cs (List.headD (Tree.tupl y) (Tree.bool false))) (Tree.bool false))), Tree.int IntKind.i64 (Tree.toInt (List.headD (List.tail (Tree.cs (List.headD
 (Tree.tupl y) (Tree.bool false)))) (Tree.bool false)))], Tree.int IntKind.i64 (Tree.toInt (List.headD (List.tail (Tree.tupl y)) (Tree.bool false)))]) else none else none
 := by kernel_rfl

theorem e12 (n : Nat) (a00 : Int) (a01 : Int) (a10 : Int) (a11 : Int) : evQ (Tab.env tab) n 12 [Tree.agg [Tree.int IntKind.i64 a00, Tree.int IntKind.i64 a01], Tree.agg
 [Tree.int IntKind.i64 a10, Tree.int IntKind.i64 a11]] = Option.bind (evP (Tab.env tab) n 49 [Tree.slc [Tree.int IntKind.i64 a00, Tree.int IntKind.i64 a01, Tree.int
 IntKind.i64 a10, Tree.int IntKind.i64 a11]]) fun y => bif Sh.ok Sh.bool y then bif !Tree.toBool y then some (Tree.tup [Tree.agg [Tree.int IntKind.i64 0, Tree.int
 IntKind.i64 0], Tree.int IntKind.i64 4]) else Option.bind (evP (Tab.env tab) n 51 [Tree.int IntKind.i64 (IntKind.wrap IntKind.i64 (a00 - a01)), Tree.int IntKind.i64
 (IntKind.wrap IntKind.i64 (a10 - a11))]) fun y => bif Sh.ok (Sh.agg [Sh.bool, Sh.int IntKind.u64, Sh.int IntKind.u64]) y then Option.bind (evP (Tab.env tab) n 52
 [Tree.agg [Tree.bool (Tree.toBool (List.headD (Tree.cs y) (Tree.bool false))), Tree.int IntKind.u64 (Tree.toInt (List.headD (List.tail (Tree.cs y)) (Tree.bool false))),
 Tree.int IntKind.u64 (Tree.toInt (List.headD (List.tail (List.tail (Tree.cs y))) (Tree.bool false)))]]) fun y => bif Sh.ok (Sh.tup [Sh.int IntKind.i64, Sh.bool]) y then
 bif !Tree.toBool (List.headD (List.tail (Tree.tupl y)) (Tree.bool false)) then some (Tree.tup [Tree.agg [Tree.int IntKind.i64 0, Tree.int IntKind.i64 0], Tree.int
 IntKind.i64 2]) else Option.bind (evP (Tab.env tab) n 50 [Tree.int IntKind.i64 (Tree.toInt (List.headD (Tree.tupl y) (Tree.bool false)))]) fun y => bif Sh.ok (Sh.tup
 [Sh.agg [Sh.int IntKind.i64, Sh.int IntKind.i64], Sh.int IntKind.i64]) y then some (Tree.tup [Tree.agg [Tree.int IntKind.i64 (Tree.toInt (List.headD (Tree.cs (List.headD
 (Tree.tupl y) (Tree.bool false))) (Tree.bool false))), Tree.int IntKind.i64 (Tree.toInt (List.headD (List.tail (Tree.cs (List.headD (Tree.tupl y) (Tree.bool false))))
 (Tree.bool false)))], Tree.int IntKind.i64 (Tree.toInt (List.headD (List.tail (Tree.tupl y)) (Tree.bool false)))]) else none else none else none else none := by
 kernel_rfl

theorem e13 (n : Nat) (a00 : Int) (a01 : Int) (a10 : Int) (a11 : Int) : evQ (Tab.env tab) n 13 [Tree.agg [Tree.int IntKind.i64 a00, Tree.int IntKind.i64 a01], Tree.agg
 [Tree.int IntKind.i64 a10, Tree.int IntKind.i64 a11]] = Option.bind (evP (Tab.env tab) n 49 [Tree.slc [Tree.int IntKind.i64 a00, Tree.int IntKind.i64 a01, Tree.int
 IntKind.i64 a10, Tree.int IntKind.i64 a11]]) fun y => bif Sh.ok Sh.bool y then bif !Tree.toBool y then some (Tree.tup [Tree.bool false, Tree.int IntKind.i64 4]) else some
 (Tree.tup [Tree.bool (decide (IntKind.wrap IntKind.i64 (a00 - a01) ≤ IntKind.wrap IntKind.i64 (a10 - a11))), Tree.int IntKind.i64 0]) else none := by kernel_rfl

theorem e14 (n : Nat) (a00 : Int) (a01 : Int) (a10 : Int) (a11 : Int) : evQ (Tab.env tab) n 14 [Tree.agg [Tree.int IntKind.i64 a00, Tree.int IntKind.i64 a01], Tree.agg
 [Tree.int IntKind.i64 a10, Tree.int IntKind.i64 a11]] = Option.bind (evP (Tab.env tab) n 49 [Tree.slc [Tree.int IntKind.i64 a00, Tree.int IntKind.i64 a01, Tree.int
 IntKind.i64 a10, Tree.int IntKind.i64 a11]]) fun y => bif Sh.ok Sh.bool y then bif !Tree.toBool y then some (Tree.tup [Tree.bool false, Tree.int IntKind.i64 4]) else some
 (Tree.tup [Tree.bool (IntKind.wrap IntKind.i64 (a00 - a01) == IntKind.wrap IntKind.i64 (a10 - a11)), Tree.int IntKind.i64 0]) else none := by kernel_rfl

theorem e16 (n : Nat) (a00 : Int) (a01 : Int) : evQ (Tab.env tab) n 16 [Tree.agg [Tree.int IntKind.i64 a00, Tree.int IntKind.i64 a01]] = Option.bind (evP (Tab.env tab) n
 49 [Tree.slc [Tree.int IntKind.i64 a00, Tree.int IntKind.i64 a01]]) fun y => bif Sh.ok Sh.bool y then bif !Tree.toBool y then some (Tree.tup [Tree.agg [Tree.int
 IntKind.i64 0, Tree.int IntKind.i64 0], Tree.int IntKind.i64 4]) else Option.bind (evP (Tab.env tab) n 50 [Tree.int IntKind.i64 (IntKind.wrap IntKind.i64 (a00 - a01))])
 fun y => bif Sh.ok (Sh.tup [Sh.agg [Sh.int IntKind.i64, Sh.int IntKind.i64], Sh.int IntKind.i64]) y then some (Tree.tup [Tree.agg [Tree.int IntKind.i64 (Tree.toInt
 (List.headD (Tree.cs (List.headD (Tree.tupl y) (Tree.bool false))) (Tree.bool false))), Tree.int IntKind.i64 (Tree.toInt (List.headD (List.tail (Tree.cs (List.headD
 (Tree.tupl y) (Tree.bool false)))) (Tree.bool false)))], Tree.int IntKind.i64 (Tree.toInt (List.headD (List.tail (Tree.tupl y)) (Tree.bool false)))]) else none else none
 := by kernel_rfl

theorem e17 (n : Nat) (a00 : Int) (a01 : Int) : evQ (Tab.env tab) n 17 [Tree.agg [Tree.int IntKind.i64 a00, Tree.int IntKind.i64 a01]] = Option.bind (evP (Tab.env tab) n
 53 [Tree.agg [Tree.int IntKind.i64 a00, Tree.int IntKind.i64 a01]]) fun y => bif Sh.ok Sh.bool y then bif !Tree.toBool y then some (Tree.tup [Tree.agg [Tree.int
 IntKind.i64 0, Tree.int IntKind.i64 0], Tree.int IntKind.i64 4]) else Option.bind (evP (Tab.env tab) n 54 [Tree.int IntKind.i64 (IntKind.wrap IntKind.i64 (a00 - a01))])
 fun y => bif Sh.ok (Sh.tup [Sh.agg [Sh.int IntKind.i64, Sh.int IntKind.i64], Sh.int IntKind.i64]) y then some (Tree.tup [Tree.agg [Tree.int IntKind.i64 (Tree.toInt
 (List.headD (Tree.cs (List.headD (Tree.tupl y) (Tree.bool false))) (Tree.bool false))), Tree.int IntKind.i64 (Tree.toInt (List.headD (List.tail (Tree.cs (List.headD
 (Tree.tupl y) (Tree.bool false)))) (Tree.bool false)))], Tree.int IntKind.i64 (Tree.toInt (List.headD (List.tail (Tree.tupl y)) (Tree.bool false)))]) else none else none
 := by kernel_rfl

theorem e18 (n : Nat) (a00 : Int) (a01 : Int) (a10 : Int) (a11 : Int) : evQ (Tab.env tab) n 18 [Tree.agg [Tree.int IntKind.i64 a00, Tree.int IntKind.i64 a01], Tree.agg
 [Tree.int IntKind.i64 a10, Tree.int IntKind.i64 a11]] = Option.bind (evP (Tab.env tab) n 53 [Tree.agg [Tree.int IntKind.i64 a00, Tree.int IntKind.i64 a01]]) fun y => bif
 Sh.ok Sh.bool y then bif !Tree.toBool y then some (Tree.tup [Tree.agg [Tree.int IntKind.i64 0, Tree.int IntKind.i64 0], Tree.int IntKind.i64 4]) else Option.bind (evP
 (Tab.env tab) n 53 [Tree.agg [Tree.int IntKind.i64 a10, Tree.int IntKind.i64 a11]]) fun y => bif Sh.ok Sh.bool y then bif !Tree.toBool y then some (Tree.tup [Tree.agg
 [Tree.int IntKind.i64 0, Tree.int IntKind.i64 0], Tree.int IntKind.i64 4]) else Option.bind (evP (Tab.env tab) n 54 [Tree.int IntKind.i64 (IntKind.wrap IntKind.i64
 (IntKind.wrap IntKind.i64 (IntKind.wrap IntKind.i64 (a00 - a01) + a10) - a11))]) fun y => bif Sh.ok (Sh.tup [Sh.agg [Sh.int IntKind.i64, Sh.int IntKind.i64], Sh.int
 IntKind.i64]) y then some (Tree.tup [Tree.agg [Tree.int IntKind.i64 (Tree.toInt (List.headD (Tree.cs (List.headD (Tree.tupl y) (Tree.bool false))) (Tree.bool false))),
 Tree.int IntKind.i64 (Tree.toInt (List.headD (List.tail (Tree.cs (List.headD (Tree.tupl y) (Tree.bool false)))) (Tree.bool false)))], Tree.int IntKind.i64 (Tree.toInt
 (List.headD (List.tail (Tree.tupl y)) (Tree.bool false)))]) else none else none else none := by kernel_rfl

theorem e19 (n : Nat) (a00 : Int) (a01 : Int) (a10 : Int) (a11 : Int) : evQ (Tab.env tab) n 19 [Tree.agg [Tree.int IntKind.i64 a00, Tree.int IntKind.i64 a01], Tree.agg
 [Tree.int IntKind.i64 a10, Tree.int IntKind.i64 a11]] = Option.bind (evP (Tab.env tab) n 53 [Tree.agg [Tree.int IntKind.i64 a00, Tree.int IntKind.i64 a01]]) fun y => bif
 Sh.ok Sh.bool y then bif !Tree.toBool y then some (Tree.tup [Tree.agg [Tree.int IntKind.i64 0, Tree.int IntKind.i64 0], Tree.int IntKind.i64 4]) else Option.bind (evP
 (Tab.env tab) n 53 [Tree.agg [Tree.int IntKind.i64 a10, Tree.int IntKind.i64 a11]]) fun y => bif Sh.ok Sh.bool y then bif !Tree.toBool y then some (Tree.tup [Tree.agg
 [Tree.int IntKind.i64 0, Tree.int IntKind.i64 0], Tree.int IntKind.i64 4]) else Option.bind (evP (Tab.env tab) n 55 [Tree.int IntKind.i64 (IntKind.wrap IntKind.i64 (a00 -
 a01)), Tree.int IntKind.i64 (IntKind.wrap IntKind.i64 (a10 - a11))]) fun y => bif Sh.ok (Sh.agg [Sh.bool, Sh.int IntKind.u64, Sh.int IntKind.u64]) y then bif Tree.toInt
 (List.headD (List.tail (Tree.cs y)) (Tree.bool false)) != 0 then some (Tree.tup [Tree.agg [Tree.int IntKind.i64 0, Tree.int IntKind.i64 0], Tree.int IntKind.i64 2]) else
 bif decide (Tree.toInt (List.headD (List.tail (List.tail (Tree.cs y))) (Tree.bool false)) > 1099511627776) then some (Tree.tup [Tree.agg [Tree.int IntKind.i64 0, Tree.int
 IntKind.i64 0], Tree.int IntKind.i64 2]) else Option.bind (evP (Tab.env tab) n 56 [Tree.agg [Tree.bool (Tree.toBool (List.headD (Tree.cs y) (Tree.bool false))), Tree.int
 IntKind.u64 (Tree.toInt (List.headD (List.tail (Tree.cs y)) (Tree.bool false))), Tree.int IntKind.u64 (Tree.toInt (List.headD (List.tail (List.tail (Tree.cs y)))
 (Tree.bool false)))]]) fun y => bif Sh.ok (Sh.int IntKind.i64) y then Option.bind (evP (Tab.env tab) n 54 [Tree.int IntKind.i64 (Tree.toInt y)]) fun y => bif Sh.ok
 (Sh.tup [Sh.agg [Sh.int IntKind.i64, Sh.int IntKind.i64], Sh.int IntKind.i64]) y then some (Tree.tup [Tree.agg [Tree.int IntKind.i64 (Tree.toInt (List.headD (Tree.cs
 (List.headD (Tree.tupl y) (Tree.bool false))) (Tree.bool false))), Tree.int IntKind.i64 (Tree.toInt (List.headD (List.tail (Tree.cs (List.headD (Tree.tupl y) (Tree.bool
 false)))) (Tree.bool false)))], Tree.int IntKind.i64 (Tree.toInt (List.headD (List.tail (Tree.tupl y)) (Tree.bool false)))]) else none else none else none else none else
 none := by kernel_rfl

theorem e20 (n : Nat) (a00 : Int) (a01 : Int) : evQ (Tab.env tab) n 20 [Tree.agg [Tree.int IntKind.i64 a00, Tree.int IntKind.i64 a01]] = Option.bind (evP (Tab.env tab) n
 53 [Tree.agg [Tree.int IntKind.i64 a00, Tree.int IntKind.i64 a01]]) fun y => bif Sh.ok Sh.bool y then bif !Tree.toBool y then some (Tree.tup [Tree.agg [Tree.int
 IntKind.i64 0, Tree.int IntKind.i64 0], Tree.int IntKind.i64 4]) else Option.bind (evP (Tab.env tab) n 54 [Tree.int IntKind.i64 (IntKind.wrap IntKind.i64 (a01 - a00))])
 fun y => bif Sh.ok (Sh.tup [Sh.agg [Sh.int IntKind.i64, Sh.int IntKind.i64], Sh.int IntKind.i64]) y then some (Tree.tup [Tree.agg [Tree.int IntKind.i64 (Tree.toInt
 (List.headD (Tree.cs (List.headD (Tree.tupl y) (Tree.bool false))) (Tree.bool false))), Tree.int IntKind.i64 (Tree.toInt (List.headD (List.tail (Tree.cs (List.headD
 (Tree.tupl y) (Tree.bool false)))) (Tree.bool false)))], Tree.int IntKind.i64 (Tree.toInt (List.headD (List.tail (Tree.tupl y)) (Tree.bool false)))]) else none else none
 := by kernel_rfl

theorem e21 (n : Nat) (a00 : Int) (a01 : Int) (a10 : Int) (a11 : Int) : evQ (Tab.env tab) n 21 [Tree.agg [Tree.int IntKind.i64 a00, Tree.int IntKind.i64 a01], Tree.agg
 [Tree.int IntKind.i64 a10, Tree.int IntKind.i64 a11]] = Option.bind (evP (Tab.env tab) n 53 [Tree.agg [Tree.int IntKind.i64 a00, Tree.int IntKind.i64 a01]]) fun y => bif
 Sh.ok Sh.bool y then bif !Tree.toBool y then some (Tree.tup [Tree.bool false, Tree.int IntKind.i64 4]) else Option.bind (evP (Tab.env tab) n 53 [Tree.agg [Tree.int
 IntKind.i64 a10, Tree.int IntKind.i64 a11]]) fun y => bif Sh.ok Sh.bool y then bif !Tree.toBool y then some (Tree.tup [Tree.bool false, Tree.int IntKind.i64 4]) else some
 (Tree.tup [Tree.bool (decide (IntKind.wrap IntKind.i64 (a00 - a01) ≤ IntKind.wrap IntKind.i64 (a10 - a11))), Tree.int IntKind.i64 0]) else none else none := by kernel_rfl

theorem e22 (n : Nat) (a00 : Int) (a01 : Int) (a10 : Int) (a11 : Int) : evQ (Tab.env tab) n 22 [Tree.agg [Tree.int IntKind.i64 a00, Tree.int IntKind.i64 a01], Tree.agg
 [Tree.int IntKind.i64 a10, Tree.int IntKind.i64 a11]] = Option.bind (evP (Tab.env tab) n 53 [Tree.agg [Tree.int IntKind.i64 a00, Tree.int IntKind.i64 a01]]) fun y => bif
 Sh.ok Sh.bool y then bif !Tree.toBool y then some (Tree.tup [Tree.bool false, Tree.int IntKind.i64 4]) else Option.bind (evP (Tab.env tab) n 53 [Tree.agg [Tree.int
 IntKind.i64 a10, Tree.int IntKind.i64 a11]]) fun y => bif Sh.ok Sh.bool y then bif !Tree.toBool y then some (Tree.tup [Tree.bool false, Tree.int IntKind.i64 4]) else some
 (Tree.tup [Tree.bool (IntKind.wrap IntKind.i64 (a00 - a01) == IntKind.wrap IntKind.i64 (a10 - a11)), Tree.int IntKind.i64 0]) else none else none := by kernel_rfl

theorem e49 (n : Nat) (a0 : List Tree) : evQ (Tab.env tab) n 49 [Tree.slc a0] = Option.bind (evP (Tab.env tab) n 80 [Tree.slc a0, Tree.fn 81 [] []]) fun y => bif Sh.ok
 Sh.bool y then some (Tree.bool !Tree.toBool y) else none := by kernel_rfl

theorem e50 (n : Nat) (a0 : Int) : evQ (Tab.env tab) n 50 [Tree.int IntKind.i64 a0] = Option.bind (evP (Tab.env tab) n 70 [Tree.slc [Tree.int IntKind.i64 a0]]) fun y =>
 bif Sh.ok Sh.bool y then bif !Tree.toBool y then some (Tree.tup [Tree.agg [Tree.int IntKind.i64 0, Tree.int IntKind.i64 0], Tree.int IntKind.i64 2]) else bif decide (a0 <
 0) then some (Tree.tup [Tree.agg [Tree.int IntKind.i64 0, Tree.int IntKind.i64 (IntKind.wrap IntKind.i64 (0 - a0))], Tree.int IntKind.i64 0]) else some (Tree.tup
 [Tree.agg [Tree.int IntKind.i64 a0, Tree.int IntKind.i64 0], Tree.int IntKind.i64 0]) else none := by kernel_rfl

theorem e51 (n : Nat) (a0 : Int) (a1 : Int) : evQ (Tab.env tab) n 51 [Tree.int IntKind.i64 a0, Tree.int IntKind.i64 a1] = Option.bind (evP (Tab.env tab) n 83 [Tree.int
 IntKind.i64 a0]) fun y => bif Sh.ok (Sh.int IntKind.u64) y then Option.bind (evP (Tab.env tab) n 83 [Tree.int IntKind.i64 a1]) fun y_1 => bif Sh.ok (Sh.int IntKind.u64)
 y_1 then Option.bind (evP (Tab.env tab) n 82 [Tree.int IntKind.u64 (Tree.toInt y), Tree.int IntKind.u64 (Tree.toInt y_1)]) fun y => bif Sh.ok (Sh.tup [Sh.int IntKind.u64,
 Sh.int IntKind.u64]) y then bif !decide (a0 < 0) == decide (a1 < 0) then some (Tree.agg [Tree.bool (gate (Tree.toInt (List.headD (Tree.tupl y) (Tree.bool false))) (gate
 (Tree.toInt (List.headD (List.tail (Tree.tupl y)) (Tree.bool false))) (IntKind.wrap IntKind.u64 ↑(BitVec.toNat (BitVec.ofInt 64 (Tree.toInt (List.headD (Tree.tupl y)
 (Tree.bool false))) ||| BitVec.ofInt 64 (Tree.toInt (List.headD (List.tail (Tree.tupl y)) (Tree.bool false))))))) != 0), Tree.int IntKind.u64 (Tree.toInt (List.headD
 (Tree.tupl y) (Tree.bool false))), Tree.int IntKind.u64 (Tree.toInt (List.headD (List.tail (Tree.tupl y)) (Tree.bool false)))]) else some (Tree.agg [Tree.bool false,
 Tree.int IntKind.u64 (Tree.toInt (List.headD (Tree.tupl y) (Tree.bool false))), Tree.int IntKind.u64 (Tree.toInt (List.headD (List.tail (Tree.tupl y)) (Tree.bool
 false)))]) else none else none else none := by kernel_rfl

theorem e52 (n : Nat) (a00 : Bool) (a01 : Int) (a02 : Int) : evQ (Tab.env tab) n 52 [Tree.agg [Tree.bool a00, Tree.int IntKind.u64 a01, Tree.int IntKind.u64 a02]] = bif
 a01 != 0 then some (Tree.tup [Tree.int IntKind.i64 0, Tree.bool false]) else bif decide (a02 > 1099511627776) then some (Tree.tup [Tree.int IntKind.i64 0, Tree.bool
 false]) else bif a00 then some (Tree.tup [Tree.int IntKind.i64 (IntKind.wrap IntKind.i64 (0 - IntKind.wrap IntKind.i64 a02)), Tree.bool true]) else some (Tree.tup
 [Tree.int IntKind.i64 (IntKind.wrap IntKind.i64 a02), Tree.bool true]) := by kernel_rfl

theorem e53 (n : Nat) (a00 : Int) (a01 : Int) : evQ (Tab.env tab) n 53 [Tree.agg [Tree.int IntKind.i64 a00, Tree.int IntKind.i64 a01]] = bif decide (a00 ≥ 0) then bif
 decide (a00 ≤ 1099511627776) then bif decide (a01 ≥ 0) then some (Tree.bool (decide (a01 ≤ 1099511627776))) else some (Tree.bool false) else some (Tree.bool false) else
 some (Tree.bool false) := by kernel_rfl

theorem e54 (n : Nat) (a0 : Int) : evQ (Tab.env tab) n 54 [Tree.int IntKind.i64 a0] = bif decide (a0 > 1099511627776) then some (Tree.tup [Tree.agg [Tree.int IntKind.i64
 0, Tree.int IntKind.i64 0], Tree.int IntKind.i64 2]) else bif decide (a0 < -1099511627776) then some (Tree.tup [Tree.agg [Tree.int IntKind.i64 0, Tree.int IntKind.i64 0],
 Tree.int IntKind.i64 2]) else some (Tree.tup [Tree.agg [Tree.int IntKind.i64 (imax a0 0), Tree.int IntKind.i64 (imax (IntKind.wrap IntKind.i64 (0 - a0)) 0)], Tree.int
 IntKind.i64 0]) := by kernel_rfl

theorem e55 (n : Nat) (a0 : Int) (a1 : Int) : evQ (Tab.env tab) n 55 [Tree.int IntKind.i64 a0, Tree.int IntKind.i64 a1] = Option.bind (evP (Tab.env tab) n 84 [Tree.int
 IntKind.i64 a0]) fun y => bif Sh.ok (Sh.int IntKind.u64) y then Option.bind (evP (Tab.env tab) n 84 [Tree.int IntKind.i64 a1]) fun y_1 => bif Sh.ok (Sh.int IntKind.u64)
 y_1 then Option.bind (evP (Tab.env tab) n 82 [Tree.int IntKind.u64 (Tree.toInt y), Tree.int IntKind.u64 (Tree.toInt y_1)]) fun y => bif Sh.ok (Sh.tup [Sh.int IntKind.u64,
 Sh.int IntKind.u64]) y then bif !decide (a0 < 0) == decide (a1 < 0) then bif Tree.toInt (List.headD (Tree.tupl y) (Tree.bool false)) != 0 then some (Tree.agg [Tree.bool
 true, Tree.int IntKind.u64 (Tree.toInt (List.headD (Tree.tupl y) (Tree.bool false))), Tree.int IntKind.u64 (Tree.toInt (List.headD (List.tail (Tree.tupl y)) (Tree.bool
 false)))]) else some (Tree.agg [Tree.bool (Tree.toInt (List.headD (List.tail (Tree.tupl y)) (Tree.bool false)) != 0), Tree.int IntKind.u64 (Tree.toInt (List.headD
 (Tree.tupl y) (Tree.bool false))), Tree.int IntKind.u64 (Tree.toInt (List.headD (List.tail (Tree.tupl y)) (Tree.bool false)))]) else some (Tree.agg [Tree.bool false,
 Tree.int IntKind.u64 (Tree.toInt (List.headD (Tree.tupl y) (Tree.bool false))), Tree.int IntKind.u64 (Tree.toInt (List.headD (List.tail (Tree.tupl y)) (Tree.bool
 false)))]) else none else none else none := by kernel_rfl

theorem e56 (n : Nat) (a00 : Bool) (a01 : Int) (a02 : Int) : evQ (Tab.env tab) n 56 [Tree.agg [Tree.bool a00, Tree.int IntKind.u64 a01, Tree.int IntKind.u64 a02]] = bif
 a00 then some (Tree.int IntKind.i64 (IntKind.wrap IntKind.i64 (0 - IntKind.wrap IntKind.i64 a02))) else some (Tree.int IntKind.i64 (IntKind.wrap IntKind.i64 a02)) := by
 kernel_rfl

theorem e70 (n : Nat) (a0 : List Tree) : evQ (Tab.env tab) n 70 [Tree.slc a0] = Option.bind (evP (Tab.env tab) n 80 [Tree.slc a0, Tree.fn 97 [] []]) fun y => bif Sh.ok
 Sh.bool y then some (Tree.bool !Tree.toBool y) else none := by kernel_rfl

theorem e80 (n : Nat) (a0 : List Tree) (a1g : Nat) (a1p : List Tree) (a1c : List Tree) : evQ (Tab.env tab) n 80 [Tree.slc a0, Tree.fn a1g a1p a1c] = Option.bind (evP
 (Tab.env tab) n 101 [Tree.slc a0, Tree.fn a1g a1p a1c]) fun y => bif Sh.ok (Sh.int IntKind.i64) y then some (Tree.bool (decide (Tree.toInt y ≥ 0))) else none := by
 kernel_rfl

theorem e81 (n : Nat) (a0 : Int) : evQ (Tab.env tab) n 81 [Tree.int IntKind.i64 a0] = bif decide (a0 < 0) then some (Tree.bool true) else some (Tree.bool (decide (a0 >
 1099511627776))) := by kernel_rfl

theorem e82 (n : Nat) (a0 : Int) (a1 : Int) : evQ (Tab.env tab) n 82 [Tree.int IntKind.u64 a0, Tree.int IntKind.u64 a1] = some (Tree.tup [Tree.int IntKind.u64
 (IntKind.wrap IntKind.u64 (IntKind.wrap IntKind.u64 (IntKind.wrap IntKind.u64 (Int.fdiv a0 (2 ^ min (Int.toNat 32) 64) * Int.fdiv a1 (2 ^ min (Int.toNat 32) 64)) +
 Int.fdiv (IntKind.wrap IntKind.u64 (IntKind.wrap IntKind.u64 (Int.fdiv a0 (2 ^ min (Int.toNat 32) 64) * gate a1 (gate 4294967295 (IntKind.wrap IntKind.u64 ↑(BitVec.toNat
 (BitVec.ofInt 64 a1 &&& BitVec.ofInt 64 4294967295))))) + Int.fdiv (IntKind.wrap IntKind.u64 (gate a0 (gate 4294967295 (IntKind.wrap IntKind.u64 ↑(BitVec.toNat
 (BitVec.ofInt 64 a0 &&& BitVec.ofInt 64 4294967295)))) * gate a1 (gate 4294967295 (IntKind.wrap IntKind.u64 ↑(BitVec.toNat (BitVec.ofInt 64 a1 &&& BitVec.ofInt 64
 4294967295)))))) (2 ^ min (Int.toNat 32) 64))) (2 ^ min (Int.toNat 32) 64)) + Int.fdiv (IntKind.wrap IntKind.u64 (gate (IntKind.wrap IntKind.u64 (IntKind.wrap IntKind.u64
 (Int.fdiv a0 (2 ^ min (Int.toNat 32) 64) * gate a1 (gate 4294967295 (IntKind.wrap IntKind.u64 ↑(BitVec.toNat (BitVec.ofInt 64 a1 &&& BitVec.ofInt 64 4294967295))))) +
 Int.fdiv (IntKind.wrap IntKind.u64 (gate a0 (gate 4294967295 (IntKind.wrap IntKind.u64 ↑(BitVec.toNat (BitVec.ofInt 64 a0 &&& BitVec.ofInt 64 4294967295)))) * gate a1
 (gate 4294967295 (IntKind.wrap IntKind.u64 ↑(BitVec.toNat (BitVec.ofInt 64 a1 &&& BitVec.ofInt 64 4294967295)))))) (2 ^ min (Int.toNat 32) 64))) (gate 4294967295
 (IntKind.wrap IntKind.u64 ↑(BitVec.toNat (BitVec.ofInt 64 (IntKind.wrap IntKind.u64 (IntKind.wrap IntKind.u64 (Int.fdiv a0 (2 ^ min (Int.toNat 32) 64) * gate a1 (gate
 4294967295 (IntKind.wrap IntKind.u64 ↑(BitVec.toNat (BitVec.ofInt 64 a1 &&& BitVec.ofInt 64 4294967295))))) + Int.fdiv (IntKind.wrap IntKind.u64 (gate a0 (gate 4294967295
 (IntKind.wrap IntKind.u64 ↑(BitVec.toNat (BitVec.ofInt 64 a0 &&& BitVec.ofInt 64 4294967295)))) * gate a1 (gate 4294967295 (IntKind.wrap IntKind.u64 ↑(BitVec.toNat
 (BitVec.ofInt 64 a1 &&& BitVec.ofInt 64 4294967295)))))) (2 ^ min (Int.toNat 32) 64))) &&& BitVec.ofInt 64 4294967295)))) + IntKind.wrap IntKind.u64 (gate a0 (gate
 4294967295 (IntKind.wrap IntKind.u64 ↑(BitVec.toNat (BitVec.ofInt 64 a0 &&& BitVec.ofInt 64 4294967295)))) * Int.fdiv a1 (2 ^ min (Int.toNat 32) 64)))) (2 ^ min
 (Int.toNat 32) 64))), Tree.int IntKind.u64 (IntKind.wrap IntKind.u64 (a0 * a1))]) := by kernel_rfl

theorem e83 (n : Nat) (a0 : Int) : evQ (Tab.env tab) n 83 [Tree.int IntKind.i64 a0] = bif decide (a0 < 0) then some (Tree.int IntKind.u64 (IntKind.wrap IntKind.u64
 (IntKind.wrap IntKind.i64 (0 - a0)))) else some (Tree.int IntKind.u64 (IntKind.wrap IntKind.u64 a0)) := by kernel_rfl

theorem e84 (n : Nat) (a0 : Int) : evQ (Tab.env tab) n 84 [Tree.int IntKind.i64 a0] = bif decide (a0 < 0) then some (Tree.int IntKind.u64 (IntKind.wrap IntKind.u64
 (IntKind.wrap IntKind.i64 (0 - a0)))) else some (Tree.int IntKind.u64 (IntKind.wrap IntKind.u64 a0)) := by kernel_rfl

theorem e97 (n : Nat) (a0 : Int) : evQ (Tab.env tab) n 97 [Tree.int IntKind.i64 a0] = bif decide (a0 < -1099511627776) then some (Tree.bool true) else some (Tree.bool
 (decide (a0 > 1099511627776))) := by kernel_rfl

theorem e101 (n : Nat) (a0 : List Tree) (a1g : Nat) (a1p : List Tree) (a1c : List Tree) : evQ (Tab.env tab) n 101 [Tree.slc a0, Tree.fn a1g a1p a1c] =
  evL (Tab.env tab) n 101 [1, 0, 1, 0] [n]
  {
    ts :=
      [AV.t (Tree.slc a0), AV.t (Tree.fn a1g a1p a1c), AV.any, AV.any, AV.any, AV.any, AV.any, AV.t (Tree.int IntKind.i64 ↑(List.length a0)),
        AV.t (Tree.int IntKind.i64 0), AV.any, AV.any, AV.any, AV.any, AV.any, AV.any, AV.any, AV.any, AV.any, AV.any],
    H := [] } := by kernel_rfl

theorem l101 (n q : Nat) (a0 : List Tree) (a1g : Nat) (a1p : List Tree) (a1c : List Tree) (s8 : Int) : evL (Tab.env tab) n 101 [1, 0, 1, 0] [Nat.succ q] { ts := [AV.t (Tree.slc a0), AV.t (Tree.fn a1g a1p a1c), AV.any, AV.any, AV.any, AV.any, AV.any, AV.t (Tree.int IntKind.i64 ↑(List.length a0)), AV.t (Tree.int IntKind.i64 s8), AV.any, AV.any, AV.any, AV.any, AV.any, AV.any, AV.any, AV.any, AV.any, AV.any], H := [] } =
  bif decide (s8 < ↑(List.length a0)) then
  bif decide (0 ≤ s8) then
    Option.bind (nth a0 (Int.toNat s8)) fun y =>
      bif Sh.ok (Sh.int IntKind.i64) y then
        Option.bind (evP (Tab.env tab) n a1g (a1p ++ [Sh.open (Sh.int IntKind.i64) (Sh.open (Sh.int IntKind.i64) y)] ++ a1c)) fun y =>
          bif Sh.ok Sh.bool y then
            bif Tree.toBool y then some (Tree.int IntKind.i64 s8)
            else
              evL (Tab.env tab) n 101 [1, 0, 1, 0] [q]
                {
                  ts :=
                    [AV.t (Tree.slc a0), AV.t (Tree.fn a1g a1p a1c), AV.any, AV.any, AV.any, AV.any, AV.any, AV.t (Tree.int IntKind.i64 ↑(List.length a0)),
                      AV.t (Tree.int IntKind.i64 (IntKind.wrap IntKind.i64 (s8 + 1))), AV.any, AV.any, AV.any, AV.any, AV.any, AV.any, AV.any, AV.any, AV.any,
                      AV.any],
                  H := [] }
          else none
      else none
  else none
  else some (Tree.int IntKind.i64 (-1)) := by kernel_rfl



end Go.Proofs.Bw.Qb
