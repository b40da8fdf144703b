/-
  EQUATIONS of the reckoned code: printed by program.
-/
import Derived.Test.YtfkidinbolmkiaaQaTab
import Derived.Test.YtfkidinbolmkiaaAw4
set_option linter.unusedSimpArgs false
set_option linter.unusedVariables false
set_option maxRecDepth 100000
namespace Go.Proofs.Aw.Qa
open Go.Proofs

theorem p6a (n : Nat) (K : IExit → St → Option Tree) (a00 : Int) (a01 : Int) (a10 : Int) (a11 : Int) (a20 : Int) (a21 : Int) : evC (fnsOf (Tab.env tab) n) n 0 (takeSeq 13
  (FInfo.body ir6)) { ts := start (FInfo.ntmps ir6) (List.map AV.t [Tree.agg [Tree.int IntKind.i16 a00, Tree.int IntKind.i16 a01], Tree.agg [Tree.int IntKind.i16 a10, Tree.int
  IntKind.i16 a11], Tree.agg [Tree.int IntKind.i16 a20, Tree.int IntKind.i16 a21]]), H := [] } K = Option.bind (evP (Tab.env tab) n 25 [Tree.agg [I (Int.tmod (IntKind.wrap
  IntKind.i64 a00) 1000), I (gate (Int.tmod (IntKind.wrap IntKind.i64 a01) 1000) (gate 1 (IntKind.wrap IntKind.i64 ↑(BitVec.toNat (BitVec.ofInt 64 (Int.tmod (IntKind.wrap
  IntKind.i64 a01) 1000) ||| BitVec.ofInt 64 1)))))], Tree.agg [I (Int.tmod (IntKind.wrap IntKind.i64 a10) 1000), I (gate (Int.tmod (IntKind.wrap IntKind.i64 a11) 1000) (gate 1
  (IntKind.wrap IntKind.i64 ↑(BitVec.toNat (BitVec.ofInt 64 (Int.tmod (IntKind.wrap IntKind.i64 a11) 1000) ||| BitVec.ofInt 64 1)))))]]) fun y => bif Sh.ok (Sh.tup [Sh.agg [Sh.int
  IntKind.i64, Sh.int IntKind.i64], Sh.int IntKind.i64]) y then Option.bind (evP (Tab.env tab) n 25 [Tree.agg [I (Int.tmod (IntKind.wrap IntKind.i64 a10) 1000), I (gate (Int.tmod
  (IntKind.wrap IntKind.i64 a11) 1000) (gate 1 (IntKind.wrap IntKind.i64 ↑(BitVec.toNat (BitVec.ofInt 64 (Int.tmod (IntKind.wrap IntKind.i64 a11) 1000) ||| BitVec.ofInt 64 1)))))],
  Tree.agg [I (Int.tmod (IntKind.wrap IntKind.i64 a00) 1000), I (gate (Int.tmod (IntKind.wrap IntKind.i64 a01) 1000) (gate 1 (IntKind.wrap IntKind.i64 ↑(BitVec.toNat (BitVec.ofInt
  64 (Int.tmod (IntKind.wrap IntKind.i64 a01) 1000) ||| BitVec.ofInt 64 1)))))]]) fun y_1 => bif Sh.ok (Sh.tup [Sh.agg [Sh.int IntKind.i64, Sh.int IntKind.i64], Sh.int IntKind.i64])
  y_1 then Option.bind (evP (Tab.env tab) n 25 [Tree.agg [I (Int.tmod (IntKind.wrap IntKind.i64 a10) 1000), I (gate (Int.tmod (IntKind.wrap IntKind.i64 a11) 1000) (gate 1
  (IntKind.wrap IntKind.i64 ↑(BitVec.toNat (BitVec.ofInt 64 (Int.tmod (IntKind.wrap IntKind.i64 a11) 1000) ||| BitVec.ofInt 64 1)))))], Tree.agg [I (Int.tmod (IntKind.wrap
  IntKind.i64 a20) 1000), I (gate (Int.tmod (IntKind.wrap IntKind.i64 a21) 1000) (gate 1 (IntKind.wrap IntKind.i64 ↑(BitVec.toNat (BitVec.ofInt 64 (Int.tmod (IntKind.wrap
  IntKind.i64 a21) 1000) ||| BitVec.ofInt 64 1)))))]]) fun y_2 => bif Sh.ok (Sh.tup [Sh.agg [Sh.int IntKind.i64, Sh.int IntKind.i64], Sh.int IntKind.i64]) y_2 then Option.bind (evP
  (Tab.env tab) n 25 [Tree.agg [I (Tree.toInt (List.headD (Tree.cs (List.headD (Tree.tupl y) (Tree.bool false))) (Tree.bool false))), I (Tree.toInt (List.headD (List.tail (Tree.cs
  (List.headD (Tree.tupl y) (Tree.bool false)))) (Tree.bool false)))], Tree.agg [I (Int.tmod (IntKind.wrap IntKind.i64 a20) 1000), I (gate (Int.tmod (IntKind.wrap IntKind.i64 a21)
  1000) (gate 1 (IntKind.wrap IntKind.i64 ↑(BitVec.toNat (BitVec.ofInt 64 (Int.tmod (IntKind.wrap IntKind.i64 a21) 1000) ||| BitVec.ofInt 64 1)))))]]) fun y_3 => bif Sh.ok (Sh.tup
  [Sh.agg [Sh.int IntKind.i64, Sh.int IntKind.i64], Sh.int IntKind.i64]) y_3 then Option.bind (evP (Tab.env tab) n 25 [Tree.agg [I (Int.tmod (IntKind.wrap IntKind.i64 a00) 1000), I
  (gate (Int.tmod (IntKind.wrap IntKind.i64 a01) 1000) (gate 1 (IntKind.wrap IntKind.i64 ↑(BitVec.toNat (BitVec.ofInt 64 (Int.tmod (IntKind.wrap IntKind.i64 a01) 1000) |||
  BitVec.ofInt 64 1)))))], Tree.agg [I (Tree.toInt (List.headD (Tree.cs (List.headD (Tree.tupl y_2) (Tree.bool false))) (Tree.bool false))), I (Tree.toInt (List.headD (List.tail
  (Tree.cs (List.headD (Tree.tupl y_2) (Tree.bool false)))) (Tree.bool false)))]]) fun y_4 => bif Sh.ok (Sh.tup [Sh.agg [Sh.int IntKind.i64, Sh.int IntKind.i64], Sh.int
  IntKind.i64]) y_4 then bif Tree.toInt (List.headD (List.tail (Tree.tupl y)) (Tree.bool false)) != 0 then K IExit.ret (St.mk [AV.t (Tree.agg [Tree.int IntKind.i16 a00, Tree.int
  IntKind.i16 a01]), AV.t (Tree.agg [Tree.int IntKind.i16 a10, Tree.int IntKind.i16 a11]), AV.t (Tree.agg [Tree.int IntKind.i16 a20, Tree.int IntKind.i16 a21]), AV.href 0 0 0,
  AV.href 1 0 0, AV.href 2 0 0, AV.t (Tree.bool false), AV.href 3 0 0, AV.href 4 0 0, AV.href 5 0 0, AV.href 6 0 0, AV.t (I (Tree.toInt (List.headD (List.tail (Tree.tupl y))
  (Tree.bool false)))), AV.href 7 0 0, AV.t (I (Tree.toInt (List.headD (List.tail (Tree.tupl y_1)) (Tree.bool false)))), AV.href 8 0 0, AV.t (I (Tree.toInt (List.headD (List.tail
  (Tree.tupl y_2)) (Tree.bool false)))), AV.href 9 0 0, AV.t (I (Tree.toInt (List.headD (List.tail (Tree.tupl y_3)) (Tree.bool false)))), AV.href 10 0 0, AV.t (I (Tree.toInt
  (List.headD (List.tail (Tree.tupl y_4)) (Tree.bool false)))), AV.undef, AV.undef, AV.undef, AV.undef, AV.undef, AV.undef, AV.undef, AV.undef, AV.undef, AV.undef, AV.undef,
  AV.undef, AV.undef, AV.undef, AV.undef, AV.undef, AV.href 0 0 0, AV.t (Tree.int IntKind.i16 a00), AV.t (I (IntKind.wrap IntKind.i64 a00)), AV.t (I (Int.tmod (IntKind.wrap
  IntKind.i64 a00) 1000)), AV.href 0 0 1, AV.t (Tree.int IntKind.i16 a01), AV.t (I (IntKind.wrap IntKind.i64 a01)), AV.t (I (Int.tmod (IntKind.wrap IntKind.i64 a01) 1000)), AV.t (I
  (gate (Int.tmod (IntKind.wrap IntKind.i64 a01) 1000) (gate 1 (IntKind.wrap IntKind.i64 ↑(BitVec.toNat (BitVec.ofInt 64 (Int.tmod (IntKind.wrap IntKind.i64 a01) 1000) |||
  BitVec.ofInt 64 1)))))), AV.t (Tree.agg [I (Int.tmod (IntKind.wrap IntKind.i64 a00) 1000), I (gate (Int.tmod (IntKind.wrap IntKind.i64 a01) 1000) (gate 1 (IntKind.wrap IntKind.i64
  ↑(BitVec.toNat (BitVec.ofInt 64 (Int.tmod (IntKind.wrap IntKind.i64 a01) 1000) ||| BitVec.ofInt 64 1)))))]), AV.href 1 0 0, AV.t (Tree.int IntKind.i16 a10), AV.t (I (IntKind.wrap
  IntKind.i64 a10)), AV.t (I (Int.tmod (IntKind.wrap IntKind.i64 a10) 1000)), AV.href 1 0 1, AV.t (Tree.int IntKind.i16 a11), AV.t (I (IntKind.wrap IntKind.i64 a11)), AV.t (I
  (Int.tmod (IntKind.wrap IntKind.i64 a11) 1000)), AV.t (I (gate (Int.tmod (IntKind.wrap IntKind.i64 a11) 1000) (gate 1 (IntKind.wrap IntKind.i64 ↑(BitVec.toNat (BitVec.ofInt 64
  (Int.tmod (IntKind.wrap IntKind.i64 a11) 1000) ||| BitVec.ofInt 64 1)))))), AV.t (Tree.agg [I (Int.tmod (IntKind.wrap IntKind.i64 a10) 1000), I (gate (Int.tmod (IntKind.wrap
  IntKind.i64 a11) 1000) (gate 1 (IntKind.wrap IntKind.i64 ↑(BitVec.toNat (BitVec.ofInt 64 (Int.tmod (IntKind.wrap IntKind.i64 a11) 1000) ||| BitVec.ofInt 64 1)))))]), AV.href 2 0
  0, AV.t (Tree.int IntKind.i16 a20), AV.t (I (IntKind.wrap IntKind.i64 a20)), AV.t (I (Int.tmod (IntKind.wrap IntKind.i64 a20) 1000)), AV.href 2 0 1, AV.t (Tree.int IntKind.i16
  a21), AV.t (I (IntKind.wrap IntKind.i64 a21)), AV.t (I (Int.tmod (IntKind.wrap IntKind.i64 a21) 1000)), AV.t (I (gate (Int.tmod (IntKind.wrap IntKind.i64 a21) 1000) (gate 1
  (IntKind.wrap IntKind.i64 ↑(BitVec.toNat (BitVec.ofInt 64 (Int.tmod (IntKind.wrap IntKind.i64 a21) 1000) ||| BitVec.ofInt 64 1)))))), AV.t (Tree.agg [I (Int.tmod (IntKind.wrap
  IntKind.i64 a20) 1000), I (gate (Int.tmod (IntKind.wrap IntKind.i64 a21) 1000) (gate 1 (IntKind.wrap IntKind.i64 ↑(BitVec.toNat (BitVec.ofInt 64 (Int.tmod (IntKind.wrap
  IntKind.i64 a21) 1000) ||| BitVec.ofInt 64 1)))))]), AV.t (Tree.tup [Tree.agg [I (Tree.toInt (List.headD (Tree.cs (List.headD (Tree.tupl y) (Tree.bool false))) (Tree.bool
  false))), I (Tree.toInt (List.headD (List.tail (Tree.cs (List.headD (Tree.tupl y) (Tree.bool false)))) (Tree.bool false)))], I (Tree.toInt (List.headD (List.tail (Tree.tupl y))
  (Tree.bool false)))]), AV.t (Tree.agg [I (Int.tmod (IntKind.wrap IntKind.i64 a00) 1000), I (gate (Int.tmod (IntKind.wrap IntKind.i64 a01) 1000) (gate 1 (IntKind.wrap IntKind.i64
  ↑(BitVec.toNat (BitVec.ofInt 64 (Int.tmod (IntKind.wrap IntKind.i64 a01) 1000) ||| BitVec.ofInt 64 1)))))]), AV.t (Tree.agg [I (Int.tmod (IntKind.wrap IntKind.i64 a10) 1000), I
  (gate (Int.tmod (IntKind.wrap IntKind.i64 a11) 1000) (gate 1 (IntKind.wrap IntKind.i64 ↑(BitVec.toNat (BitVec.ofInt 64 (Int.tmod (IntKind.wrap IntKind.i64 a11) 1000) |||
  BitVec.ofInt 64 1)))))]), AV.t (Tree.tup [Tree.agg [I (Tree.toInt (List.headD (Tree.cs (List.headD (Tree.tupl y) (Tree.bool false))) (Tree.bool false))), I (Tree.toInt (List.headD
  (List.tail (Tree.cs (List.headD (Tree.tupl y) (Tree.bool false)))) (Tree.bool false)))], I (Tree.toInt (List.headD (List.tail (Tree.tupl y)) (Tree.bool false)))]), AV.t (Tree.agg
  [I (Tree.toInt (List.headD (Tree.cs (List.headD (Tree.tupl y) (Tree.bool false))) (Tree.bool false))), I (Tree.toInt (List.headD (List.tail (Tree.cs (List.headD (Tree.tupl y)
  (Tree.bool false)))) (Tree.bool false)))]), AV.t (I (Tree.toInt (List.headD (List.tail (Tree.tupl y)) (Tree.bool false)))), AV.t (Tree.tup [Tree.agg [I (Tree.toInt (List.headD
  (Tree.cs (List.headD (Tree.tupl y_1) (Tree.bool false))) (Tree.bool false))), I (Tree.toInt (List.headD (List.tail (Tree.cs (List.headD (Tree.tupl y_1) (Tree.bool false))))
  (Tree.bool false)))], I (Tree.toInt (List.headD (List.tail (Tree.tupl y_1)) (Tree.bool false)))]), AV.t (Tree.agg [I (Int.tmod (IntKind.wrap IntKind.i64 a10) 1000), I (gate
  (Int.tmod (IntKind.wrap IntKind.i64 a11) 1000) (gate 1 (IntKind.wrap IntKind.i64 ↑(BitVec.toNat (BitVec.ofInt 64 (Int.tmod (IntKind.wrap IntKind.i64 a11) 1000) ||| BitVec.ofInt 64
  1)))))]), AV.t (Tree.agg [I (Int.tmod (IntKind.wrap IntKind.i64 a00) 1000), I (gate (Int.tmod (IntKind.wrap IntKind.i64 a01) 1000) (gate 1 (IntKind.wrap IntKind.i64 ↑(BitVec.toNat
  (BitVec.ofInt 64 (Int.tmod (IntKind.wrap IntKind.i64 a01) 1000) ||| BitVec.ofInt 64 1)))))]), AV.t (Tree.tup [Tree.agg [I (Tree.toInt (List.headD (Tree.cs (List.headD (Tree.tupl
  y_1) (Tree.bool false))) (Tree.bool false))), I (Tree.toInt (List.headD (List.tail (Tree.cs (List.headD (Tree.tupl y_1) (Tree.bool false)))) (Tree.bool false)))], I (Tree.toInt
  (List.headD (List.tail (Tree.tupl y_1)) (Tree.bool false)))]), AV.t (Tree.agg [I (Tree.toInt (List.headD (Tree.cs (List.headD (Tree.tupl y_1) (Tree.bool false))) (Tree.bool
  false))), I (Tree.toInt (List.headD (List.tail (Tree.cs (List.headD (Tree.tupl y_1) (Tree.bool false)))) (Tree.bool false)))]), AV.t (I (Tree.toInt (List.headD (List.tail
  (Tree.tupl y_1)) (Tree.bool false)))), AV.t (Tree.tup [Tree.agg [I (Tree.toInt (List.headD (Tree.cs (List.headD (Tree.tupl y_2) (Tree.bool false))) (Tree.bool false))), I
  (Tree.toInt (List.headD (List.tail (Tree.cs (List.headD (Tree.tupl y_2) (Tree.bool false)))) (Tree.bool false)))], I (Tree.toInt (List.headD (List.tail (Tree.tupl y_2)) (Tree.bool
  false)))]), AV.t (Tree.agg [I (Int.tmod (IntKind.wrap IntKind.i64 a10) 1000), I (gate (Int.tmod (IntKind.wrap IntKind.i64 a11) 1000) (gate 1 (IntKind.wrap IntKind.i64
  ↑(BitVec.toNat (BitVec.ofInt 64 (Int.tmod (IntKind.wrap IntKind.i64 a11) 1000) ||| BitVec.ofInt 64 1)))))]), AV.t (Tree.agg [I (Int.tmod (IntKind.wrap IntKind.i64 a20) 1000), I
  (gate (Int.tmod (IntKind.wrap IntKind.i64 a21) 1000) (gate 1 (IntKind.wrap IntKind.i64 ↑(BitVec.toNat (BitVec.ofInt 64 (Int.tmod (IntKind.wrap IntKind.i64 a21) 1000) |||
  BitVec.ofInt 64 1)))))]), AV.t (Tree.tup [Tree.agg [I (Tree.toInt (List.headD (Tree.cs (List.headD (Tree.tupl y_2) (Tree.bool false))) (Tree.bool false))), I (Tree.toInt
  (List.headD (List.tail (Tree.cs (List.headD (Tree.tupl y_2) (Tree.bool false)))) (Tree.bool false)))], I (Tree.toInt (List.headD (List.tail (Tree.tupl y_2)) (Tree.bool false)))]),
  AV.t (Tree.agg [I (Tree.toInt (List.headD (Tree.cs (List.headD (Tree.tupl y_2) (Tree.bool false))) (Tree.bool false))), I (Tree.toInt (List.headD (List.tail (Tree.cs (List.headD
  (Tree.tupl y_2) (Tree.bool false)))) (Tree.bool false)))]), AV.t (I (Tree.toInt (List.headD (List.tail (Tree.tupl y_2)) (Tree.bool false)))), AV.t (Tree.tup [Tree.agg [I
  (Tree.toInt (List.headD (Tree.cs (List.headD (Tree.tupl y_3) (Tree.bool false))) (Tree.bool false))), I (Tree.toInt (List.headD (List.tail (Tree.cs (List.headD (Tree.tupl y_3)
  (Tree.bool false)))) (Tree.bool false)))], I (Tree.toInt (List.headD (List.tail (Tree.tupl y_3)) (Tree.bool false)))]), AV.t (Tree.agg [I (Tree.toInt (List.headD (Tree.cs
  (List.headD (Tree.tupl y) (Tree.bool false))) (Tree.bool false))), I (Tree.toInt (List.headD (List.tail (Tree.cs (List.headD (Tree.tupl y) (Tree.bool false)))) (Tree.bool
  false)))]), AV.t (Tree.agg [I (Int.tmod (IntKind.wrap IntKind.i64 a20) 1000), I (gate (Int.tmod (IntKind.wrap IntKind.i64 a21) 1000) (gate 1 (IntKind.wrap IntKind.i64
  ↑(BitVec.toNat (BitVec.ofInt 64 (Int.tmod (IntKind.wrap IntKind.i64 a21) 1000) ||| BitVec.ofInt 64 1)))))]), AV.t (Tree.tup [Tree.agg [I (Tree.toInt (List.headD (Tree.cs
  (List.headD (Tree.tupl y_3) (Tree.bool false))) (Tree.bool false))), I (Tree.toInt (List.headD (List.tail (Tree.cs (List.headD (Tree.tupl y_3) (Tree.bool false)))) (Tree.bool
  false)))], I (Tree.toInt (List.headD (List.tail (Tree.tupl y_3)) (Tree.bool false)))]), AV.t (Tree.agg [I (Tree.toInt (List.headD (Tree.cs (List.headD (Tree.tupl y_3) (Tree.bool
  false))) (Tree.bool false))), I (Tree.toInt (List.headD (List.tail (Tree.cs (List.headD (Tree.tupl y_3) (Tree.bool false)))) (Tree.bool false)))]), AV.t (I (Tree.toInt (List.headD
  (List.tail (Tree.tupl y_3)) (Tree.bool false)))), AV.t (Tree.tup [Tree.agg [I (Tree.toInt (List.headD (Tree.cs (List.headD (Tree.tupl y_4) (Tree.bool false))) (Tree.bool false))),
  I (Tree.toInt (List.headD (List.tail (Tree.cs (List.headD (Tree.tupl y_4) (Tree.bool false)))) (Tree.bool false)))], I (Tree.toInt (List.headD (List.tail (Tree.tupl y_4))
  (Tree.bool false)))]), AV.t (Tree.agg [I (Int.tmod (IntKind.wrap IntKind.i64 a00) 1000), I (gate (Int.tmod (IntKind.wrap IntKind.i64 a01) 1000) (gate 1 (IntKind.wrap IntKind.i64
  ↑(BitVec.toNat (BitVec.ofInt 64 (Int.tmod (IntKind.wrap IntKind.i64 a01) 1000) ||| BitVec.ofInt 64 1)))))]), AV.t (Tree.agg [I (Tree.toInt (List.headD (Tree.cs (List.headD
  (Tree.tupl y_2) (Tree.bool false))) (Tree.bool false))), I (Tree.toInt (List.headD (List.tail (Tree.cs (List.headD (Tree.tupl y_2) (Tree.bool false)))) (Tree.bool false)))]), AV.t
  (Tree.tup [Tree.agg [I (Tree.toInt (List.headD (Tree.cs (List.headD (Tree.tupl y_4) (Tree.bool false))) (Tree.bool false))), I (Tree.toInt (List.headD (List.tail (Tree.cs
  (List.headD (Tree.tupl y_4) (Tree.bool false)))) (Tree.bool false)))], I (Tree.toInt (List.headD (List.tail (Tree.tupl y_4)) (Tree.bool false)))]), AV.t (Tree.agg [I (Tree.toInt
  (List.headD (Tree.cs (List.headD (Tree.tupl y_4) (Tree.bool false))) (Tree.bool false))), I (Tree.toInt (List.headD (List.tail (Tree.cs (List.headD (Tree.tupl y_4) (Tree.bool
  false)))) (Tree.bool false)))]), AV.t (I (Tree.toInt (List.headD (List.tail (Tree.tupl y_4)) (Tree.bool false)))), AV.t (I (Tree.toInt (List.headD (List.tail (Tree.tupl y))
  (Tree.bool false)))), AV.t (Tree.bool (Tree.toInt (List.headD (List.tail (Tree.tupl y)) (Tree.bool false)) != 0)), AV.t (Tree.bool true), AV.undef, AV.undef, AV.t (Tree.bool
  true), AV.t (Tree.bool true), AV.undef, AV.undef, AV.t (Tree.bool true), AV.t (Tree.bool true), AV.undef, AV.undef, AV.t (Tree.bool true), AV.t (Tree.bool true), AV.undef,
  AV.undef, AV.t (Tree.bool true), AV.t (Tree.bool true), AV.undef, AV.undef, AV.undef, AV.t (Tree.bool true), AV.t (Tree.bool true), AV.undef, AV.undef, AV.undef, AV.t (Tree.bool
  true), AV.undef, AV.undef, AV.undef, AV.undef, AV.undef, AV.undef, AV.undef, AV.undef, AV.undef, AV.undef, AV.undef, AV.undef, AV.undef, AV.undef, AV.undef, AV.undef, AV.undef,
  AV.undef, AV.undef, AV.undef, AV.undef, AV.undef, AV.undef, AV.undef, AV.undef, AV.undef, AV.undef, AV.undef, AV.undef, AV.undef, AV.undef, AV.undef, AV.undef, AV.undef, AV.undef,
  AV.undef, AV.undef, AV.undef, AV.undef, AV.undef, AV.undef, AV.undef, AV.undef, AV.undef, AV.undef, AV.undef, AV.undef, AV.undef, AV.undef, AV.undef, AV.undef, AV.undef, AV.undef,
  AV.undef, AV.undef, AV.undef, AV.undef, AV.undef, AV.undef, AV.undef, AV.undef, AV.undef, AV.undef, AV.undef, AV.undef, AV.undef, AV.undef, AV.undef, AV.undef, AV.undef, AV.undef,
  AV.undef, AV.undef, AV.undef, AV.undef, AV.undef, AV.undef, AV.undef, AV.undef, AV.undef, AV.undef, AV.undef, AV.undef, AV.undef, AV.undef, AV.undef, AV.undef, AV.undef, AV.undef,
  AV.undef, AV.undef, AV.undef, AV.undef, AV.undef, AV.undef, AV.undef, AV.undef, AV.undef, AV.undef, AV.undef, AV.undef, AV.undef, AV.undef, AV.undef, AV.undef, AV.undef, AV.undef,
  AV.undef] [HObj.tre (Sh.agg [Sh.int IntKind.i16, Sh.int IntKind.i16]) [Tree.agg [Tree.int IntKind.i16 a00, Tree.int IntKind.i16 a01]], HObj.tre (Sh.agg [Sh.int IntKind.i16, Sh.int
  IntKind.i16]) [Tree.agg [Tree.int IntKind.i16 a10, Tree.int IntKind.i16 a11]], HObj.tre (Sh.agg [Sh.int IntKind.i16, Sh.int IntKind.i16]) [Tree.agg [Tree.int IntKind.i16 a20,
  Tree.int IntKind.i16 a21]], HObj.tre (Sh.agg [Sh.int IntKind.i64, Sh.int IntKind.i64]) [Tree.agg [I (Int.tmod (IntKind.wrap IntKind.i64 a00) 1000), I (gate (Int.tmod (IntKind.wrap
  IntKind.i64 a01) 1000) (gate 1 (IntKind.wrap IntKind.i64 ↑(BitVec.toNat (BitVec.ofInt 64 (Int.tmod (IntKind.wrap IntKind.i64 a01) 1000) ||| BitVec.ofInt 64 1)))))]], HObj.tre
  (Sh.agg [Sh.int IntKind.i64, Sh.int IntKind.i64]) [Tree.agg [I (Int.tmod (IntKind.wrap IntKind.i64 a10) 1000), I (gate (Int.tmod (IntKind.wrap IntKind.i64 a11) 1000) (gate 1
  (IntKind.wrap IntKind.i64 ↑(BitVec.toNat (BitVec.ofInt 64 (Int.tmod (IntKind.wrap IntKind.i64 a11) 1000) ||| BitVec.ofInt 64 1)))))]], HObj.tre (Sh.agg [Sh.int IntKind.i64, Sh.int
  IntKind.i64]) [Tree.agg [I (Int.tmod (IntKind.wrap IntKind.i64 a20) 1000), I (gate (Int.tmod (IntKind.wrap IntKind.i64 a21) 1000) (gate 1 (IntKind.wrap IntKind.i64 ↑(BitVec.toNat
  (BitVec.ofInt 64 (Int.tmod (IntKind.wrap IntKind.i64 a21) 1000) ||| BitVec.ofInt 64 1)))))]], HObj.tre (Sh.agg [Sh.int IntKind.i64, Sh.int IntKind.i64]) [Tree.agg [I (Tree.toInt
  (List.headD (Tree.cs (List.headD (Tree.tupl y) (Tree.bool false))) (Tree.bool false))), I (Tree.toInt (List.headD (List.tail (Tree.cs (List.headD (Tree.tupl y) (Tree.bool
  false)))) (Tree.bool false)))]], HObj.tre (Sh.agg [Sh.int IntKind.i64, Sh.int IntKind.i64]) [Tree.agg [I (Tree.toInt (List.headD (Tree.cs (List.headD (Tree.tupl y_1) (Tree.bool
  false))) (Tree.bool false))), I (Tree.toInt (List.headD (List.tail (Tree.cs (List.headD (Tree.tupl y_1) (Tree.bool false)))) (Tree.bool false)))]], HObj.tre (Sh.agg [Sh.int
  IntKind.i64, Sh.int IntKind.i64]) [Tree.agg [I (Tree.toInt (List.headD (Tree.cs (List.headD (Tree.tupl y_2) (Tree.bool false))) (Tree.bool false))), I (Tree.toInt (List.headD
  (List.tail (Tree.cs (List.headD (Tree.tupl y_2) (Tree.bool false)))) (Tree.bool false)))]], HObj.tre (Sh.agg [Sh.int IntKind.i64, Sh.int IntKind.i64]) [Tree.agg [I (Tree.toInt
  (List.headD (Tree.cs (List.headD (Tree.tupl y_3) (Tree.bool false))) (Tree.bool false))), I (Tree.toInt (List.headD (List.tail (Tree.cs (List.headD (Tree.tupl y_3) (Tree.bool
  false)))) (Tree.bool false)))]], HObj.tre (Sh.agg [Sh.int IntKind.i64, Sh.int IntKind.i64]) [Tree.agg [I (Tree.toInt (List.headD (Tree.cs (List.headD (Tree.tupl y_4) (Tree.bool
  false))) (Tree.bool false))), I (Tree.toInt (List.headD (List.tail (Tree.cs (List.headD (Tree.tupl y_4) (Tree.bool false)))) (Tree.bool false)))]]]) else bif Tree.toInt
  (List.headD (List.tail (Tree.tupl y_1)) (Tree.bool false)) != 0 then K IExit.ret (St.mk [AV.t (Tree.agg [Tree.int IntKind.i16 a00, Tree.int IntKind.i16 a01]), AV.t (Tree.agg
  [Tree.int IntKind.i16 a10, Tree.int IntKind.i16 a11]), AV.t (Tree.agg [Tree.int IntKind.i16 a20, Tree.int IntKind.i16 a21]), AV.href 0 0 0, AV.href 1 0 0, AV.href 2 0 0, AV.t
  (Tree.bool false), AV.href 3 0 0, AV.href 4 0 0, AV.href 5 0 0, AV.href 6 0 0, AV.t (I (Tree.toInt (List.headD (List.tail (Tree.tupl y)) (Tree.bool false)))), AV.href 7 0 0, AV.t
  (I (Tree.toInt (List.headD (List.tail (Tree.tupl y_1)) (Tree.bool false)))), AV.href 8 0 0, AV.t (I (Tree.toInt (List.headD (List.tail (Tree.tupl y_2)) (Tree.bool false)))),
  AV.href 9 0 0, AV.t (I (Tree.toInt (List.headD (List.tail (Tree.tupl y_3)) (Tree.bool false)))), AV.href 10 0 0, AV.t (I (Tree.toInt (List.headD (List.tail (Tree.tupl y_4))
  (Tree.bool false)))), AV.undef, AV.undef, AV.undef, AV.undef, AV.undef, AV.undef, AV.undef, AV.undef, AV.undef, AV.undef, AV.undef, AV.undef, AV.undef, AV.undef, AV.undef,
  AV.undef, AV.href 0 0 0, AV.t (Tree.int IntKind.i16 a00), AV.t (I (IntKind.wrap IntKind.i64 a00)), AV.t (I (Int.tmod (IntKind.wrap IntKind.i64 a00) 1000)), AV.href 0 0 1, AV.t
  (Tree.int IntKind.i16 a01), AV.t (I (IntKind.wrap IntKind.i64 a01)), AV.t (I (Int.tmod (IntKind.wrap IntKind.i64 a01) 1000)), AV.t (I (gate (Int.tmod (IntKind.wrap IntKind.i64
  a01) 1000) (gate 1 (IntKind.wrap IntKind.i64 ↑(BitVec.toNat (BitVec.ofInt 64 (Int.tmod (IntKind.wrap IntKind.i64 a01) 1000) ||| BitVec.ofInt 64 1)))))), AV.t (Tree.agg [I
  (Int.tmod (IntKind.wrap IntKind.i64 a00) 1000), I (gate (Int.tmod (IntKind.wrap IntKind.i64 a01) 1000) (gate 1 (IntKind.wrap IntKind.i64 ↑(BitVec.toNat (BitVec.ofInt 64 (Int.tmod
  (IntKind.wrap IntKind.i64 a01) 1000) ||| BitVec.ofInt 64 1)))))]), AV.href 1 0 0, AV.t (Tree.int IntKind.i16 a10), AV.t (I (IntKind.wrap IntKind.i64 a10)), AV.t (I (Int.tmod
  (IntKind.wrap IntKind.i64 a10) 1000)), AV.href 1 0 1, AV.t (Tree.int IntKind.i16 a11), AV.t (I (IntKind.wrap IntKind.i64 a11)), AV.t (I (Int.tmod (IntKind.wrap IntKind.i64 a11)
  1000)), AV.t (I (gate (Int.tmod (IntKind.wrap IntKind.i64 a11) 1000) (gate 1 (IntKind.wrap IntKind.i64 ↑(BitVec.toNat (BitVec.ofInt 64 (Int.tmod (IntKind.wrap IntKind.i64 a11)
  1000) ||| BitVec.ofInt 64 1)))))), AV.t (Tree.agg [I (Int.tmod (IntKind.wrap IntKind.i64 a10) 1000), I (gate (Int.tmod (IntKind.wrap IntKind.i64 a11) 1000) (gate 1 (IntKind.wrap
  IntKind.i64 ↑(BitVec.toNat (BitVec.ofInt 64 (Int.tmod (IntKind.wrap IntKind.i64 a11) 1000) ||| BitVec.ofInt 64 1)))))]), AV.href 2 0 0, AV.t (Tree.int IntKind.i16 a20), AV.t (I
  (IntKind.wrap IntKind.i64 a20)), AV.t (I (Int.tmod (IntKind.wrap IntKind.i64 a20) 1000)), AV.href 2 0 1, AV.t (Tree.int IntKind.i16 a21), AV.t (I (IntKind.wrap IntKind.i64 a21)),
  AV.t (I (Int.tmod (IntKind.wrap IntKind.i64 a21) 1000)), AV.t (I (gate (Int.tmod (IntKind.wrap IntKind.i64 a21) 1000) (gate 1 (IntKind.wrap IntKind.i64 ↑(BitVec.toNat
  (BitVec.ofInt 64 (Int.tmod (IntKind.wrap IntKind.i64 a21) 1000) ||| BitVec.ofInt 64 1)))))), AV.t (Tree.agg [I (Int.tmod (IntKind.wrap IntKind.i64 a20) 1000), I (gate (Int.tmod
  (IntKind.wrap IntKind.i64 a21) 1000) (gate 1 (IntKind.wrap IntKind.i64 ↑(BitVec.toNat (BitVec.ofInt 64 (Int.tmod (IntKind.wrap IntKind.i64 a21) 1000) ||| BitVec.ofInt 64 1)))))]),
  AV.t (Tree.tup [Tree.agg [I (Tree.toInt (List.headD (Tree.cs (List.headD (Tree.tupl y) (Tree.bool false))) (Tree.bool false))), I (Tree.toInt (List.headD (List.tail (Tree.cs
  (List.headD (Tree.tupl y) (Tree.bool false)))) (Tree.bool false)))], I (Tree.toInt (List.headD (List.tail (Tree.tupl y)) (Tree.bool false)))]), AV.t (Tree.agg [I (Int.tmod
  (IntKind.wrap IntKind.i64 a00) 1000), I (gate (Int.tmod (IntKind.wrap IntKind.i64 a01) 1000) (gate 1 (IntKind.wrap IntKind.i64 ↑(BitVec.toNat (BitVec.ofInt 64 (Int.tmod
  (IntKind.wrap IntKind.i64 a01) 1000) ||| BitVec.ofInt 64 1)))))]), AV.t (Tree.agg [I (Int.tmod (IntKind.wrap IntKind.i64 a10) 1000), I (gate (Int.tmod (IntKind.wrap IntKind.i64
  a11) 1000) (gate 1 (IntKind.wrap IntKind.i64 ↑(BitVec.toNat (BitVec.ofInt 64 (Int.tmod (IntKind.wrap IntKind.i64 a11) 1000) ||| BitVec.ofInt 64 1)))))]), AV.t (Tree.tup [Tree.agg
  [I (Tree.toInt (List.headD (Tree.cs (List.headD (Tree.tupl y) (Tree.bool false))) (Tree.bool false))), I (Tree.toInt (List.headD (List.tail (Tree.cs (List.headD (Tree.tupl y)
  (Tree.bool false)))) (Tree.bool false)))], I (Tree.toInt (List.headD (List.tail (Tree.tupl y)) (Tree.bool false)))]), AV.t (Tree.agg [I (Tree.toInt (List.headD (Tree.cs
  (List.headD (Tree.tupl y) (Tree.bool false))) (Tree.bool false))), I (Tree.toInt (List.headD (List.tail (Tree.cs (List.headD (Tree.tupl y) (Tree.bool false)))) (Tree.bool
  false)))]), AV.t (I (Tree.toInt (List.headD (List.tail (Tree.tupl y)) (Tree.bool false)))), AV.t (Tree.tup [Tree.agg [I (Tree.toInt (List.headD (Tree.cs (List.headD (Tree.tupl
  y_1) (Tree.bool false))) (Tree.bool false))), I (Tree.toInt (List.headD (List.tail (Tree.cs (List.headD (Tree.tupl y_1) (Tree.bool false)))) (Tree.bool false)))], I (Tree.toInt
  (List.headD (List.tail (Tree.tupl y_1)) (Tree.bool false)))]), AV.t (Tree.agg [I (Int.tmod (IntKind.wrap IntKind.i64 a10) 1000), I (gate (Int.tmod (IntKind.wrap IntKind.i64 a11)
  1000) (gate 1 (IntKind.wrap IntKind.i64 ↑(BitVec.toNat (BitVec.ofInt 64 (Int.tmod (IntKind.wrap IntKind.i64 a11) 1000) ||| BitVec.ofInt 64 1)))))]), AV.t (Tree.agg [I (Int.tmod
  (IntKind.wrap IntKind.i64 a00) 1000), I (gate (Int.tmod (IntKind.wrap IntKind.i64 a01) 1000) (gate 1 (IntKind.wrap IntKind.i64 ↑(BitVec.toNat (BitVec.ofInt 64 (Int.tmod
  (IntKind.wrap IntKind.i64 a01) 1000) ||| BitVec.ofInt 64 1)))))]), AV.t (Tree.tup [Tree.agg [I (Tree.toInt (List.headD (Tree.cs (List.headD (Tree.tupl y_1) (Tree.bool false)))
  (Tree.bool false))), I (Tree.toInt (List.headD (List.tail (Tree.cs (List.headD (Tree.tupl y_1) (Tree.bool false)))) (Tree.bool false)))], I (Tree.toInt (List.headD (List.tail
  (Tree.tupl y_1)) (Tree.bool false)))]), AV.t (Tree.agg [I (Tree.toInt (List.headD (Tree.cs (List.headD (Tree.tupl y_1) (Tree.bool false))) (Tree.bool false))), I (Tree.toInt
  (List.headD (List.tail (Tree.cs (List.headD (Tree.tupl y_1) (Tree.bool false)))) (Tree.bool false)))]), AV.t (I (Tree.toInt (List.headD (List.tail (Tree.tupl y_1)) (Tree.bool
  false)))), AV.t (Tree.tup [Tree.agg [I (Tree.toInt (List.headD (Tree.cs (List.headD (Tree.tupl y_2) (Tree.bool false))) (Tree.bool false))), I (Tree.toInt (List.headD (List.tail
  (Tree.cs (List.headD (Tree.tupl y_2) (Tree.bool false)))) (Tree.bool false)))], I (Tree.toInt (List.headD (List.tail (Tree.tupl y_2)) (Tree.bool false)))]), AV.t (Tree.agg [I
  (Int.tmod (IntKind.wrap IntKind.i64 a10) 1000), I (gate (Int.tmod (IntKind.wrap IntKind.i64 a11) 1000) (gate 1 (IntKind.wrap IntKind.i64 ↑(BitVec.toNat (BitVec.ofInt 64 (Int.tmod
  (IntKind.wrap IntKind.i64 a11) 1000) ||| BitVec.ofInt 64 1)))))]), AV.t (Tree.agg [I (Int.tmod (IntKind.wrap IntKind.i64 a20) 1000), I (gate (Int.tmod (IntKind.wrap IntKind.i64
  a21) 1000) (gate 1 (IntKind.wrap IntKind.i64 ↑(BitVec.toNat (BitVec.ofInt 64 (Int.tmod (IntKind.wrap IntKind.i64 a21) 1000) ||| BitVec.ofInt 64 1)))))]), AV.t (Tree.tup [Tree.agg
  [I (Tree.toInt (List.headD (Tree.cs (List.headD (Tree.tupl y_2) (Tree.bool false))) (Tree.bool false))), I (Tree.toInt (List.headD (List.tail (Tree.cs (List.headD (Tree.tupl y_2)
  (Tree.bool false)))) (Tree.bool false)))], I (Tree.toInt (List.headD (List.tail (Tree.tupl y_2)) (Tree.bool false)))]), AV.t (Tree.agg [I (Tree.toInt (List.headD (Tree.cs
  (List.headD (Tree.tupl y_2) (Tree.bool false))) (Tree.bool false))), I (Tree.toInt (List.headD (List.tail (Tree.cs (List.headD (Tree.tupl y_2) (Tree.bool false)))) (Tree.bool
  false)))]), AV.t (I (Tree.toInt (List.headD (List.tail (Tree.tupl y_2)) (Tree.bool false)))), AV.t (Tree.tup [Tree.agg [I (Tree.toInt (List.headD (Tree.cs (List.headD (Tree.tupl
  y_3) (Tree.bool false))) (Tree.bool false))), I (Tree.toInt (List.headD (List.tail (Tree.cs (List.headD (Tree.tupl y_3) (Tree.bool false)))) (Tree.bool false)))], I (Tree.toInt
  (List.headD (List.tail (Tree.tupl y_3)) (Tree.bool false)))]), AV.t (Tree.agg [I (Tree.toInt (List.headD (Tree.cs (List.headD (Tree.tupl y) (Tree.bool false))) (Tree.bool
  false))), I (Tree.toInt (List.headD (List.tail (Tree.cs (List.headD (Tree.tupl y) (Tree.bool false)))) (Tree.bool false)))]), AV.t (Tree.agg [I (Int.tmod (IntKind.wrap IntKind.i64
  a20) 1000), I (gate (Int.tmod (IntKind.wrap IntKind.i64 a21) 1000) (gate 1 (IntKind.wrap IntKind.i64 ↑(BitVec.toNat (BitVec.ofInt 64 (Int.tmod (IntKind.wrap IntKind.i64 a21) 1000)
  ||| BitVec.ofInt 64 1)))))]), AV.t (Tree.tup [Tree.agg [I (Tree.toInt (List.headD (Tree.cs (List.headD (Tree.tupl y_3) (Tree.bool false))) (Tree.bool false))), I (Tree.toInt
  (List.headD (List.tail (Tree.cs (List.headD (Tree.tupl y_3) (Tree.bool false)))) (Tree.bool false)))], I (Tree.toInt (List.headD (List.tail (Tree.tupl y_3)) (Tree.bool false)))]),
  AV.t (Tree.agg [I (Tree.toInt (List.headD (Tree.cs (List.headD (Tree.tupl y_3) (Tree.bool false))) (Tree.bool false))), I (Tree.toInt (List.headD (List.tail (Tree.cs (List.headD
  (Tree.tupl y_3) (Tree.bool false)))) (Tree.bool false)))]), AV.t (I (Tree.toInt (List.headD (List.tail (Tree.tupl y_3)) (Tree.bool false)))), AV.t (Tree.tup [Tree.agg [I
  (Tree.toInt (List.headD (Tree.cs (List.headD (Tree.tupl y_4) (Tree.bool false))) (Tree.bool false))), I (Tree.toInt (List.headD (List.tail (Tree.cs (List.headD (Tree.tupl y_4)
  (Tree.bool false)))) (Tree.bool false)))], I (Tree.toInt (List.headD (List.tail (Tree.tupl y_4)) (Tree.bool false)))]), AV.t (Tree.agg [I (Int.tmod (IntKind.wrap IntKind.i64 a00)
  1000), I (gate (Int.tmod (IntKind.wrap IntKind.i64 a01) 1000) (gate 1 (IntKind.wrap IntKind.i64 ↑(BitVec.toNat (BitVec.ofInt 64 (Int.tmod (IntKind.wrap IntKind.i64 a01) 1000) |||
  BitVec.ofInt 64 1)))))]), AV.t (Tree.agg [I (Tree.toInt (List.headD (Tree.cs (List.headD (Tree.tupl y_2) (Tree.bool false))) (Tree.bool false))), I (Tree.toInt (List.headD
  (List.tail (Tree.cs (List.headD (Tree.tupl y_2) (Tree.bool false)))) (Tree.bool false)))]), AV.t (Tree.tup [Tree.agg [I (Tree.toInt (List.headD (Tree.cs (List.headD (Tree.tupl
  y_4) (Tree.bool false))) (Tree.bool false))), I (Tree.toInt (List.headD (List.tail (Tree.cs (List.headD (Tree.tupl y_4) (Tree.bool false)))) (Tree.bool false)))], I (Tree.toInt
  (List.headD (List.tail (Tree.tupl y_4)) (Tree.bool false)))]), AV.t (Tree.agg [I (Tree.toInt (List.headD (Tree.cs (List.headD (Tree.tupl y_4) (Tree.bool false))) (Tree.bool
  false))), I (Tree.toInt (List.headD (List.tail (Tree.cs (List.headD (Tree.tupl y_4) (Tree.bool false)))) (Tree.bool false)))]), AV.t (I (Tree.toInt (List.headD (List.tail
  (Tree.tupl y_4)) (Tree.bool false)))), AV.t (I (Tree.toInt (List.headD (List.tail (Tree.tupl y)) (Tree.bool false)))), AV.t (Tree.bool (Tree.toInt (List.headD (List.tail
  (Tree.tupl y)) (Tree.bool false)) != 0)), AV.t (Tree.bool false), AV.t (I (Tree.toInt (List.headD (List.tail (Tree.tupl y_1)) (Tree.bool false)))), AV.t (Tree.bool (Tree.toInt
  (List.headD (List.tail (Tree.tupl y_1)) (Tree.bool false)) != 0)), AV.t (Tree.bool (Tree.toInt (List.headD (List.tail (Tree.tupl y_1)) (Tree.bool false)) != 0)), AV.t (Tree.bool
  true), AV.undef, AV.undef, AV.t (Tree.bool true), AV.t (Tree.bool true), AV.undef, AV.undef, AV.t (Tree.bool true), AV.t (Tree.bool true), AV.undef, AV.undef, AV.t (Tree.bool
  true), AV.t (Tree.bool true), AV.undef, AV.undef, AV.undef, AV.t (Tree.bool true), AV.t (Tree.bool true), AV.undef, AV.undef, AV.undef, AV.t (Tree.bool true), AV.undef, AV.undef,
  AV.undef, AV.undef, AV.undef, AV.undef, AV.undef, AV.undef, AV.undef, AV.undef, AV.undef, AV.undef, AV.undef, AV.undef, AV.undef, AV.undef, AV.undef, AV.undef, AV.undef, AV.undef,
  AV.undef, AV.undef, AV.undef, AV.undef, AV.undef, AV.undef, AV.undef, AV.undef, AV.undef, AV.undef, AV.undef, AV.undef, AV.undef, AV.undef, AV.undef, AV.undef, AV.undef, AV.undef,
  AV.undef, AV.undef, AV.undef, AV.undef, AV.undef, AV.undef, AV.undef, AV.undef, AV.undef, AV.undef, AV.undef, AV.undef, AV.undef, AV.undef, AV.undef, AV.undef, AV.undef, AV.undef,
  AV.undef, AV.undef, AV.undef, AV.undef, AV.undef, AV.undef, AV.undef, AV.undef, AV.undef, AV.undef, AV.undef, AV.undef, AV.undef, AV.undef, AV.undef, AV.undef, AV.undef, AV.undef,
  AV.undef, AV.undef, AV.undef, AV.undef, AV.undef, AV.undef, AV.undef, AV.undef, AV.undef, AV.undef, AV.undef, AV.undef, AV.undef, AV.undef, AV.undef, AV.undef, AV.undef, AV.undef,
  AV.undef, AV.undef, AV.undef, AV.undef, AV.undef, AV.undef, AV.undef, AV.undef, AV.undef, AV.undef, AV.undef, AV.undef, AV.undef, AV.undef, AV.undef, AV.undef] [HObj.tre (Sh.agg
  [Sh.int IntKind.i16, Sh.int IntKind.i16]) [Tree.agg [Tree.int IntKind.i16 a00, Tree.int IntKind.i16 a01]], HObj.tre (Sh.agg [Sh.int IntKind.i16, Sh.int IntKind.i16]) [Tree.agg
  [Tree.int IntKind.i16 a10, Tree.int IntKind.i16 a11]], HObj.tre (Sh.agg [Sh.int IntKind.i16, Sh.int IntKind.i16]) [Tree.agg [Tree.int IntKind.i16 a20, Tree.int IntKind.i16 a21]],
  HObj.tre (Sh.agg [Sh.int IntKind.i64, Sh.int IntKind.i64]) [Tree.agg [I (Int.tmod (IntKind.wrap IntKind.i64 a00) 1000), I (gate (Int.tmod (IntKind.wrap IntKind.i64 a01) 1000)
  (gate 1 (IntKind.wrap IntKind.i64 ↑(BitVec.toNat (BitVec.ofInt 64 (Int.tmod (IntKind.wrap IntKind.i64 a01) 1000) ||| BitVec.ofInt 64 1)))))]], HObj.tre (Sh.agg [Sh.int
  IntKind.i64, Sh.int IntKind.i64]) [Tree.agg [I (Int.tmod (IntKind.wrap IntKind.i64 a10) 1000), I (gate (Int.tmod (IntKind.wrap IntKind.i64 a11) 1000) (gate 1 (IntKind.wrap
  IntKind.i64 ↑(BitVec.toNat (BitVec.ofInt 64 (Int.tmod (IntKind.wrap IntKind.i64 a11) 1000) ||| BitVec.ofInt 64 1)))))]], HObj.tre (Sh.agg [Sh.int IntKind.i64, Sh.int IntKind.i64])
  [Tree.agg [I (Int.tmod (IntKind.wrap IntKind.i64 a20) 1000), I (gate (Int.tmod (IntKind.wrap IntKind.i64 a21) 1000) (gate 1 (IntKind.wrap IntKind.i64 ↑(BitVec.toNat (BitVec.ofInt
  64 (Int.tmod (IntKind.wrap IntKind.i64 a21) 1000) ||| BitVec.ofInt 64 1)))))]], HObj.tre (Sh.agg [Sh.int IntKind.i64, Sh.int IntKind.i64]) [Tree.agg [I (Tree.toInt (List.headD
  (Tree.cs (List.headD (Tree.tupl y) (Tree.bool false))) (Tree.bool false))), I (Tree.toInt (List.headD (List.tail (Tree.cs (List.headD (Tree.tupl y) (Tree.bool false)))) (Tree.bool
  false)))]], HObj.tre (Sh.agg [Sh.int IntKind.i64, Sh.int IntKind.i64]) [Tree.agg [I (Tree.toInt (List.headD (Tree.cs (List.headD (Tree.tupl y_1) (Tree.bool false))) (Tree.bool
  false))), I (Tree.toInt (List.headD (List.tail (Tree.cs (List.headD (Tree.tupl y_1) (Tree.bool false)))) (Tree.bool false)))]], HObj.tre (Sh.agg [Sh.int IntKind.i64, Sh.int
  IntKind.i64]) [Tree.agg [I (Tree.toInt (List.headD (Tree.cs (List.headD (Tree.tupl y_2) (Tree.bool false))) (Tree.bool false))), I (Tree.toInt (List.headD (List.tail (Tree.cs
  (List.headD (Tree.tupl y_2) (Tree.bool false)))) (Tree.bool false)))]], HObj.tre (Sh.agg [Sh.int IntKind.i64, Sh.int IntKind.i64]) [Tree.agg [I (Tree.toInt (List.headD (Tree.cs
  (List.headD (Tree.tupl y_3) (Tree.bool false))) (Tree.bool false))), I (Tree.toInt (List.headD (List.tail (Tree.cs (List.headD (Tree.tupl y_3) (Tree.bool false)))) (Tree.bool
  false)))]], HObj.tre (Sh.agg [Sh.int IntKind.i64, Sh.int IntKind.i64]) [Tree.agg [I (Tree.toInt (List.headD (Tree.cs (List.headD (Tree.tupl y_4) (Tree.bool false))) (Tree.bool
  false))), I (Tree.toInt (List.headD (List.tail (Tree.cs (List.headD (Tree.tupl y_4) (Tree.bool false)))) (Tree.bool false)))]]]) else bif Tree.toInt (List.headD (List.tail
  (Tree.tupl y_2)) (Tree.bool false)) != 0 then K IExit.ret (St.mk [AV.t (Tree.agg [Tree.int IntKind.i16 a00, Tree.int IntKind.i16 a01]), AV.t (Tree.agg [Tree.int IntKind.i16 a10,
  Tree.int IntKind.i16 a11]), AV.t (Tree.agg [Tree.int IntKind.i16 a20, Tree.int IntKind.i16 a21]), AV.href 0 0 0, AV.href 1 0 0, AV.href 2 0 0, AV.t (Tree.bool false), AV.href 3 0
  0, AV.href 4 0 0, AV.href 5 0 0, AV.href 6 0 0, AV.t (I (Tree.toInt (List.headD (List.tail (Tree.tupl y)) (Tree.bool false)))), AV.href 7 0 0, AV.t (I (Tree.toInt (List.headD
  (List.tail (Tree.tupl y_1)) (Tree.bool false)))), AV.href 8 0 0, AV.t (I (Tree.toInt (List.headD (List.tail (Tree.tupl y_2)) (Tree.bool false)))), AV.href 9 0 0, AV.t (I
  (Tree.toInt (List.headD (List.tail (Tree.tupl y_3)) (Tree.bool false)))), AV.href 10 0 0, AV.t (I (Tree.toInt (List.headD (List.tail (Tree.tupl y_4)) (Tree.bool false)))),
  AV.undef, AV.undef, AV.undef, AV.undef, AV.undef, AV.undef, AV.undef, AV.undef, AV.undef, AV.undef, AV.undef, AV.undef, AV.undef, AV.undef, AV.undef, AV.undef, AV.href 0 0 0, AV.t
  (Tree.int IntKind.i16 a00), AV.t (I (IntKind.wrap IntKind.i64 a00)), AV.t (I (Int.tmod (IntKind.wrap IntKind.i64 a00) 1000)), AV.href 0 0 1, AV.t (Tree.int IntKind.i16 a01), AV.t
  (I (IntKind.wrap IntKind.i64 a01)), AV.t (I (Int.tmod (IntKind.wrap IntKind.i64 a01) 1000)), AV.t (I (gate (Int.tmod (IntKind.wrap IntKind.i64 a01) 1000) (gate 1 (IntKind.wrap
  IntKind.i64 ↑(BitVec.toNat (BitVec.ofInt 64 (Int.tmod (IntKind.wrap IntKind.i64 a01) 1000) ||| BitVec.ofInt 64 1)))))), AV.t (Tree.agg [I (Int.tmod (IntKind.wrap IntKind.i64 a00)
  1000), I (gate (Int.tmod (IntKind.wrap IntKind.i64 a01) 1000) (gate 1 (IntKind.wrap IntKind.i64 ↑(BitVec.toNat (BitVec.ofInt 64 (Int.tmod (IntKind.wrap IntKind.i64 a01) 1000) |||
  BitVec.ofInt 64 1)))))]), AV.href 1 0 0, AV.t (Tree.int IntKind.i16 a10), AV.t (I (IntKind.wrap IntKind.i64 a10)), AV.t (I (Int.tmod (IntKind.wrap IntKind.i64 a10) 1000)), AV.href
  1 0 1, AV.t (Tree.int IntKind.i16 a11), AV.t (I (IntKind.wrap IntKind.i64 a11)), AV.t (I (Int.tmod (IntKind.wrap IntKind.i64 a11) 1000)), AV.t (I (gate (Int.tmod (IntKind.wrap
  IntKind.i64 a11) 1000) (gate 1 (IntKind.wrap IntKind.i64 ↑(BitVec.toNat (BitVec.ofInt 64 (Int.tmod (IntKind.wrap IntKind.i64 a11) 1000) ||| BitVec.ofInt 64 1)))))), AV.t (Tree.agg
  [I (Int.tmod (IntKind.wrap IntKind.i64 a10) 1000), I (gate (Int.tmod (IntKind.wrap IntKind.i64 a11) 1000) (gate 1 (IntKind.wrap IntKind.i64 ↑(BitVec.toNat (BitVec.ofInt 64
  (Int.tmod (IntKind.wrap IntKind.i64 a11) 1000) ||| BitVec.ofInt 64 1)))))]), AV.href 2 0 0, AV.t (Tree.int IntKind.i16 a20), AV.t (I (IntKind.wrap IntKind.i64 a20)), AV.t (I
  (Int.tmod (IntKind.wrap IntKind.i64 a20) 1000)), AV.href 2 0 1, AV.t (Tree.int IntKind.i16 a21), AV.t (I (IntKind.wrap IntKind.i64 a21)), AV.t (I (Int.tmod (IntKind.wrap
  IntKind.i64 a21) 1000)), AV.t (I (gate (Int.tmod (IntKind.wrap IntKind.i64 a21) 1000) (gate 1 (IntKind.wrap IntKind.i64 ↑(BitVec.toNat (BitVec.ofInt 64 (Int.tmod (IntKind.wrap
  IntKind.i64 a21) 1000) ||| BitVec.ofInt 64 1)))))), AV.t (Tree.agg [I (Int.tmod (IntKind.wrap IntKind.i64 a20) 1000), I (gate (Int.tmod (IntKind.wrap IntKind.i64 a21) 1000) (gate
  1 (IntKind.wrap IntKind.i64 ↑(BitVec.toNat (BitVec.ofInt 64 (Int.tmod (IntKind.wrap IntKind.i64 a21) 1000) ||| BitVec.ofInt 64 1)))))]), AV.t (Tree.tup [Tree.agg [I (Tree.toInt
  (List.headD (Tree.cs (List.headD (Tree.tupl y) (Tree.bool false))) (Tree.bool false))), I (Tree.toInt (List.headD (List.tail (Tree.cs (List.headD (Tree.tupl y) (Tree.bool
  false)))) (Tree.bool false)))], I (Tree.toInt (List.headD (List.tail (Tree.tupl y)) (Tree.bool false)))]), AV.t (Tree.agg [I (Int.tmod (IntKind.wrap IntKind.i64 a00) 1000), I
  (gate (Int.tmod (IntKind.wrap IntKind.i64 a01) 1000) (gate 1 (IntKind.wrap IntKind.i64 ↑(BitVec.toNat (BitVec.ofInt 64 (Int.tmod (IntKind.wrap IntKind.i64 a01) 1000) |||
  BitVec.ofInt 64 1)))))]), AV.t (Tree.agg [I (Int.tmod (IntKind.wrap IntKind.i64 a10) 1000), I (gate (Int.tmod (IntKind.wrap IntKind.i64 a11) 1000) (gate 1 (IntKind.wrap
  IntKind.i64 ↑(BitVec.toNat (BitVec.ofInt 64 (Int.tmod (IntKind.wrap IntKind.i64 a11) 1000) ||| BitVec.ofInt 64 1)))))]), AV.t (Tree.tup [Tree.agg [I (Tree.toInt (List.headD
  (Tree.cs (List.headD (Tree.tupl y) (Tree.bool false))) (Tree.bool false))), I (Tree.toInt (List.headD (List.tail (Tree.cs (List.headD (Tree.tupl y) (Tree.bool false)))) (Tree.bool
  false)))], I (Tree.toInt (List.headD (List.tail (Tree.tupl y)) (Tree.bool false)))]), AV.t (Tree.agg [I (Tree.toInt (List.headD (Tree.cs (List.headD (Tree.tupl y) (Tree.bool
  false))) (Tree.bool false))), I (Tree.toInt (List.headD (List.tail (Tree.cs (List.headD (Tree.tupl y) (Tree.bool false)))) (Tree.bool false)))]), AV.t (I (Tree.toInt (List.headD
  (List.tail (Tree.tupl y)) (Tree.bool false)))), AV.t (Tree.tup [Tree.agg [I (Tree.toInt (List.headD (Tree.cs (List.headD (Tree.tupl y_1) (Tree.bool false))) (Tree.bool false))), I
  (Tree.toInt (List.headD (List.tail (Tree.cs (List.headD (Tree.tupl y_1) (Tree.bool false)))) (Tree.bool false)))], I (Tree.toInt (List.headD (List.tail (Tree.tupl y_1)) (Tree.bool
  false)))]), AV.t (Tree.agg [I (Int.tmod (IntKind.wrap IntKind.i64 a10) 1000), I (gate (Int.tmod (IntKind.wrap IntKind.i64 a11) 1000) (gate 1 (IntKind.wrap IntKind.i64
  ↑(BitVec.toNat (BitVec.ofInt 64 (Int.tmod (IntKind.wrap IntKind.i64 a11) 1000) ||| BitVec.ofInt 64 1)))))]), AV.t (Tree.agg [I (Int.tmod (IntKind.wrap IntKind.i64 a00) 1000), I
  (gate (Int.tmod (IntKind.wrap IntKind.i64 a01) 1000) (gate 1 (IntKind.wrap IntKind.i64 ↑(BitVec.toNat (BitVec.ofInt 64 (Int.tmod (IntKind.wrap IntKind.i64 a01) 1000) |||
  BitVec.ofInt 64 1)))))]), AV.t (Tree.tup [Tree.agg [I (Tree.toInt (List.headD (Tree.cs (List.headD (Tree.tupl y_1) (Tree.bool false))) (Tree.bool false))), I (Tree.toInt
  (List.headD (List.tail (Tree.cs (List.headD (Tree.tupl y_1) (Tree.bool false)))) (Tree.bool false)))], I (Tree.toInt (List.headD (List.tail (Tree.tupl y_1)) (Tree.bool false)))]),
  AV.t (Tree.agg [I (Tree.toInt (List.headD (Tree.cs (List.headD (Tree.tupl y_1) (Tree.bool false))) (Tree.bool false))), I (Tree.toInt (List.headD (List.tail (Tree.cs (List.headD
  (Tree.tupl y_1) (Tree.bool false)))) (Tree.bool false)))]), AV.t (I (Tree.toInt (List.headD (List.tail (Tree.tupl y_1)) (Tree.bool false)))), AV.t (Tree.tup [Tree.agg [I
  (Tree.toInt (List.headD (Tree.cs (List.headD (Tree.tupl y_2) (Tree.bool false))) (Tree.bool false))), I (Tree.toInt (List.headD (List.tail (Tree.cs (List.headD (Tree.tupl y_2)
  (Tree.bool false)))) (Tree.bool false)))], I (Tree.toInt (List.headD (List.tail (Tree.tupl y_2)) (Tree.bool false)))]), AV.t (Tree.agg [I (Int.tmod (IntKind.wrap IntKind.i64 a10)
  1000), I (gate (Int.tmod (IntKind.wrap IntKind.i64 a11) 1000) (gate 1 (IntKind.wrap IntKind.i64 ↑(BitVec.toNat (BitVec.ofInt 64 (Int.tmod (IntKind.wrap IntKind.i64 a11) 1000) |||
  BitVec.ofInt 64 1)))))]), AV.t (Tree.agg [I (Int.tmod (IntKind.wrap IntKind.i64 a20) 1000), I (gate (Int.tmod (IntKind.wrap IntKind.i64 a21) 1000) (gate 1 (IntKind.wrap
  IntKind.i64 ↑(BitVec.toNat (BitVec.ofInt 64 (Int.tmod (IntKind.wrap IntKind.i64 a21) 1000) ||| BitVec.ofInt 64 1)))))]), AV.t (Tree.tup [Tree.agg [I (Tree.toInt (List.headD
  (Tree.cs (List.headD (Tree.tupl y_2) (Tree.bool false))) (Tree.bool false))), I (Tree.toInt (List.headD (List.tail (Tree.cs (List.headD (Tree.tupl y_2) (Tree.bool false))))
  (Tree.bool false)))], I (Tree.toInt (List.headD (List.tail (Tree.tupl y_2)) (Tree.bool false)))]), AV.t (Tree.agg [I (Tree.toInt (List.headD (Tree.cs (List.headD (Tree.tupl y_2)
  (Tree.bool false))) (Tree.bool false))), I (Tree.toInt (List.headD (List.tail (Tree.cs (List.headD (Tree.tupl y_2) (Tree.bool false)))) (Tree.bool false)))]), AV.t (I (Tree.toInt
  (List.headD (List.tail (Tree.tupl y_2)) (Tree.bool false)))), AV.t (Tree.tup [Tree.agg [I (Tree.toInt (List.headD (Tree.cs (List.headD (Tree.tupl y_3) (Tree.bool false)))
  (Tree.bool false))), I (Tree.toInt (List.headD (List.tail (Tree.cs (List.headD (Tree.tupl y_3) (Tree.bool false)))) (Tree.bool false)))], I (Tree.toInt (List.headD (List.tail
  (Tree.tupl y_3)) (Tree.bool false)))]), AV.t (Tree.agg [I (Tree.toInt (List.headD (Tree.cs (List.headD (Tree.tupl y) (Tree.bool false))) (Tree.bool false))), I (Tree.toInt
  (List.headD (List.tail (Tree.cs (List.headD (Tree.tupl y) (Tree.bool false)))) (Tree.bool false)))]), AV.t (Tree.agg [I (Int.tmod (IntKind.wrap IntKind.i64 a20) 1000), I (gate
  (Int.tmod (IntKind.wrap IntKind.i64 a21) 1000) (gate 1 (IntKind.wrap IntKind.i64 ↑(BitVec.toNat (BitVec.ofInt 64 (Int.tmod (IntKind.wrap IntKind.i64 a21) 1000) ||| BitVec.ofInt 64
  1)))))]), AV.t (Tree.tup [Tree.agg [I (Tree.toInt (List.headD (Tree.cs (List.headD (Tree.tupl y_3) (Tree.bool false))) (Tree.bool false))), I (Tree.toInt (List.headD (List.tail
  (Tree.cs (List.headD (Tree.tupl y_3) (Tree.bool false)))) (Tree.bool false)))], I (Tree.toInt (List.headD (List.tail (Tree.tupl y_3)) (Tree.bool false)))]), AV.t (Tree.agg [I
  (Tree.toInt (List.headD (Tree.cs (List.headD (Tree.tupl y_3) (Tree.bool false))) (Tree.bool false))), I (Tree.toInt (List.headD (List.tail (Tree.cs (List.headD (Tree.tupl y_3)
  (Tree.bool false)))) (Tree.bool false)))]), AV.t (I (Tree.toInt (List.headD (List.tail (Tree.tupl y_3)) (Tree.bool false)))), AV.t (Tree.tup [Tree.agg [I (Tree.toInt (List.headD
  (Tree.cs (List.headD (Tree.tupl y_4) (Tree.bool false))) (Tree.bool false))), I (Tree.toInt (List.headD (List.tail (Tree.cs (List.headD (Tree.tupl y_4) (Tree.bool false))))
  (Tree.bool false)))], I (Tree.toInt (List.headD (List.tail (Tree.tupl y_4)) (Tree.bool false)))]), AV.t (Tree.agg [I (Int.tmod (IntKind.wrap IntKind.i64 a00) 1000), I (gate
  (Int.tmod (IntKind.wrap IntKind.i64 a01) 1000) (gate 1 (IntKind.wrap IntKind.i64 ↑(BitVec.toNat (BitVec.ofInt 64 (Int.tmod (IntKind.wrap IntKind.i64 a01) 1000) ||| BitVec.ofInt 64
  1)))))]), AV.t (Tree.agg [I (Tree.toInt (List.headD (Tree.cs (List.headD (Tree.tupl y_2) (Tree.bool false))) (Tree.bool false))), I (Tree.toInt (List.headD (List.tail (Tree.cs
  (List.headD (Tree.tupl y_2) (Tree.bool false)))) (Tree.bool false)))]), AV.t (Tree.tup [Tree.agg [I (Tree.toInt (List.headD (Tree.cs (List.headD (Tree.tupl y_4) (Tree.bool
  false))) (Tree.bool false))), I (Tree.toInt (List.headD (List.tail (Tree.cs (List.headD (Tree.tupl y_4) (Tree.bool false)))) (Tree.bool false)))], I (Tree.toInt (List.headD
  (List.tail (Tree.tupl y_4)) (Tree.bool false)))]), AV.t (Tree.agg [I (Tree.toInt (List.headD (Tree.cs (List.headD (Tree.tupl y_4) (Tree.bool false))) (Tree.bool false))), I
  (Tree.toInt (List.headD (List.tail (Tree.cs (List.headD (Tree.tupl y_4) (Tree.bool false)))) (Tree.bool false)))]), AV.t (I (Tree.toInt (List.headD (List.tail (Tree.tupl y_4))
  (Tree.bool false)))), AV.t (I (Tree.toInt (List.headD (List.tail (Tree.tupl y)) (Tree.bool false)))), AV.t (Tree.bool (Tree.toInt (List.headD (List.tail (Tree.tupl y)) (Tree.bool
  false)) != 0)), AV.t (Tree.bool false), AV.t (I (Tree.toInt (List.headD (List.tail (Tree.tupl y_1)) (Tree.bool false)))), AV.t (Tree.bool (Tree.toInt (List.headD (List.tail
  (Tree.tupl y_1)) (Tree.bool false)) != 0)), AV.t (Tree.bool (Tree.toInt (List.headD (List.tail (Tree.tupl y_1)) (Tree.bool false)) != 0)), AV.t (Tree.bool false), AV.t (I
  (Tree.toInt (List.headD (List.tail (Tree.tupl y_2)) (Tree.bool false)))), AV.t (Tree.bool (Tree.toInt (List.headD (List.tail (Tree.tupl y_2)) (Tree.bool false)) != 0)), AV.t
  (Tree.bool (Tree.toInt (List.headD (List.tail (Tree.tupl y_2)) (Tree.bool false)) != 0)), AV.t (Tree.bool true), AV.undef, AV.undef, AV.t (Tree.bool true), AV.t (Tree.bool true),
  AV.undef, AV.undef, AV.t (Tree.bool true), AV.t (Tree.bool true), AV.undef, AV.undef, AV.undef, AV.t (Tree.bool true), AV.t (Tree.bool true), AV.undef, AV.undef, AV.undef, AV.t
  (Tree.bool true), AV.undef, AV.undef, AV.undef, AV.undef, AV.undef, AV.undef, AV.undef, AV.undef, AV.undef, AV.undef, AV.undef, AV.undef, AV.undef, AV.undef, AV.undef, AV.undef,
  AV.undef, AV.undef, AV.undef, AV.undef, AV.undef, AV.undef, AV.undef, AV.undef, AV.undef, AV.undef, AV.undef, AV.undef, AV.undef, AV.undef, AV.undef, AV.undef, AV.undef, AV.undef,
  AV.undef, AV.undef, AV.undef, AV.undef, AV.undef, AV.undef, AV.undef, AV.undef, AV.undef, AV.undef, AV.undef, AV.undef, AV.undef, AV.undef, AV.undef, AV.undef, AV.undef, AV.undef,
  AV.undef, AV.undef, AV.undef, AV.undef, AV.undef, AV.undef, AV.undef, AV.undef, AV.undef, AV.undef, AV.undef, AV.undef, AV.undef, AV.undef, AV.undef, AV.undef, AV.undef, AV.undef,
  AV.undef, AV.undef, AV.undef, AV.undef, AV.undef, AV.undef, AV.undef, AV.undef, AV.undef, AV.undef, AV.undef, AV.undef, AV.undef, AV.undef, AV.undef, AV.undef, AV.undef, AV.undef,
  AV.undef, AV.undef, AV.undef, AV.undef, AV.undef, AV.undef, AV.undef, AV.undef, AV.undef, AV.undef, AV.undef, AV.undef, AV.undef, AV.undef, AV.undef, AV.undef, AV.undef, AV.undef,
  AV.undef, AV.undef] [HObj.tre (Sh.agg [Sh.int IntKind.i16, Sh.int IntKind.i16]) [Tree.agg [Tree.int IntKind.i16 a00, Tree.int IntKind.i16 a01]], HObj.tre (Sh.agg [Sh.int
  IntKind.i16, Sh.int IntKind.i16]) [Tree.agg [Tree.int IntKind.i16 a10, Tree.int IntKind.i16 a11]], HObj.tre (Sh.agg [Sh.int IntKind.i16, Sh.int IntKind.i16]) [Tree.agg [Tree.int
  IntKind.i16 a20, Tree.int IntKind.i16 a21]], HObj.tre (Sh.agg [Sh.int IntKind.i64, Sh.int IntKind.i64]) [Tree.agg [I (Int.tmod (IntKind.wrap IntKind.i64 a00) 1000), I (gate
  (Int.tmod (IntKind.wrap IntKind.i64 a01) 1000) (gate 1 (IntKind.wrap IntKind.i64 ↑(BitVec.toNat (BitVec.ofInt 64 (Int.tmod (IntKind.wrap IntKind.i64 a01) 1000) ||| BitVec.ofInt 64
  1)))))]], HObj.tre (Sh.agg [Sh.int IntKind.i64, Sh.int IntKind.i64]) [Tree.agg [I (Int.tmod (IntKind.wrap IntKind.i64 a10) 1000), I (gate (Int.tmod (IntKind.wrap IntKind.i64 a11)
  1000) (gate 1 (IntKind.wrap IntKind.i64 ↑(BitVec.toNat (BitVec.ofInt 64 (Int.tmod (IntKind.wrap IntKind.i64 a11) 1000) ||| BitVec.ofInt 64 1)))))]], HObj.tre (Sh.agg [Sh.int
  IntKind.i64, Sh.int IntKind.i64]) [Tree.agg [I (Int.tmod (IntKind.wrap IntKind.i64 a20) 1000), I (gate (Int.tmod (IntKind.wrap IntKind.i64 a21) 1000) (gate 1 (IntKind.wrap
  IntKind.i64 ↑(BitVec.toNat (BitVec.ofInt 64 (Int.tmod (IntKind.wrap IntKind.i64 a21) 1000) ||| BitVec.ofInt 64 1)))))]], HObj.tre (Sh.agg [Sh.int IntKind.i64, Sh.int IntKind.i64])
  [Tree.agg [I (Tree.toInt (List.headD (Tree.cs (List.headD (Tree.tupl y) (Tree.bool false))) (Tree.bool false))), I (Tree.toInt (List.headD (List.tail (Tree.cs (List.headD
  (Tree.tupl y) (Tree.bool false)))) (Tree.bool false)))]], HObj.tre (Sh.agg [Sh.int IntKind.i64, Sh.int IntKind.i64]) [Tree.agg [I (Tree.toInt (List.headD (Tree.cs (List.headD
  (Tree.tupl y_1) (Tree.bool false))) (Tree.bool false))), I (Tree.toInt (List.headD (List.tail (Tree.cs (List.headD (Tree.tupl y_1) (Tree.bool false)))) (Tree.bool false)))]],
  HObj.tre (Sh.agg [Sh.int IntKind.i64, Sh.int IntKind.i64]) [Tree.agg [I (Tree.toInt (List.headD (Tree.cs (List.headD (Tree.tupl y_2) (Tree.bool false))) (Tree.bool false))), I
  (Tree.toInt (List.headD (List.tail (Tree.cs (List.headD (Tree.tupl y_2) (Tree.bool false)))) (Tree.bool false)))]], HObj.tre (Sh.agg [Sh.int IntKind.i64, Sh.int IntKind.i64])
  [Tree.agg [I (Tree.toInt (List.headD (Tree.cs (List.headD (Tree.tupl y_3) (Tree.bool false))) (Tree.bool false))), I (Tree.toInt (List.headD (List.tail (Tree.cs (List.headD
  (Tree.tupl y_3) (Tree.bool false)))) (Tree.bool false)))]], HObj.tre (Sh.agg [Sh.int IntKind.i64, Sh.int IntKind.i64]) [Tree.agg [I (Tree.toInt (List.headD (Tree.cs (List.headD
  (Tree.tupl y_4) (Tree.bool false))) (Tree.bool false))), I (Tree.toInt (List.headD (List.tail (Tree.cs (List.headD (Tree.tupl y_4) (Tree.bool false)))) (Tree.bool false)))]]])
  else bif Tree.toInt (List.headD (List.tail (Tree.tupl y_3)) (Tree.bool false)) != 0 then K IExit.ret (St.mk [AV.t (Tree.agg [Tree.int IntKind.i16 a00, Tree.int IntKind.i16 a01]),
  AV.t (Tree.agg [Tree.int IntKind.i16 a10, Tree.int IntKind.i16 a11]), AV.t (Tree.agg [Tree.int IntKind.i16 a20, Tree.int IntKind.i16 a21]), AV.href 0 0 0, AV.href 1 0 0, AV.href 2
  0 0, AV.t (Tree.bool false), AV.href 3 0 0, AV.href 4 0 0, AV.href 5 0 0, AV.href 6 0 0, AV.t (I (Tree.toInt (List.headD (List.tail (Tree.tupl y)) (Tree.bool false)))), AV.href 7
  0 0, AV.t (I (Tree.toInt (List.headD (List.tail (Tree.tupl y_1)) (Tree.bool false)))), AV.href 8 0 0, AV.t (I (Tree.toInt (List.headD (List.tail (Tree.tupl y_2)) (Tree.bool
  false)))), AV.href 9 0 0, AV.t (I (Tree.toInt (List.headD (List.tail (Tree.tupl y_3)) (Tree.bool false)))), AV.href 10 0 0, AV.t (I (Tree.toInt (List.headD (List.tail (Tree.tupl
  y_4)) (Tree.bool false)))), AV.undef, AV.undef, AV.undef, AV.undef, AV.undef, AV.undef, AV.undef, AV.undef, AV.undef, AV.undef, AV.undef, AV.undef, AV.undef, AV.undef, AV.undef,
  AV.undef, AV.href 0 0 0, AV.t (Tree.int IntKind.i16 a00), AV.t (I (IntKind.wrap IntKind.i64 a00)), AV.t (I (Int.tmod (IntKind.wrap IntKind.i64 a00) 1000)), AV.href 0 0 1, AV.t
  (Tree.int IntKind.i16 a01), AV.t (I (IntKind.wrap IntKind.i64 a01)), AV.t (I (Int.tmod (IntKind.wrap IntKind.i64 a01) 1000)), AV.t (I (gate (Int.tmod (IntKind.wrap IntKind.i64
  a01) 1000) (gate 1 (IntKind.wrap IntKind.i64 ↑(BitVec.toNat (BitVec.ofInt 64 (Int.tmod (IntKind.wrap IntKind.i64 a01) 1000) ||| BitVec.ofInt 64 1)))))), AV.t (Tree.agg [I
  (Int.tmod (IntKind.wrap IntKind.i64 a00) 1000), I (gate (Int.tmod (IntKind.wrap IntKind.i64 a01) 1000) (gate 1 (IntKind.wrap IntKind.i64 ↑(BitVec.toNat (BitVec.ofInt 64 (Int.tmod
  (IntKind.wrap IntKind.i64 a01) 1000) ||| BitVec.ofInt 64 1)))))]), AV.href 1 0 0, AV.t (Tree.int IntKind.i16 a10), AV.t (I (IntKind.wrap IntKind.i64 a10)), AV.t (I (Int.tmod
  (IntKind.wrap IntKind.i64 a10) 1000)), AV.href 1 0 1, AV.t (Tree.int IntKind.i16 a11), AV.t (I (IntKind.wrap IntKind.i64 a11)), AV.t (I (Int.tmod (IntKind.wrap IntKind.i64 a11)
  1000)), AV.t (I (gate (Int.tmod (IntKind.wrap IntKind.i64 a11) 1000) (gate 1 (IntKind.wrap IntKind.i64 ↑(BitVec.toNat (BitVec.ofInt 64 (Int.tmod (IntKind.wrap IntKind.i64 a11)
  1000) ||| BitVec.ofInt 64 1)))))), AV.t (Tree.agg [I (Int.tmod (IntKind.wrap IntKind.i64 a10) 1000), I (gate (Int.tmod (IntKind.wrap IntKind.i64 a11) 1000) (gate 1 (IntKind.wrap
  IntKind.i64 ↑(BitVec.toNat (BitVec.ofInt 64 (Int.tmod (IntKind.wrap IntKind.i64 a11) 1000) ||| BitVec.ofInt 64 1)))))]), AV.href 2 0 0, AV.t (Tree.int IntKind.i16 a20), AV.t (I
  (IntKind.wrap IntKind.i64 a20)), AV.t (I (Int.tmod (IntKind.wrap IntKind.i64 a20) 1000)), AV.href 2 0 1, AV.t (Tree.int IntKind.i16 a21), AV.t (I (IntKind.wrap IntKind.i64 a21)),
  AV.t (I (Int.tmod (IntKind.wrap IntKind.i64 a21) 1000)), AV.t (I (gate (Int.tmod (IntKind.wrap IntKind.i64 a21) 1000) (gate 1 (IntKind.wrap IntKind.i64 ↑(BitVec.toNat
  (BitVec.ofInt 64 (Int.tmod (IntKind.wrap IntKind.i64 a21) 1000) ||| BitVec.ofInt 64 1)))))), AV.t (Tree.agg [I (Int.tmod (IntKind.wrap IntKind.i64 a20) 1000), I (gate (Int.tmod
  (IntKind.wrap IntKind.i64 a21) 1000) (gate 1 (IntKind.wrap IntKind.i64 ↑(BitVec.toNat (BitVec.ofInt 64 (Int.tmod (IntKind.wrap IntKind.i64 a21) 1000) ||| BitVec.ofInt 64 1)))))]),
  AV.t (Tree.tup [Tree.agg [I (Tree.toInt (List.headD (Tree.cs (List.headD (Tree.tupl y) (Tree.bool false))) (Tree.bool false))), I (Tree.toInt (List.headD (List.tail (Tree.cs
  (List.headD (Tree.tupl y) (Tree.bool false)))) (Tree.bool false)))], I (Tree.toInt (List.headD (List.tail (Tree.tupl y)) (Tree.bool false)))]), AV.t (Tree.agg [I (Int.tmod
  (IntKind.wrap IntKind.i64 a00) 1000), I (gate (Int.tmod (IntKind.wrap IntKind.i64 a01) 1000) (gate 1 (IntKind.wrap IntKind.i64 ↑(BitVec.toNat (BitVec.ofInt 64 (Int.tmod
  (IntKind.wrap IntKind.i64 a01) 1000) ||| BitVec.ofInt 64 1)))))]), AV.t (Tree.agg [I (Int.tmod (IntKind.wrap IntKind.i64 a10) 1000), I (gate (Int.tmod (IntKind.wrap IntKind.i64
  a11) 1000) (gate 1 (IntKind.wrap IntKind.i64 ↑(BitVec.toNat (BitVec.ofInt 64 (Int.tmod (IntKind.wrap IntKind.i64 a11) 1000) ||| BitVec.ofInt 64 1)))))]), AV.t (Tree.tup [Tree.agg
  [I (Tree.toInt (List.headD (Tree.cs (List.headD (Tree.tupl y) (Tree.bool false))) (Tree.bool false))), I (Tree.toInt (List.headD (List.tail (Tree.cs (List.headD (Tree.tupl y)
  (Tree.bool false)))) (Tree.bool false)))], I (Tree.toInt (List.headD (List.tail (Tree.tupl y)) (Tree.bool false)))]), AV.t (Tree.agg [I (Tree.toInt (List.headD (Tree.cs
  (List.headD (Tree.tupl y) (Tree.bool false))) (Tree.bool false))), I (Tree.toInt (List.headD (List.tail (Tree.cs (List.headD (Tree.tupl y) (Tree.bool false)))) (Tree.bool
  false)))]), AV.t (I (Tree.toInt (List.headD (List.tail (Tree.tupl y)) (Tree.bool false)))), AV.t (Tree.tup [Tree.agg [I (Tree.toInt (List.headD (Tree.cs (List.headD (Tree.tupl
  y_1) (Tree.bool false))) (Tree.bool false))), I (Tree.toInt (List.headD (List.tail (Tree.cs (List.headD (Tree.tupl y_1) (Tree.bool false)))) (Tree.bool false)))], I (Tree.toInt
  (List.headD (List.tail (Tree.tupl y_1)) (Tree.bool false)))]), AV.t (Tree.agg [I (Int.tmod (IntKind.wrap IntKind.i64 a10) 1000), I (gate (Int.tmod (IntKind.wrap IntKind.i64 a11)
  1000) (gate 1 (IntKind.wrap IntKind.i64 ↑(BitVec.toNat (BitVec.ofInt 64 (Int.tmod (IntKind.wrap IntKind.i64 a11) 1000) ||| BitVec.ofInt 64 1)))))]), AV.t (Tree.agg [I (Int.tmod
  (IntKind.wrap IntKind.i64 a00) 1000), I (gate (Int.tmod (IntKind.wrap IntKind.i64 a01) 1000) (gate 1 (IntKind.wrap IntKind.i64 ↑(BitVec.toNat (BitVec.ofInt 64 (Int.tmod
  (IntKind.wrap IntKind.i64 a01) 1000) ||| BitVec.ofInt 64 1)))))]), AV.t (Tree.tup [Tree.agg [I (Tree.toInt (List.headD (Tree.cs (List.headD (Tree.tupl y_1) (Tree.bool false)))
  (Tree.bool false))), I (Tree.toInt (List.headD (List.tail (Tree.cs (List.headD (Tree.tupl y_1) (Tree.bool false)))) (Tree.bool false)))], I (Tree.toInt (List.headD (List.tail
  (Tree.tupl y_1)) (Tree.bool false)))]), AV.t (Tree.agg [I (Tree.toInt (List.headD (Tree.cs (List.headD (Tree.tupl y_1) (Tree.bool false))) (Tree.bool false))), I (Tree.toInt
  (List.headD (List.tail (Tree.cs (List.headD (Tree.tupl y_1) (Tree.bool false)))) (Tree.bool false)))]), AV.t (I (Tree.toInt (List.headD (List.tail (Tree.tupl y_1)) (Tree.bool
  false)))), AV.t (Tree.tup [Tree.agg [I (Tree.toInt (List.headD (Tree.cs (List.headD (Tree.tupl y_2) (Tree.bool false))) (Tree.bool false))), I (Tree.toInt (List.headD (List.tail
  (Tree.cs (List.headD (Tree.tupl y_2) (Tree.bool false)))) (Tree.bool false)))], I (Tree.toInt (List.headD (List.tail (Tree.tupl y_2)) (Tree.bool false)))]), AV.t (Tree.agg [I
  (Int.tmod (IntKind.wrap IntKind.i64 a10) 1000), I (gate (Int.tmod (IntKind.wrap IntKind.i64 a11) 1000) (gate 1 (IntKind.wrap IntKind.i64 ↑(BitVec.toNat (BitVec.ofInt 64 (Int.tmod
  (IntKind.wrap IntKind.i64 a11) 1000) ||| BitVec.ofInt 64 1)))))]), AV.t (Tree.agg [I (Int.tmod (IntKind.wrap IntKind.i64 a20) 1000), I (gate (Int.tmod (IntKind.wrap IntKind.i64
  a21) 1000) (gate 1 (IntKind.wrap IntKind.i64 ↑(BitVec.toNat (BitVec.ofInt 64 (Int.tmod (IntKind.wrap IntKind.i64 a21) 1000) ||| BitVec.ofInt 64 1)))))]), AV.t (Tree.tup [Tree.agg
  [I (Tree.toInt (List.headD (Tree.cs (List.headD (Tree.tupl y_2) (Tree.bool false))) (Tree.bool false))), I (Tree.toInt (List.headD (List.tail (Tree.cs (List.headD (Tree.tupl y_2)
  (Tree.bool false)))) (Tree.bool false)))], I (Tree.toInt (List.headD (List.tail (Tree.tupl y_2)) (Tree.bool false)))]), AV.t (Tree.agg [I (Tree.toInt (List.headD (Tree.cs
  (List.headD (Tree.tupl y_2) (Tree.bool false))) (Tree.bool false))), I (Tree.toInt (List.headD (List.tail (Tree.cs (List.headD (Tree.tupl y_2) (Tree.bool false)))) (Tree.bool
  false)))]), AV.t (I (Tree.toInt (List.headD (List.tail (Tree.tupl y_2)) (Tree.bool false)))), AV.t (Tree.tup [Tree.agg [I (Tree.toInt (List.headD (Tree.cs (List.headD (Tree.tupl
  y_3) (Tree.bool false))) (Tree.bool false))), I (Tree.toInt (List.headD (List.tail (Tree.cs (List.headD (Tree.tupl y_3) (Tree.bool false)))) (Tree.bool false)))], I (Tree.toInt
  (List.headD (List.tail (Tree.tupl y_3)) (Tree.bool false)))]), AV.t (Tree.agg [I (Tree.toInt (List.headD (Tree.cs (List.headD (Tree.tupl y) (Tree.bool false))) (Tree.bool
  false))), I (Tree.toInt (List.headD (List.tail (Tree.cs (List.headD (Tree.tupl y) (Tree.bool false)))) (Tree.bool false)))]), AV.t (Tree.agg [I (Int.tmod (IntKind.wrap IntKind.i64
  a20) 1000), I (gate (Int.tmod (IntKind.wrap IntKind.i64 a21) 1000) (gate 1 (IntKind.wrap IntKind.i64 ↑(BitVec.toNat (BitVec.ofInt 64 (Int.tmod (IntKind.wrap IntKind.i64 a21) 1000)
  ||| BitVec.ofInt 64 1)))))]), AV.t (Tree.tup [Tree.agg [I (Tree.toInt (List.headD (Tree.cs (List.headD (Tree.tupl y_3) (Tree.bool false))) (Tree.bool false))), I (Tree.toInt
  (List.headD (List.tail (Tree.cs (List.headD (Tree.tupl y_3) (Tree.bool false)))) (Tree.bool false)))], I (Tree.toInt (List.headD (List.tail (Tree.tupl y_3)) (Tree.bool false)))]),
  AV.t (Tree.agg [I (Tree.toInt (List.headD (Tree.cs (List.headD (Tree.tupl y_3) (Tree.bool false))) (Tree.bool false))), I (Tree.toInt (List.headD (List.tail (Tree.cs (List.headD
  (Tree.tupl y_3) (Tree.bool false)))) (Tree.bool false)))]), AV.t (I (Tree.toInt (List.headD (List.tail (Tree.tupl y_3)) (Tree.bool false)))), AV.t (Tree.tup [Tree.agg [I
  (Tree.toInt (List.headD (Tree.cs (List.headD (Tree.tupl y_4) (Tree.bool false))) (Tree.bool false))), I (Tree.toInt (List.headD (List.tail (Tree.cs (List.headD (Tree.tupl y_4)
  (Tree.bool false)))) (Tree.bool false)))], I (Tree.toInt (List.headD (List.tail (Tree.tupl y_4)) (Tree.bool false)))]), AV.t (Tree.agg [I (Int.tmod (IntKind.wrap IntKind.i64 a00)
  1000), I (gate (Int.tmod (IntKind.wrap IntKind.i64 a01) 1000) (gate 1 (IntKind.wrap IntKind.i64 ↑(BitVec.toNat (BitVec.ofInt 64 (Int.tmod (IntKind.wrap IntKind.i64 a01) 1000) |||
  BitVec.ofInt 64 1)))))]), AV.t (Tree.agg [I (Tree.toInt (List.headD (Tree.cs (List.headD (Tree.tupl y_2) (Tree.bool false))) (Tree.bool false))), I (Tree.toInt (List.headD
  (List.tail (Tree.cs (List.headD (Tree.tupl y_2) (Tree.bool false)))) (Tree.bool false)))]), AV.t (Tree.tup [Tree.agg [I (Tree.toInt (List.headD (Tree.cs (List.headD (Tree.tupl
  y_4) (Tree.bool false))) (Tree.bool false))), I (Tree.toInt (List.headD (List.tail (Tree.cs (List.headD (Tree.tupl y_4) (Tree.bool false)))) (Tree.bool false)))], I (Tree.toInt
  (List.headD (List.tail (Tree.tupl y_4)) (Tree.bool false)))]), AV.t (Tree.agg [I (Tree.toInt (List.headD (Tree.cs (List.headD (Tree.tupl y_4) (Tree.bool false))) (Tree.bool
  false))), I (Tree.toInt (List.headD (List.tail (Tree.cs (List.headD (Tree.tupl y_4) (Tree.bool false)))) (Tree.bool false)))]), AV.t (I (Tree.toInt (List.headD (List.tail
  (Tree.tupl y_4)) (Tree.bool false)))), AV.t (I (Tree.toInt (List.headD (List.tail (Tree.tupl y)) (Tree.bool false)))), AV.t (Tree.bool (Tree.toInt (List.headD (List.tail
  (Tree.tupl y)) (Tree.bool false)) != 0)), AV.t (Tree.bool false), AV.t (I (Tree.toInt (List.headD (List.tail (Tree.tupl y_1)) (Tree.bool false)))), AV.t (Tree.bool (Tree.toInt
  (List.headD (List.tail (Tree.tupl y_1)) (Tree.bool false)) != 0)), AV.t (Tree.bool (Tree.toInt (List.headD (List.tail (Tree.tupl y_1)) (Tree.bool false)) != 0)), AV.t (Tree.bool
  false), AV.t (I (Tree.toInt (List.headD (List.tail (Tree.tupl y_2)) (Tree.bool false)))), AV.t (Tree.bool (Tree.toInt (List.headD (List.tail (Tree.tupl y_2)) (Tree.bool false)) !=
  0)), AV.t (Tree.bool (Tree.toInt (List.headD (List.tail (Tree.tupl y_2)) (Tree.bool false)) != 0)), AV.t (Tree.bool false), AV.t (I (Tree.toInt (List.headD (List.tail (Tree.tupl
  y_3)) (Tree.bool false)))), AV.t (Tree.bool (Tree.toInt (List.headD (List.tail (Tree.tupl y_3)) (Tree.bool false)) != 0)), AV.t (Tree.bool (Tree.toInt (List.headD (List.tail
  (Tree.tupl y_3)) (Tree.bool false)) != 0)), AV.t (Tree.bool true), AV.undef, AV.undef, AV.t (Tree.bool true), AV.t (Tree.bool true), AV.undef, AV.undef, AV.undef, AV.t (Tree.bool
  true), AV.t (Tree.bool true), AV.undef, AV.undef, AV.undef, AV.t (Tree.bool true), AV.undef, AV.undef, AV.undef, AV.undef, AV.undef, AV.undef, AV.undef, AV.undef, AV.undef,
  AV.undef, AV.undef, AV.undef, AV.undef, AV.undef, AV.undef, AV.undef, AV.undef, AV.undef, AV.undef, AV.undef, AV.undef, AV.undef, AV.undef, AV.undef, AV.undef, AV.undef, AV.undef,
  AV.undef, AV.undef, AV.undef, AV.undef, AV.undef, AV.undef, AV.undef, AV.undef, AV.undef, AV.undef, AV.undef, AV.undef, AV.undef, AV.undef, AV.undef, AV.undef, AV.undef, AV.undef,
  AV.undef, AV.undef, AV.undef, AV.undef, AV.undef, AV.undef, AV.undef, AV.undef, AV.undef, AV.undef, AV.undef, AV.undef, AV.undef, AV.undef, AV.undef, AV.undef, AV.undef, AV.undef,
  AV.undef, AV.undef, AV.undef, AV.undef, AV.undef, AV.undef, AV.undef, AV.undef, AV.undef, AV.undef, AV.undef, AV.undef, AV.undef, AV.undef, AV.undef, AV.undef, AV.undef, AV.undef,
  AV.undef, AV.undef, AV.undef, AV.undef, AV.undef, AV.undef, AV.undef, AV.undef, AV.undef, AV.undef, AV.undef, AV.undef, AV.undef, AV.undef, AV.undef, AV.undef, AV.undef, AV.undef,
  AV.undef, AV.undef, AV.undef, AV.undef, AV.undef, AV.undef, AV.undef, AV.undef, AV.undef] [HObj.tre (Sh.agg [Sh.int IntKind.i16, Sh.int IntKind.i16]) [Tree.agg [Tree.int
  IntKind.i16 a00, Tree.int IntKind.i16 a01]], HObj.tre (Sh.agg [Sh.int IntKind.i16, Sh.int IntKind.i16]) [Tree.agg [Tree.int IntKind.i16 a10, Tree.int IntKind.i16 a11]], HObj.tre
  (Sh.agg [Sh.int IntKind.i16, Sh.int IntKind.i16]) [Tree.agg [Tree.int IntKind.i16 a20, Tree.int IntKind.i16 a21]], HObj.tre (Sh.agg [Sh.int IntKind.i64, Sh.int IntKind.i64])
  [Tree.agg [I (Int.tmod (IntKind.wrap IntKind.i64 a00) 1000), I (gate (Int.tmod (IntKind.wrap IntKind.i64 a01) 1000) (gate 1 (IntKind.wrap IntKind.i64 ↑(BitVec.toNat (BitVec.ofInt
  64 (Int.tmod (IntKind.wrap IntKind.i64 a01) 1000) ||| BitVec.ofInt 64 1)))))]], HObj.tre (Sh.agg [Sh.int IntKind.i64, Sh.int IntKind.i64]) [Tree.agg [I (Int.tmod (IntKind.wrap
  IntKind.i64 a10) 1000), I (gate (Int.tmod (IntKind.wrap IntKind.i64 a11) 1000) (gate 1 (IntKind.wrap IntKind.i64 ↑(BitVec.toNat (BitVec.ofInt 64 (Int.tmod (IntKind.wrap
  IntKind.i64 a11) 1000) ||| BitVec.ofInt 64 1)))))]], HObj.tre (Sh.agg [Sh.int IntKind.i64, Sh.int IntKind.i64]) [Tree.agg [I (Int.tmod (IntKind.wrap IntKind.i64 a20) 1000), I
  (gate (Int.tmod (IntKind.wrap IntKind.i64 a21) 1000) (gate 1 (IntKind.wrap IntKind.i64 ↑(BitVec.toNat (BitVec.ofInt 64 (Int.tmod (IntKind.wrap IntKind.i64 a21) 1000) |||
  BitVec.ofInt 64 1)))))]], HObj.tre (Sh.agg [Sh.int IntKind.i64, Sh.int IntKind.i64]) [Tree.agg [I (Tree.toInt (List.headD (Tree.cs (List.headD (Tree.tupl y) (Tree.bool false)))
  (Tree.bool false))), I (Tree.toInt (List.headD (List.tail (Tree.cs (List.headD (Tree.tupl y) (Tree.bool false)))) (Tree.bool false)))]], HObj.tre (Sh.agg [Sh.int IntKind.i64,
  Sh.int IntKind.i64]) [Tree.agg [I (Tree.toInt (List.headD (Tree.cs (List.headD (Tree.tupl y_1) (Tree.bool false))) (Tree.bool false))), I (Tree.toInt (List.headD (List.tail
  (Tree.cs (List.headD (Tree.tupl y_1) (Tree.bool false)))) (Tree.bool false)))]], HObj.tre (Sh.agg [Sh.int IntKind.i64, Sh.int IntKind.i64]) [Tree.agg [I (Tree.toInt (List.headD
  (Tree.cs (List.headD (Tree.tupl y_2) (Tree.bool false))) (Tree.bool false))), I (Tree.toInt (List.headD (List.tail (Tree.cs (List.headD (Tree.tupl y_2) (Tree.bool false))))
  (Tree.bool false)))]], HObj.tre (Sh.agg [Sh.int IntKind.i64, Sh.int IntKind.i64]) [Tree.agg [I (Tree.toInt (List.headD (Tree.cs (List.headD (Tree.tupl y_3) (Tree.bool false)))
  (Tree.bool false))), I (Tree.toInt (List.headD (List.tail (Tree.cs (List.headD (Tree.tupl y_3) (Tree.bool false)))) (Tree.bool false)))]], HObj.tre (Sh.agg [Sh.int IntKind.i64,
  Sh.int IntKind.i64]) [Tree.agg [I (Tree.toInt (List.headD (Tree.cs (List.headD (Tree.tupl y_4) (Tree.bool false))) (Tree.bool false))), I (Tree.toInt (List.headD (List.tail
  (Tree.cs (List.headD (Tree.tupl y_4) (Tree.bool false)))) (Tree.bool false)))]]]) else bif Tree.toInt (List.headD (List.tail (Tree.tupl y_4)) (Tree.bool false)) != 0 then K
  IExit.ret (St.mk [AV.t (Tree.agg [Tree.int IntKind.i16 a00, Tree.int IntKind.i16 a01]), AV.t (Tree.agg [Tree.int IntKind.i16 a10, Tree.int IntKind.i16 a11]), AV.t (Tree.agg
  [Tree.int IntKind.i16 a20, Tree.int IntKind.i16 a21]), AV.href 0 0 0, AV.href 1 0 0, AV.href 2 0 0, AV.t (Tree.bool false), AV.href 3 0 0, AV.href 4 0 0, AV.href 5 0 0, AV.href 6
  0 0, AV.t (I (Tree.toInt (List.headD (List.tail (Tree.tupl y)) (Tree.bool false)))), AV.href 7 0 0, AV.t (I (Tree.toInt (List.headD (List.tail (Tree.tupl y_1)) (Tree.bool
  false)))), AV.href 8 0 0, AV.t (I (Tree.toInt (List.headD (List.tail (Tree.tupl y_2)) (Tree.bool false)))), AV.href 9 0 0, AV.t (I (Tree.toInt (List.headD (List.tail (Tree.tupl
  y_3)) (Tree.bool false)))), AV.href 10 0 0, AV.t (I (Tree.toInt (List.headD (List.tail (Tree.tupl y_4)) (Tree.bool false)))), AV.undef, AV.undef, AV.undef, AV.undef, AV.undef,
  AV.undef, AV.undef, AV.undef, AV.undef, AV.undef, AV.undef, AV.undef, AV.undef, AV.undef, AV.undef, AV.undef, AV.href 0 0 0, AV.t (Tree.int IntKind.i16 a00), AV.t (I (IntKind.wrap
  IntKind.i64 a00)), AV.t (I (Int.tmod (IntKind.wrap IntKind.i64 a00) 1000)), AV.href 0 0 1, AV.t (Tree.int IntKind.i16 a01), AV.t (I (IntKind.wrap IntKind.i64 a01)), AV.t (I
  (Int.tmod (IntKind.wrap IntKind.i64 a01) 1000)), AV.t (I (gate (Int.tmod (IntKind.wrap IntKind.i64 a01) 1000) (gate 1 (IntKind.wrap IntKind.i64 ↑(BitVec.toNat (BitVec.ofInt 64
  (Int.tmod (IntKind.wrap IntKind.i64 a01) 1000) ||| BitVec.ofInt 64 1)))))), AV.t (Tree.agg [I (Int.tmod (IntKind.wrap IntKind.i64 a00) 1000), I (gate (Int.tmod (IntKind.wrap
  IntKind.i64 a01) 1000) (gate 1 (IntKind.wrap IntKind.i64 ↑(BitVec.toNat (BitVec.ofInt 64 (Int.tmod (IntKind.wrap IntKind.i64 a01) 1000) ||| BitVec.ofInt 64 1)))))]), AV.href 1 0
  0, AV.t (Tree.int IntKind.i16 a10), AV.t (I (IntKind.wrap IntKind.i64 a10)), AV.t (I (Int.tmod (IntKind.wrap IntKind.i64 a10) 1000)), AV.href 1 0 1, AV.t (Tree.int IntKind.i16
  a11), AV.t (I (IntKind.wrap IntKind.i64 a11)), AV.t (I (Int.tmod (IntKind.wrap IntKind.i64 a11) 1000)), AV.t (I (gate (Int.tmod (IntKind.wrap IntKind.i64 a11) 1000) (gate 1
  (IntKind.wrap IntKind.i64 ↑(BitVec.toNat (BitVec.ofInt 64 (Int.tmod (IntKind.wrap IntKind.i64 a11) 1000) ||| BitVec.ofInt 64 1)))))), AV.t (Tree.agg [I (Int.tmod (IntKind.wrap
  IntKind.i64 a10) 1000), I (gate (Int.tmod (IntKind.wrap IntKind.i64 a11) 1000) (gate 1 (IntKind.wrap IntKind.i64 ↑(BitVec.toNat (BitVec.ofInt 64 (Int.tmod (IntKind.wrap
  IntKind.i64 a11) 1000) ||| BitVec.ofInt 64 1)))))]), AV.href 2 0 0, AV.t (Tree.int IntKind.i16 a20), AV.t (I (IntKind.wrap IntKind.i64 a20)), AV.t (I (Int.tmod (IntKind.wrap
  IntKind.i64 a20) 1000)), AV.href 2 0 1, AV.t (Tree.int IntKind.i16 a21), AV.t (I (IntKind.wrap IntKind.i64 a21)), AV.t (I (Int.tmod (IntKind.wrap IntKind.i64 a21) 1000)), AV.t (I
  (gate (Int.tmod (IntKind.wrap IntKind.i64 a21) 1000) (gate 1 (IntKind.wrap IntKind.i64 ↑(BitVec.toNat (BitVec.ofInt 64 (Int.tmod (IntKind.wrap IntKind.i64 a21) 1000) |||
  BitVec.ofInt 64 1)))))), AV.t (Tree.agg [I (Int.tmod (IntKind.wrap IntKind.i64 a20) 1000), I (gate (Int.tmod (IntKind.wrap IntKind.i64 a21) 1000) (gate 1 (IntKind.wrap IntKind.i64
  ↑(BitVec.toNat (BitVec.ofInt 64 (Int.tmod (IntKind.wrap IntKind.i64 a21) 1000) ||| BitVec.ofInt 64 1)))))]), AV.t (Tree.tup [Tree.agg [I (Tree.toInt (List.headD (Tree.cs
  (List.headD (Tree.tupl y) (Tree.bool false))) (Tree.bool false))), I (Tree.toInt (List.headD (List.tail (Tree.cs (List.headD (Tree.tupl y) (Tree.bool false)))) (Tree.bool
  false)))], I (Tree.toInt (List.headD (List.tail (Tree.tupl y)) (Tree.bool false)))]), AV.t (Tree.agg [I (Int.tmod (IntKind.wrap IntKind.i64 a00) 1000), I (gate (Int.tmod
  (IntKind.wrap IntKind.i64 a01) 1000) (gate 1 (IntKind.wrap IntKind.i64 ↑(BitVec.toNat (BitVec.ofInt 64 (Int.tmod (IntKind.wrap IntKind.i64 a01) 1000) ||| BitVec.ofInt 64 1)))))]),
  AV.t (Tree.agg [I (Int.tmod (IntKind.wrap IntKind.i64 a10) 1000), I (gate (Int.tmod (IntKind.wrap IntKind.i64 a11) 1000) (gate 1 (IntKind.wrap IntKind.i64 ↑(BitVec.toNat
  (BitVec.ofInt 64 (Int.tmod (IntKind.wrap IntKind.i64 a11) 1000) ||| BitVec.ofInt 64 1)))))]), AV.t (Tree.tup [Tree.agg [I (Tree.toInt (List.headD (Tree.cs (List.headD (Tree.tupl
  y) (Tree.bool false))) (Tree.bool false))), I (Tree.toInt (List.headD (List.tail (Tree.cs (List.headD (Tree.tupl y) (Tree.bool false)))) (Tree.bool false)))], I (Tree.toInt
  (List.headD (List.tail (Tree.tupl y)) (Tree.bool false)))]), AV.t (Tree.agg [I (Tree.toInt (List.headD (Tree.cs (List.headD (Tree.tupl y) (Tree.bool false))) (Tree.bool false))),
  I (Tree.toInt (List.headD (List.tail (Tree.cs (List.headD (Tree.tupl y) (Tree.bool false)))) (Tree.bool false)))]), AV.t (I (Tree.toInt (List.headD (List.tail (Tree.tupl y))
  (Tree.bool false)))), AV.t (Tree.tup [Tree.agg [I (Tree.toInt (List.headD (Tree.cs (List.headD (Tree.tupl y_1) (Tree.bool false))) (Tree.bool false))), I (Tree.toInt (List.headD
  (List.tail (Tree.cs (List.headD (Tree.tupl y_1) (Tree.bool false)))) (Tree.bool false)))], I (Tree.toInt (List.headD (List.tail (Tree.tupl y_1)) (Tree.bool false)))]), AV.t
  (Tree.agg [I (Int.tmod (IntKind.wrap IntKind.i64 a10) 1000), I (gate (Int.tmod (IntKind.wrap IntKind.i64 a11) 1000) (gate 1 (IntKind.wrap IntKind.i64 ↑(BitVec.toNat (BitVec.ofInt
  64 (Int.tmod (IntKind.wrap IntKind.i64 a11) 1000) ||| BitVec.ofInt 64 1)))))]), AV.t (Tree.agg [I (Int.tmod (IntKind.wrap IntKind.i64 a00) 1000), I (gate (Int.tmod (IntKind.wrap
  IntKind.i64 a01) 1000) (gate 1 (IntKind.wrap IntKind.i64 ↑(BitVec.toNat (BitVec.ofInt 64 (Int.tmod (IntKind.wrap IntKind.i64 a01) 1000) ||| BitVec.ofInt 64 1)))))]), AV.t
  (Tree.tup [Tree.agg [I (Tree.toInt (List.headD (Tree.cs (List.headD (Tree.tupl y_1) (Tree.bool false))) (Tree.bool false))), I (Tree.toInt (List.headD (List.tail (Tree.cs
  (List.headD (Tree.tupl y_1) (Tree.bool false)))) (Tree.bool false)))], I (Tree.toInt (List.headD (List.tail (Tree.tupl y_1)) (Tree.bool false)))]), AV.t (Tree.agg [I (Tree.toInt
  (List.headD (Tree.cs (List.headD (Tree.tupl y_1) (Tree.bool false))) (Tree.bool false))), I (Tree.toInt (List.headD (List.tail (Tree.cs (List.headD (Tree.tupl y_1) (Tree.bool
  false)))) (Tree.bool false)))]), AV.t (I (Tree.toInt (List.headD (List.tail (Tree.tupl y_1)) (Tree.bool false)))), AV.t (Tree.tup [Tree.agg [I (Tree.toInt (List.headD (Tree.cs
  (List.headD (Tree.tupl y_2) (Tree.bool false))) (Tree.bool false))), I (Tree.toInt (List.headD (List.tail (Tree.cs (List.headD (Tree.tupl y_2) (Tree.bool false)))) (Tree.bool
  false)))], I (Tree.toInt (List.headD (List.tail (Tree.tupl y_2)) (Tree.bool false)))]), AV.t (Tree.agg [I (Int.tmod (IntKind.wrap IntKind.i64 a10) 1000), I (gate (Int.tmod
  (IntKind.wrap IntKind.i64 a11) 1000) (gate 1 (IntKind.wrap IntKind.i64 ↑(BitVec.toNat (BitVec.ofInt 64 (Int.tmod (IntKind.wrap IntKind.i64 a11) 1000) ||| BitVec.ofInt 64 1)))))]),
  AV.t (Tree.agg [I (Int.tmod (IntKind.wrap IntKind.i64 a20) 1000), I (gate (Int.tmod (IntKind.wrap IntKind.i64 a21) 1000) (gate 1 (IntKind.wrap IntKind.i64 ↑(BitVec.toNat
  (BitVec.ofInt 64 (Int.tmod (IntKind.wrap IntKind.i64 a21) 1000) ||| BitVec.ofInt 64 1)))))]), AV.t (Tree.tup [Tree.agg [I (Tree.toInt (List.headD (Tree.cs (List.headD (Tree.tupl
  y_2) (Tree.bool false))) (Tree.bool false))), I (Tree.toInt (List.headD (List.tail (Tree.cs (List.headD (Tree.tupl y_2) (Tree.bool false)))) (Tree.bool false)))], I (Tree.toInt
  (List.headD (List.tail (Tree.tupl y_2)) (Tree.bool false)))]), AV.t (Tree.agg [I (Tree.toInt (List.headD (Tree.cs (List.headD (Tree.tupl y_2) (Tree.bool false))) (Tree.bool
  false))), I (Tree.toInt (List.headD (List.tail (Tree.cs (List.headD (Tree.tupl y_2) (Tree.bool false)))) (Tree.bool false)))]), AV.t (I (Tree.toInt (List.headD (List.tail
  (Tree.tupl y_2)) (Tree.bool false)))), AV.t (Tree.tup [Tree.agg [I (Tree.toInt (List.headD (Tree.cs (List.headD (Tree.tupl y_3) (Tree.bool false))) (Tree.bool false))), I
  (Tree.toInt (List.headD (List.tail (Tree.cs (List.headD (Tree.tupl y_3) (Tree.bool false)))) (Tree.bool false)))], I (Tree.toInt (List.headD (List.tail (Tree.tupl y_3)) (Tree.bool
  false)))]), AV.t (Tree.agg [I (Tree.toInt (List.headD (Tree.cs (List.headD (Tree.tupl y) (Tree.bool false))) (Tree.bool false))), I (Tree.toInt (List.headD (List.tail (Tree.cs
  (List.headD (Tree.tupl y) (Tree.bool false)))) (Tree.bool false)))]), AV.t (Tree.agg [I (Int.tmod (IntKind.wrap IntKind.i64 a20) 1000), I (gate (Int.tmod (IntKind.wrap IntKind.i64
  a21) 1000) (gate 1 (IntKind.wrap IntKind.i64 ↑(BitVec.toNat (BitVec.ofInt 64 (Int.tmod (IntKind.wrap IntKind.i64 a21) 1000) ||| BitVec.ofInt 64 1)))))]), AV.t (Tree.tup [Tree.agg
  [I (Tree.toInt (List.headD (Tree.cs (List.headD (Tree.tupl y_3) (Tree.bool false))) (Tree.bool false))), I (Tree.toInt (List.headD (List.tail (Tree.cs (List.headD (Tree.tupl y_3)
  (Tree.bool false)))) (Tree.bool false)))], I (Tree.toInt (List.headD (List.tail (Tree.tupl y_3)) (Tree.bool false)))]), AV.t (Tree.agg [I (Tree.toInt (List.headD (Tree.cs
  (List.headD (Tree.tupl y_3) (Tree.bool false))) (Tree.bool false))), I (Tree.toInt (List.headD (List.tail (Tree.cs (List.headD (Tree.tupl y_3) (Tree.bool false)))) (Tree.bool
  false)))]), AV.t (I (Tree.toInt (List.headD (List.tail (Tree.tupl y_3)) (Tree.bool false)))), AV.t (Tree.tup [Tree.agg [I (Tree.toInt (List.headD (Tree.cs (List.headD (Tree.tupl
  y_4) (Tree.bool false))) (Tree.bool false))), I (Tree.toInt (List.headD (List.tail (Tree.cs (List.headD (Tree.tupl y_4) (Tree.bool false)))) (Tree.bool false)))], I (Tree.toInt
  (List.headD (List.tail (Tree.tupl y_4)) (Tree.bool false)))]), AV.t (Tree.agg [I (Int.tmod (IntKind.wrap IntKind.i64 a00) 1000), I (gate (Int.tmod (IntKind.wrap IntKind.i64 a01)
  1000) (gate 1 (IntKind.wrap IntKind.i64 ↑(BitVec.toNat (BitVec.ofInt 64 (Int.tmod (IntKind.wrap IntKind.i64 a01) 1000) ||| BitVec.ofInt 64 1)))))]), AV.t (Tree.agg [I (Tree.toInt
  (List.headD (Tree.cs (List.headD (Tree.tupl y_2) (Tree.bool false))) (Tree.bool false))), I (Tree.toInt (List.headD (List.tail (Tree.cs (List.headD (Tree.tupl y_2) (Tree.bool
  false)))) (Tree.bool false)))]), AV.t (Tree.tup [Tree.agg [I (Tree.toInt (List.headD (Tree.cs (List.headD (Tree.tupl y_4) (Tree.bool false))) (Tree.bool false))), I (Tree.toInt
  (List.headD (List.tail (Tree.cs (List.headD (Tree.tupl y_4) (Tree.bool false)))) (Tree.bool false)))], I (Tree.toInt (List.headD (List.tail (Tree.tupl y_4)) (Tree.bool false)))]),
  AV.t (Tree.agg [I (Tree.toInt (List.headD (Tree.cs (List.headD (Tree.tupl y_4) (Tree.bool false))) (Tree.bool false))), I (Tree.toInt (List.headD (List.tail (Tree.cs (List.headD
  (Tree.tupl y_4) (Tree.bool false)))) (Tree.bool false)))]), AV.t (I (Tree.toInt (List.headD (List.tail (Tree.tupl y_4)) (Tree.bool false)))), AV.t (I (Tree.toInt (List.headD
  (List.tail (Tree.tupl y)) (Tree.bool false)))), AV.t (Tree.bool (Tree.toInt (List.headD (List.tail (Tree.tupl y)) (Tree.bool false)) != 0)), AV.t (Tree.bool false), AV.t (I
  (Tree.toInt (List.headD (List.tail (Tree.tupl y_1)) (Tree.bool false)))), AV.t (Tree.bool (Tree.toInt (List.headD (List.tail (Tree.tupl y_1)) (Tree.bool false)) != 0)), AV.t
  (Tree.bool (Tree.toInt (List.headD (List.tail (Tree.tupl y_1)) (Tree.bool false)) != 0)), AV.t (Tree.bool false), AV.t (I (Tree.toInt (List.headD (List.tail (Tree.tupl y_2))
  (Tree.bool false)))), AV.t (Tree.bool (Tree.toInt (List.headD (List.tail (Tree.tupl y_2)) (Tree.bool false)) != 0)), AV.t (Tree.bool (Tree.toInt (List.headD (List.tail (Tree.tupl
  y_2)) (Tree.bool false)) != 0)), AV.t (Tree.bool false), AV.t (I (Tree.toInt (List.headD (List.tail (Tree.tupl y_3)) (Tree.bool false)))), AV.t (Tree.bool (Tree.toInt (List.headD
  (List.tail (Tree.tupl y_3)) (Tree.bool false)) != 0)), AV.t (Tree.bool (Tree.toInt (List.headD (List.tail (Tree.tupl y_3)) (Tree.bool false)) != 0)), AV.t (Tree.bool false), AV.t
  (I (Tree.toInt (List.headD (List.tail (Tree.tupl y_4)) (Tree.bool false)))), AV.t (Tree.bool (Tree.toInt (List.headD (List.tail (Tree.tupl y_4)) (Tree.bool false)) != 0)), AV.t
  (Tree.bool (Tree.toInt (List.headD (List.tail (Tree.tupl y_4)) (Tree.bool false)) != 0)), AV.t (Tree.bool true), AV.undef, AV.undef, AV.undef, AV.t (Tree.bool true), AV.t
  (Tree.bool true), AV.undef, AV.undef, AV.undef, AV.t (Tree.bool true), AV.undef, AV.undef, AV.undef, AV.undef, AV.undef, AV.undef, AV.undef, AV.undef, AV.undef, AV.undef,
  AV.undef, AV.undef, AV.undef, AV.undef, AV.undef, AV.undef, AV.undef, AV.undef, AV.undef, AV.undef, AV.undef, AV.undef, AV.undef, AV.undef, AV.undef, AV.undef, AV.undef, AV.undef,
  AV.undef, AV.undef, AV.undef, AV.undef, AV.undef, AV.undef, AV.undef, AV.undef, AV.undef, AV.undef, AV.undef, AV.undef, AV.undef, AV.undef, AV.undef, AV.undef, AV.undef, AV.undef,
  AV.undef, AV.undef, AV.undef, AV.undef, AV.undef, AV.undef, AV.undef, AV.undef, AV.undef, AV.undef, AV.undef, AV.undef, AV.undef, AV.undef, AV.undef, AV.undef, AV.undef, AV.undef,
  AV.undef, AV.undef, AV.undef, AV.undef, AV.undef, AV.undef, AV.undef, AV.undef, AV.undef, AV.undef, AV.undef, AV.undef, AV.undef, AV.undef, AV.undef, AV.undef, AV.undef, AV.undef,
  AV.undef, AV.undef, AV.undef, AV.undef, AV.undef, AV.undef, AV.undef, AV.undef, AV.undef, AV.undef, AV.undef, AV.undef, AV.undef, AV.undef, AV.undef, AV.undef, AV.undef, AV.undef,
  AV.undef, AV.undef, AV.undef, AV.undef, AV.undef, AV.undef, AV.undef, AV.undef] [HObj.tre (Sh.agg [Sh.int IntKind.i16, Sh.int IntKind.i16]) [Tree.agg [Tree.int IntKind.i16 a00,
  Tree.int IntKind.i16 a01]], HObj.tre (Sh.agg [Sh.int IntKind.i16, Sh.int IntKind.i16]) [Tree.agg [Tree.int IntKind.i16 a10, Tree.int IntKind.i16 a11]], HObj.tre (Sh.agg [Sh.int
  IntKind.i16, Sh.int IntKind.i16]) [Tree.agg [Tree.int IntKind.i16 a20, Tree.int IntKind.i16 a21]], HObj.tre (Sh.agg [Sh.int IntKind.i64, Sh.int IntKind.i64]) [Tree.agg [I
  (Int.tmod (IntKind.wrap IntKind.i64 a00) 1000), I (gate (Int.tmod (IntKind.wrap IntKind.i64 a01) 1000) (gate 1 (IntKind.wrap IntKind.i64 ↑(BitVec.toNat (BitVec.ofInt 64 (Int.tmod
  (IntKind.wrap IntKind.i64 a01) 1000) ||| BitVec.ofInt 64 1)))))]], HObj.tre (Sh.agg [Sh.int IntKind.i64, Sh.int IntKind.i64]) [Tree.agg [I (Int.tmod (IntKind.wrap IntKind.i64 a10)
  1000), I (gate (Int.tmod (IntKind.wrap IntKind.i64 a11) 1000) (gate 1 (IntKind.wrap IntKind.i64 ↑(BitVec.toNat (BitVec.ofInt 64 (Int.tmod (IntKind.wrap IntKind.i64 a11) 1000) |||
  BitVec.ofInt 64 1)))))]], HObj.tre (Sh.agg [Sh.int IntKind.i64, Sh.int IntKind.i64]) [Tree.agg [I (Int.tmod (IntKind.wrap IntKind.i64 a20) 1000), I (gate (Int.tmod (IntKind.wrap
  IntKind.i64 a21) 1000) (gate 1 (IntKind.wrap IntKind.i64 ↑(BitVec.toNat (BitVec.ofInt 64 (Int.tmod (IntKind.wrap IntKind.i64 a21) 1000) ||| BitVec.ofInt 64 1)))))]], HObj.tre
  (Sh.agg [Sh.int IntKind.i64, Sh.int IntKind.i64]) [Tree.agg [I (Tree.toInt (List.headD (Tree.cs (List.headD (Tree.tupl y) (Tree.bool false))) (Tree.bool false))), I (Tree.toInt
  (List.headD (List.tail (Tree.cs (List.headD (Tree.tupl y) (Tree.bool false)))) (Tree.bool false)))]], HObj.tre (Sh.agg [Sh.int IntKind.i64, Sh.int IntKind.i64]) [Tree.agg [I
  (Tree.toInt (List.headD (Tree.cs (List.headD (Tree.tupl y_1) (Tree.bool false))) (Tree.bool false))), I (Tree.toInt (List.headD (List.tail (Tree.cs (List.headD (Tree.tupl y_1)
  (Tree.bool false)))) (Tree.bool false)))]], HObj.tre (Sh.agg [Sh.int IntKind.i64, Sh.int IntKind.i64]) [Tree.agg [I (Tree.toInt (List.headD (Tree.cs (List.headD (Tree.tupl y_2)
  (Tree.bool false))) (Tree.bool false))), I (Tree.toInt (List.headD (List.tail (Tree.cs (List.headD (Tree.tupl y_2) (Tree.bool false)))) (Tree.bool false)))]], HObj.tre (Sh.agg
  [Sh.int IntKind.i64, Sh.int IntKind.i64]) [Tree.agg [I (Tree.toInt (List.headD (Tree.cs (List.headD (Tree.tupl y_3) (Tree.bool false))) (Tree.bool false))), I (Tree.toInt
  (List.headD (List.tail (Tree.cs (List.headD (Tree.tupl y_3) (Tree.bool false)))) (Tree.bool false)))]], HObj.tre (Sh.agg [Sh.int IntKind.i64, Sh.int IntKind.i64]) [Tree.agg [I
  (Tree.toInt (List.headD (Tree.cs (List.headD (Tree.tupl y_4) (Tree.bool false))) (Tree.bool false))), I (Tree.toInt (List.headD (List.tail (Tree.cs (List.headD (Tree.tupl y_4)
  (Tree.bool false)))) (Tree.bool false)))]]]) else bif !(Tree.toInt (List.headD (Tree.cs (List.headD (Tree.tupl y) (Tree.bool false))) (Tree.bool false)) == Tree.toInt (List.headD
  (Tree.cs (List.headD (Tree.tupl y_1) (Tree.bool false))) (Tree.bool false)) && (Tree.toInt (List.headD (List.tail (Tree.cs (List.headD (Tree.tupl y) (Tree.bool false))))
  (Tree.bool false)) == Tree.toInt (List.headD (List.tail (Tree.cs (List.headD (Tree.tupl y_1) (Tree.bool false)))) (Tree.bool false)) && true)) then K IExit.ret (St.mk [AV.t
  (Tree.agg [Tree.int IntKind.i16 a00, Tree.int IntKind.i16 a01]), AV.t (Tree.agg [Tree.int IntKind.i16 a10, Tree.int IntKind.i16 a11]), AV.t (Tree.agg [Tree.int IntKind.i16 a20,
  Tree.int IntKind.i16 a21]), AV.href 0 0 0, AV.href 1 0 0, AV.href 2 0 0, AV.t (Tree.bool false), AV.href 3 0 0, AV.href 4 0 0, AV.href 5 0 0, AV.href 6 0 0, AV.t (I (Tree.toInt
  (List.headD (List.tail (Tree.tupl y)) (Tree.bool false)))), AV.href 7 0 0, AV.t (I (Tree.toInt (List.headD (List.tail (Tree.tupl y_1)) (Tree.bool false)))), AV.href 8 0 0, AV.t (I
  (Tree.toInt (List.headD (List.tail (Tree.tupl y_2)) (Tree.bool false)))), AV.href 9 0 0, AV.t (I (Tree.toInt (List.headD (List.tail (Tree.tupl y_3)) (Tree.bool false)))), AV.href
  10 0 0, AV.t (I (Tree.toInt (List.headD (List.tail (Tree.tupl y_4)) (Tree.bool false)))), AV.undef, AV.undef, AV.undef, AV.undef, AV.undef, AV.undef, AV.undef, AV.undef, AV.undef,
  AV.undef, AV.undef, AV.undef, AV.undef, AV.undef, AV.undef, AV.undef, AV.href 0 0 0, AV.t (Tree.int IntKind.i16 a00), AV.t (I (IntKind.wrap IntKind.i64 a00)), AV.t (I (Int.tmod
  (IntKind.wrap IntKind.i64 a00) 1000)), AV.href 0 0 1, AV.t (Tree.int IntKind.i16 a01), AV.t (I (IntKind.wrap IntKind.i64 a01)), AV.t (I (Int.tmod (IntKind.wrap IntKind.i64 a01)
  1000)), AV.t (I (gate (Int.tmod (IntKind.wrap IntKind.i64 a01) 1000) (gate 1 (IntKind.wrap IntKind.i64 ↑(BitVec.toNat (BitVec.ofInt 64 (Int.tmod (IntKind.wrap IntKind.i64 a01)
  1000) ||| BitVec.ofInt 64 1)))))), AV.t (Tree.agg [I (Int.tmod (IntKind.wrap IntKind.i64 a00) 1000), I (gate (Int.tmod (IntKind.wrap IntKind.i64 a01) 1000) (gate 1 (IntKind.wrap
  IntKind.i64 ↑(BitVec.toNat (BitVec.ofInt 64 (Int.tmod (IntKind.wrap IntKind.i64 a01) 1000) ||| BitVec.ofInt 64 1)))))]), AV.href 1 0 0, AV.t (Tree.int IntKind.i16 a10), AV.t (I
  (IntKind.wrap IntKind.i64 a10)), AV.t (I (Int.tmod (IntKind.wrap IntKind.i64 a10) 1000)), AV.href 1 0 1, AV.t (Tree.int IntKind.i16 a11), AV.t (I (IntKind.wrap IntKind.i64 a11)),
  AV.t (I (Int.tmod (IntKind.wrap IntKind.i64 a11) 1000)), AV.t (I (gate (Int.tmod (IntKind.wrap IntKind.i64 a11) 1000) (gate 1 (IntKind.wrap IntKind.i64 ↑(BitVec.toNat
  (BitVec.ofInt 64 (Int.tmod (IntKind.wrap IntKind.i64 a11) 1000) ||| BitVec.ofInt 64 1)))))), AV.t (Tree.agg [I (Int.tmod (IntKind.wrap IntKind.i64 a10) 1000), I (gate (Int.tmod
  (IntKind.wrap IntKind.i64 a11) 1000) (gate 1 (IntKind.wrap IntKind.i64 ↑(BitVec.toNat (BitVec.ofInt 64 (Int.tmod (IntKind.wrap IntKind.i64 a11) 1000) ||| BitVec.ofInt 64 1)))))]),
  AV.href 2 0 0, AV.t (Tree.int IntKind.i16 a20), AV.t (I (IntKind.wrap IntKind.i64 a20)), AV.t (I (Int.tmod (IntKind.wrap IntKind.i64 a20) 1000)), AV.href 2 0 1, AV.t (Tree.int
  IntKind.i16 a21), AV.t (I (IntKind.wrap IntKind.i64 a21)), AV.t (I (Int.tmod (IntKind.wrap IntKind.i64 a21) 1000)), AV.t (I (gate (Int.tmod (IntKind.wrap IntKind.i64 a21) 1000)
  (gate 1 (IntKind.wrap IntKind.i64 ↑(BitVec.toNat (BitVec.ofInt 64 (Int.tmod (IntKind.wrap IntKind.i64 a21) 1000) ||| BitVec.ofInt 64 1)))))), AV.t (Tree.agg [I (Int.tmod
  (IntKind.wrap IntKind.i64 a20) 1000), I (gate (Int.tmod (IntKind.wrap IntKind.i64 a21) 1000) (gate 1 (IntKind.wrap IntKind.i64 ↑(BitVec.toNat (BitVec.ofInt 64 (Int.tmod
  (IntKind.wrap IntKind.i64 a21) 1000) ||| BitVec.ofInt 64 1)))))]), AV.t (Tree.tup [Tree.agg [I (Tree.toInt (List.headD (Tree.cs (List.headD (Tree.tupl y) (Tree.bool false)))
  (Tree.bool false))), I (Tree.toInt (List.headD (List.tail (Tree.cs (List.headD (Tree.tupl y) (Tree.bool false)))) (Tree.bool false)))], I (Tree.toInt (List.headD (List.tail
  (Tree.tupl y)) (Tree.bool false)))]), AV.t (Tree.agg [I (Int.tmod (IntKind.wrap IntKind.i64 a00) 1000), I (gate (Int.tmod (IntKind.wrap IntKind.i64 a01) 1000) (gate 1
  (IntKind.wrap IntKind.i64 ↑(BitVec.toNat (BitVec.ofInt 64 (Int.tmod (IntKind.wrap IntKind.i64 a01) 1000) ||| BitVec.ofInt 64 1)))))]), AV.t (Tree.agg [I (Int.tmod (IntKind.wrap
  IntKind.i64 a10) 1000), I (gate (Int.tmod (IntKind.wrap IntKind.i64 a11) 1000) (gate 1 (IntKind.wrap IntKind.i64 ↑(BitVec.toNat (BitVec.ofInt 64 (Int.tmod (IntKind.wrap
  IntKind.i64 a11) 1000) ||| BitVec.ofInt 64 1)))))]), AV.t (Tree.tup [Tree.agg [I (Tree.toInt (List.headD (Tree.cs (List.headD (Tree.tupl y) (Tree.bool false))) (Tree.bool
  false))), I (Tree.toInt (List.headD (List.tail (Tree.cs (List.headD (Tree.tupl y) (Tree.bool false)))) (Tree.bool false)))], I (Tree.toInt (List.headD (List.tail (Tree.tupl y))
  (Tree.bool false)))]), AV.t (Tree.agg [I (Tree.toInt (List.headD (Tree.cs (List.headD (Tree.tupl y) (Tree.bool false))) (Tree.bool false))), I (Tree.toInt (List.headD (List.tail
  (Tree.cs (List.headD (Tree.tupl y) (Tree.bool false)))) (Tree.bool false)))]), AV.t (I (Tree.toInt (List.headD (List.tail (Tree.tupl y)) (Tree.bool false)))), AV.t (Tree.tup
  [Tree.agg [I (Tree.toInt (List.headD (Tree.cs (List.headD (Tree.tupl y_1) (Tree.bool false))) (Tree.bool false))), I (Tree.toInt (List.headD (List.tail (Tree.cs (List.headD
  (Tree.tupl y_1) (Tree.bool false)))) (Tree.bool false)))], I (Tree.toInt (List.headD (List.tail (Tree.tupl y_1)) (Tree.bool false)))]), AV.t (Tree.agg [I (Int.tmod (IntKind.wrap
  IntKind.i64 a10) 1000), I (gate (Int.tmod (IntKind.wrap IntKind.i64 a11) 1000) (gate 1 (IntKind.wrap IntKind.i64 ↑(BitVec.toNat (BitVec.ofInt 64 (Int.tmod (IntKind.wrap
  IntKind.i64 a11) 1000) ||| BitVec.ofInt 64 1)))))]), AV.t (Tree.agg [I (Int.tmod (IntKind.wrap IntKind.i64 a00) 1000), I (gate (Int.tmod (IntKind.wrap IntKind.i64 a01) 1000) (gate
  1 (IntKind.wrap IntKind.i64 ↑(BitVec.toNat (BitVec.ofInt 64 (Int.tmod (IntKind.wrap IntKind.i64 a01) 1000) ||| BitVec.ofInt 64 1)))))]), AV.t (Tree.tup [Tree.agg [I (Tree.toInt
  (List.headD (Tree.cs (List.headD (Tree.tupl y_1) (Tree.bool false))) (Tree.bool false))), I (Tree.toInt (List.headD (List.tail (Tree.cs (List.headD (Tree.tupl y_1) (Tree.bool
  false)))) (Tree.bool false)))], I (Tree.toInt (List.headD (List.tail (Tree.tupl y_1)) (Tree.bool false)))]), AV.t (Tree.agg [I (Tree.toInt (List.headD (Tree.cs (List.headD
  (Tree.tupl y_1) (Tree.bool false))) (Tree.bool false))), I (Tree.toInt (List.headD (List.tail (Tree.cs (List.headD (Tree.tupl y_1) (Tree.bool false)))) (Tree.bool false)))]), AV.t
  (I (Tree.toInt (List.headD (List.tail (Tree.tupl y_1)) (Tree.bool false)))), AV.t (Tree.tup [Tree.agg [I (Tree.toInt (List.headD (Tree.cs (List.headD (Tree.tupl y_2) (Tree.bool
  false))) (Tree.bool false))), I (Tree.toInt (List.headD (List.tail (Tree.cs (List.headD (Tree.tupl y_2) (Tree.bool false)))) (Tree.bool false)))], I (Tree.toInt (List.headD
  (List.tail (Tree.tupl y_2)) (Tree.bool false)))]), AV.t (Tree.agg [I (Int.tmod (IntKind.wrap IntKind.i64 a10) 1000), I (gate (Int.tmod (IntKind.wrap IntKind.i64 a11) 1000) (gate 1
  (IntKind.wrap IntKind.i64 ↑(BitVec.toNat (BitVec.ofInt 64 (Int.tmod (IntKind.wrap IntKind.i64 a11) 1000) ||| BitVec.ofInt 64 1)))))]), AV.t (Tree.agg [I (Int.tmod (IntKind.wrap
  IntKind.i64 a20) 1000), I (gate (Int.tmod (IntKind.wrap IntKind.i64 a21) 1000) (gate 1 (IntKind.wrap IntKind.i64 ↑(BitVec.toNat (BitVec.ofInt 64 (Int.tmod (IntKind.wrap
  IntKind.i64 a21) 1000) ||| BitVec.ofInt 64 1)))))]), AV.t (Tree.tup [Tree.agg [I (Tree.toInt (List.headD (Tree.cs (List.headD (Tree.tupl y_2) (Tree.bool false))) (Tree.bool
  false))), I (Tree.toInt (List.headD (List.tail (Tree.cs (List.headD (Tree.tupl y_2) (Tree.bool false)))) (Tree.bool false)))], I (Tree.toInt (List.headD (List.tail (Tree.tupl
  y_2)) (Tree.bool false)))]), AV.t (Tree.agg [I (Tree.toInt (List.headD (Tree.cs (List.headD (Tree.tupl y_2) (Tree.bool false))) (Tree.bool false))), I (Tree.toInt (List.headD
  (List.tail (Tree.cs (List.headD (Tree.tupl y_2) (Tree.bool false)))) (Tree.bool false)))]), AV.t (I (Tree.toInt (List.headD (List.tail (Tree.tupl y_2)) (Tree.bool false)))), AV.t
  (Tree.tup [Tree.agg [I (Tree.toInt (List.headD (Tree.cs (List.headD (Tree.tupl y_3) (Tree.bool false))) (Tree.bool false))), I (Tree.toInt (List.headD (List.tail (Tree.cs
  (List.headD (Tree.tupl y_3) (Tree.bool false)))) (Tree.bool false)))], I (Tree.toInt (List.headD (List.tail (Tree.tupl y_3)) (Tree.bool false)))]), AV.t (Tree.agg [I (Tree.toInt
  (List.headD (Tree.cs (List.headD (Tree.tupl y) (Tree.bool false))) (Tree.bool false))), I (Tree.toInt (List.headD (List.tail (Tree.cs (List.headD (Tree.tupl y) (Tree.bool
  false)))) (Tree.bool false)))]), AV.t (Tree.agg [I (Int.tmod (IntKind.wrap IntKind.i64 a20) 1000), I (gate (Int.tmod (IntKind.wrap IntKind.i64 a21) 1000) (gate 1 (IntKind.wrap
  IntKind.i64 ↑(BitVec.toNat (BitVec.ofInt 64 (Int.tmod (IntKind.wrap IntKind.i64 a21) 1000) ||| BitVec.ofInt 64 1)))))]), AV.t (Tree.tup [Tree.agg [I (Tree.toInt (List.headD
  (Tree.cs (List.headD (Tree.tupl y_3) (Tree.bool false))) (Tree.bool false))), I (Tree.toInt (List.headD (List.tail (Tree.cs (List.headD (Tree.tupl y_3) (Tree.bool false))))
  (Tree.bool false)))], I (Tree.toInt (List.headD (List.tail (Tree.tupl y_3)) (Tree.bool false)))]), AV.t (Tree.agg [I (Tree.toInt (List.headD (Tree.cs (List.headD (Tree.tupl y_3)
  (Tree.bool false))) (Tree.bool false))), I (Tree.toInt (List.headD (List.tail (Tree.cs (List.headD (Tree.tupl y_3) (Tree.bool false)))) (Tree.bool false)))]), AV.t (I (Tree.toInt
  (List.headD (List.tail (Tree.tupl y_3)) (Tree.bool false)))), AV.t (Tree.tup [Tree.agg [I (Tree.toInt (List.headD (Tree.cs (List.headD (Tree.tupl y_4) (Tree.bool false)))
  (Tree.bool false))), I (Tree.toInt (List.headD (List.tail (Tree.cs (List.headD (Tree.tupl y_4) (Tree.bool false)))) (Tree.bool false)))], I (Tree.toInt (List.headD (List.tail
  (Tree.tupl y_4)) (Tree.bool false)))]), AV.t (Tree.agg [I (Int.tmod (IntKind.wrap IntKind.i64 a00) 1000), I (gate (Int.tmod (IntKind.wrap IntKind.i64 a01) 1000) (gate 1
  (IntKind.wrap IntKind.i64 ↑(BitVec.toNat (BitVec.ofInt 64 (Int.tmod (IntKind.wrap IntKind.i64 a01) 1000) ||| BitVec.ofInt 64 1)))))]), AV.t (Tree.agg [I (Tree.toInt (List.headD
  (Tree.cs (List.headD (Tree.tupl y_2) (Tree.bool false))) (Tree.bool false))), I (Tree.toInt (List.headD (List.tail (Tree.cs (List.headD (Tree.tupl y_2) (Tree.bool false))))
  (Tree.bool false)))]), AV.t (Tree.tup [Tree.agg [I (Tree.toInt (List.headD (Tree.cs (List.headD (Tree.tupl y_4) (Tree.bool false))) (Tree.bool false))), I (Tree.toInt (List.headD
  (List.tail (Tree.cs (List.headD (Tree.tupl y_4) (Tree.bool false)))) (Tree.bool false)))], I (Tree.toInt (List.headD (List.tail (Tree.tupl y_4)) (Tree.bool false)))]), AV.t
  (Tree.agg [I (Tree.toInt (List.headD (Tree.cs (List.headD (Tree.tupl y_4) (Tree.bool false))) (Tree.bool false))), I (Tree.toInt (List.headD (List.tail (Tree.cs (List.headD
  (Tree.tupl y_4) (Tree.bool false)))) (Tree.bool false)))]), AV.t (I (Tree.toInt (List.headD (List.tail (Tree.tupl y_4)) (Tree.bool false)))), AV.t (I (Tree.toInt (List.headD
  (List.tail (Tree.tupl y)) (Tree.bool false)))), AV.t (Tree.bool (Tree.toInt (List.headD (List.tail (Tree.tupl y)) (Tree.bool false)) != 0)), AV.t (Tree.bool false), AV.t (I
  (Tree.toInt (List.headD (List.tail (Tree.tupl y_1)) (Tree.bool false)))), AV.t (Tree.bool (Tree.toInt (List.headD (List.tail (Tree.tupl y_1)) (Tree.bool false)) != 0)), AV.t
  (Tree.bool (Tree.toInt (List.headD (List.tail (Tree.tupl y_1)) (Tree.bool false)) != 0)), AV.t (Tree.bool false), AV.t (I (Tree.toInt (List.headD (List.tail (Tree.tupl y_2))
  (Tree.bool false)))), AV.t (Tree.bool (Tree.toInt (List.headD (List.tail (Tree.tupl y_2)) (Tree.bool false)) != 0)), AV.t (Tree.bool (Tree.toInt (List.headD (List.tail (Tree.tupl
  y_2)) (Tree.bool false)) != 0)), AV.t (Tree.bool false), AV.t (I (Tree.toInt (List.headD (List.tail (Tree.tupl y_3)) (Tree.bool false)))), AV.t (Tree.bool (Tree.toInt (List.headD
  (List.tail (Tree.tupl y_3)) (Tree.bool false)) != 0)), AV.t (Tree.bool (Tree.toInt (List.headD (List.tail (Tree.tupl y_3)) (Tree.bool false)) != 0)), AV.t (Tree.bool false), AV.t
  (I (Tree.toInt (List.headD (List.tail (Tree.tupl y_4)) (Tree.bool false)))), AV.t (Tree.bool (Tree.toInt (List.headD (List.tail (Tree.tupl y_4)) (Tree.bool false)) != 0)), AV.t
  (Tree.bool (Tree.toInt (List.headD (List.tail (Tree.tupl y_4)) (Tree.bool false)) != 0)), AV.t (Tree.bool false), AV.t (Tree.agg [I (Tree.toInt (List.headD (Tree.cs (List.headD
  (Tree.tupl y) (Tree.bool false))) (Tree.bool false))), I (Tree.toInt (List.headD (List.tail (Tree.cs (List.headD (Tree.tupl y) (Tree.bool false)))) (Tree.bool false)))]), AV.t
  (Tree.agg [I (Tree.toInt (List.headD (Tree.cs (List.headD (Tree.tupl y_1) (Tree.bool false))) (Tree.bool false))), I (Tree.toInt (List.headD (List.tail (Tree.cs (List.headD
  (Tree.tupl y_1) (Tree.bool false)))) (Tree.bool false)))]), AV.t (Tree.bool !(Tree.toInt (List.headD (Tree.cs (List.headD (Tree.tupl y) (Tree.bool false))) (Tree.bool false)) ==
  Tree.toInt (List.headD (Tree.cs (List.headD (Tree.tupl y_1) (Tree.bool false))) (Tree.bool false)) && (Tree.toInt (List.headD (List.tail (Tree.cs (List.headD (Tree.tupl y)
  (Tree.bool false)))) (Tree.bool false)) == Tree.toInt (List.headD (List.tail (Tree.cs (List.headD (Tree.tupl y_1) (Tree.bool false)))) (Tree.bool false)) && true))), AV.t
  (Tree.bool !(Tree.toInt (List.headD (Tree.cs (List.headD (Tree.tupl y) (Tree.bool false))) (Tree.bool false)) == Tree.toInt (List.headD (Tree.cs (List.headD (Tree.tupl y_1)
  (Tree.bool false))) (Tree.bool false)) && (Tree.toInt (List.headD (List.tail (Tree.cs (List.headD (Tree.tupl y) (Tree.bool false)))) (Tree.bool false)) == Tree.toInt (List.headD
  (List.tail (Tree.cs (List.headD (Tree.tupl y_1) (Tree.bool false)))) (Tree.bool false)) && true))), AV.t (Tree.bool true), AV.undef, AV.undef, AV.undef, AV.t (Tree.bool true),
  AV.undef, AV.undef, AV.undef, AV.undef, AV.undef, AV.undef, AV.undef, AV.undef, AV.undef, AV.undef, AV.undef, AV.undef, AV.undef, AV.undef, AV.undef, AV.undef, AV.undef, AV.undef,
  AV.undef, AV.undef, AV.undef, AV.undef, AV.undef, AV.undef, AV.undef, AV.undef, AV.undef, AV.undef, AV.undef, AV.undef, AV.undef, AV.undef, AV.undef, AV.undef, AV.undef, AV.undef,
  AV.undef, AV.undef, AV.undef, AV.undef, AV.undef, AV.undef, AV.undef, AV.undef, AV.undef, AV.undef, AV.undef, AV.undef, AV.undef, AV.undef, AV.undef, AV.undef, AV.undef, AV.undef,
  AV.undef, AV.undef, AV.undef, AV.undef, AV.undef, AV.undef, AV.undef, AV.undef, AV.undef, AV.undef, AV.undef, AV.undef, AV.undef, AV.undef, AV.undef, AV.undef, AV.undef, AV.undef,
  AV.undef, AV.undef, AV.undef, AV.undef, AV.undef, AV.undef, AV.undef, AV.undef, AV.undef, AV.undef, AV.undef, AV.undef, AV.undef, AV.undef, AV.undef, AV.undef, AV.undef, AV.undef,
  AV.undef, AV.undef, AV.undef, AV.undef, AV.undef, AV.undef, AV.undef, AV.undef, AV.undef, AV.undef, AV.undef, AV.undef, AV.undef, AV.undef, AV.undef, AV.undef, AV.undef, AV.undef]
  [HObj.tre (Sh.agg [Sh.int IntKind.i16, Sh.int IntKind.i16]) [Tree.agg [Tree.int IntKind.i16 a00, Tree.int IntKind.i16 a01]], HObj.tre (Sh.agg [Sh.int IntKind.i16, Sh.int
  IntKind.i16]) [Tree.agg [Tree.int IntKind.i16 a10, Tree.int IntKind.i16 a11]], HObj.tre (Sh.agg [Sh.int IntKind.i16, Sh.int IntKind.i16]) [Tree.agg [Tree.int IntKind.i16 a20,
  Tree.int IntKind.i16 a21]], HObj.tre (Sh.agg [Sh.int IntKind.i64, Sh.int IntKind.i64]) [Tree.agg [I (Int.tmod (IntKind.wrap IntKind.i64 a00) 1000), I (gate (Int.tmod (IntKind.wrap
  IntKind.i64 a01) 1000) (gate 1 (IntKind.wrap IntKind.i64 ↑(BitVec.toNat (BitVec.ofInt 64 (Int.tmod (IntKind.wrap IntKind.i64 a01) 1000) ||| BitVec.ofInt 64 1)))))]], HObj.tre
  (Sh.agg [Sh.int IntKind.i64, Sh.int IntKind.i64]) [Tree.agg [I (Int.tmod (IntKind.wrap IntKind.i64 a10) 1000), I (gate (Int.tmod (IntKind.wrap IntKind.i64 a11) 1000) (gate 1
  (IntKind.wrap IntKind.i64 ↑(BitVec.toNat (BitVec.ofInt 64 (Int.tmod (IntKind.wrap IntKind.i64 a11) 1000) ||| BitVec.ofInt 64 1)))))]], HObj.tre (Sh.agg [Sh.int IntKind.i64, Sh.int
  IntKind.i64]) [Tree.agg [I (Int.tmod (IntKind.wrap IntKind.i64 a20) 1000), I (gate (Int.tmod (IntKind.wrap IntKind.i64 a21) 1000) (gate 1 (IntKind.wrap IntKind.i64 ↑(BitVec.toNat
  (BitVec.ofInt 64 (Int.tmod (IntKind.wrap IntKind.i64 a21) 1000) ||| BitVec.ofInt 64 1)))))]], HObj.tre (Sh.agg [Sh.int IntKind.i64, Sh.int IntKind.i64]) [Tree.agg [I (Tree.toInt
  (List.headD (Tree.cs (List.headD (Tree.tupl y) (Tree.bool false))) (Tree.bool false))), I (Tree.toInt (List.headD (List.tail (Tree.cs (List.headD (Tree.tupl y) (Tree.bool
  false)))) (Tree.bool false)))]], HObj.tre (Sh.agg [Sh.int IntKind.i64, Sh.int IntKind.i64]) [Tree.agg [I (Tree.toInt (List.headD (Tree.cs (List.headD (Tree.tupl y_1) (Tree.bool
  false))) (Tree.bool false))), I (Tree.toInt (List.headD (List.tail (Tree.cs (List.headD (Tree.tupl y_1) (Tree.bool false)))) (Tree.bool false)))]], HObj.tre (Sh.agg [Sh.int
  IntKind.i64, Sh.int IntKind.i64]) [Tree.agg [I (Tree.toInt (List.headD (Tree.cs (List.headD (Tree.tupl y_2) (Tree.bool false))) (Tree.bool false))), I (Tree.toInt (List.headD
  (List.tail (Tree.cs (List.headD (Tree.tupl y_2) (Tree.bool false)))) (Tree.bool false)))]], HObj.tre (Sh.agg [Sh.int IntKind.i64, Sh.int IntKind.i64]) [Tree.agg [I (Tree.toInt
  (List.headD (Tree.cs (List.headD (Tree.tupl y_3) (Tree.bool false))) (Tree.bool false))), I (Tree.toInt (List.headD (List.tail (Tree.cs (List.headD (Tree.tupl y_3) (Tree.bool
  false)))) (Tree.bool false)))]], HObj.tre (Sh.agg [Sh.int IntKind.i64, Sh.int IntKind.i64]) [Tree.agg [I (Tree.toInt (List.headD (Tree.cs (List.headD (Tree.tupl y_4) (Tree.bool
  false))) (Tree.bool false))), I (Tree.toInt (List.headD (List.tail (Tree.cs (List.headD (Tree.tupl y_4) (Tree.bool false)))) (Tree.bool false)))]]]) else bif !(Tree.toInt
  (List.headD (Tree.cs (List.headD (Tree.tupl y_3) (Tree.bool false))) (Tree.bool false)) == Tree.toInt (List.headD (Tree.cs (List.headD (Tree.tupl y_4) (Tree.bool false)))
  (Tree.bool false)) && (Tree.toInt (List.headD (List.tail (Tree.cs (List.headD (Tree.tupl y_3) (Tree.bool false)))) (Tree.bool false)) == Tree.toInt (List.headD (List.tail (Tree.cs
  (List.headD (Tree.tupl y_4) (Tree.bool false)))) (Tree.bool false)) && true)) then K IExit.ret (St.mk [AV.t (Tree.agg [Tree.int IntKind.i16 a00, Tree.int IntKind.i16 a01]), AV.t
  (Tree.agg [Tree.int IntKind.i16 a10, Tree.int IntKind.i16 a11]), AV.t (Tree.agg [Tree.int IntKind.i16 a20, Tree.int IntKind.i16 a21]), AV.href 0 0 0, AV.href 1 0 0, AV.href 2 0 0,
  AV.t (Tree.bool false), AV.href 3 0 0, AV.href 4 0 0, AV.href 5 0 0, AV.href 6 0 0, AV.t (I (Tree.toInt (List.headD (List.tail (Tree.tupl y)) (Tree.bool false)))), AV.href 7 0 0,
  AV.t (I (Tree.toInt (List.headD (List.tail (Tree.tupl y_1)) (Tree.bool false)))), AV.href 8 0 0, AV.t (I (Tree.toInt (List.headD (List.tail (Tree.tupl y_2)) (Tree.bool false)))),
  AV.href 9 0 0, AV.t (I (Tree.toInt (List.headD (List.tail (Tree.tupl y_3)) (Tree.bool false)))), AV.href 10 0 0, AV.t (I (Tree.toInt (List.headD (List.tail (Tree.tupl y_4))
  (Tree.bool false)))), AV.undef, AV.undef, AV.undef, AV.undef, AV.undef, AV.undef, AV.undef, AV.undef, AV.undef, AV.undef, AV.undef, AV.undef, AV.undef, AV.undef, AV.undef,
  AV.undef, AV.href 0 0 0, AV.t (Tree.int IntKind.i16 a00), AV.t (I (IntKind.wrap IntKind.i64 a00)), AV.t (I (Int.tmod (IntKind.wrap IntKind.i64 a00) 1000)), AV.href 0 0 1, AV.t
  (Tree.int IntKind.i16 a01), AV.t (I (IntKind.wrap IntKind.i64 a01)), AV.t (I (Int.tmod (IntKind.wrap IntKind.i64 a01) 1000)), AV.t (I (gate (Int.tmod (IntKind.wrap IntKind.i64
  a01) 1000) (gate 1 (IntKind.wrap IntKind.i64 ↑(BitVec.toNat (BitVec.ofInt 64 (Int.tmod (IntKind.wrap IntKind.i64 a01) 1000) ||| BitVec.ofInt 64 1)))))), AV.t (Tree.agg [I
  (Int.tmod (IntKind.wrap IntKind.i64 a00) 1000), I (gate (Int.tmod (IntKind.wrap IntKind.i64 a01) 1000) (gate 1 (IntKind.wrap IntKind.i64 ↑(BitVec.toNat (BitVec.ofInt 64 (Int.tmod
  (IntKind.wrap IntKind.i64 a01) 1000) ||| BitVec.ofInt 64 1)))))]), AV.href 1 0 0, AV.t (Tree.int IntKind.i16 a10), AV.t (I (IntKind.wrap IntKind.i64 a10)), AV.t (I (Int.tmod
  (IntKind.wrap IntKind.i64 a10) 1000)), AV.href 1 0 1, AV.t (Tree.int IntKind.i16 a11), AV.t (I (IntKind.wrap IntKind.i64 a11)), AV.t (I (Int.tmod (IntKind.wrap IntKind.i64 a11)
  1000)), AV.t (I (gate (Int.tmod (IntKind.wrap IntKind.i64 a11) 1000) (gate 1 (IntKind.wrap IntKind.i64 ↑(BitVec.toNat (BitVec.ofInt 64 (Int.tmod (IntKind.wrap IntKind.i64 a11)
  1000) ||| BitVec.ofInt 64 1)))))), AV.t (Tree.agg [I (Int.tmod (IntKind.wrap IntKind.i64 a10) 1000), I (gate (Int.tmod (IntKind.wrap IntKind.i64 a11) 1000) (gate 1 (IntKind.wrap
  IntKind.i64 ↑(BitVec.toNat (BitVec.ofInt 64 (Int.tmod (IntKind.wrap IntKind.i64 a11) 1000) ||| BitVec.ofInt 64 1)))))]), AV.href 2 0 0, AV.t (Tree.int IntKind.i16 a20), AV.t (I
  (IntKind.wrap IntKind.i64 a20)), AV.t (I (Int.tmod (IntKind.wrap IntKind.i64 a20) 1000)), AV.href 2 0 1, AV.t (Tree.int IntKind.i16 a21), AV.t (I (IntKind.wrap IntKind.i64 a21)),
  AV.t (I (Int.tmod (IntKind.wrap IntKind.i64 a21) 1000)), AV.t (I (gate (Int.tmod (IntKind.wrap IntKind.i64 a21) 1000) (gate 1 (IntKind.wrap IntKind.i64 ↑(BitVec.toNat
  (BitVec.ofInt 64 (Int.tmod (IntKind.wrap IntKind.i64 a21) 1000) ||| BitVec.ofInt 64 1)))))), AV.t (Tree.agg [I (Int.tmod (IntKind.wrap IntKind.i64 a20) 1000), I (gate (Int.tmod
  (IntKind.wrap IntKind.i64 a21) 1000) (gate 1 (IntKind.wrap IntKind.i64 ↑(BitVec.toNat (BitVec.ofInt 64 (Int.tmod (IntKind.wrap IntKind.i64 a21) 1000) ||| BitVec.ofInt 64 1)))))]),
  AV.t (Tree.tup [Tree.agg [I (Tree.toInt (List.headD (Tree.cs (List.headD (Tree.tupl y) (Tree.bool false))) (Tree.bool false))), I (Tree.toInt (List.headD (List.tail (Tree.cs
  (List.headD (Tree.tupl y) (Tree.bool false)))) (Tree.bool false)))], I (Tree.toInt (List.headD (List.tail (Tree.tupl y)) (Tree.bool false)))]), AV.t (Tree.agg [I (Int.tmod
  (IntKind.wrap IntKind.i64 a00) 1000), I (gate (Int.tmod (IntKind.wrap IntKind.i64 a01) 1000) (gate 1 (IntKind.wrap IntKind.i64 ↑(BitVec.toNat (BitVec.ofInt 64 (Int.tmod
  (IntKind.wrap IntKind.i64 a01) 1000) ||| BitVec.ofInt 64 1)))))]), AV.t (Tree.agg [I (Int.tmod (IntKind.wrap IntKind.i64 a10) 1000), I (gate (Int.tmod (IntKind.wrap IntKind.i64
  a11) 1000) (gate 1 (IntKind.wrap IntKind.i64 ↑(BitVec.toNat (BitVec.ofInt 64 (Int.tmod (IntKind.wrap IntKind.i64 a11) 1000) ||| BitVec.ofInt 64 1)))))]), AV.t (Tree.tup [Tree.agg
  [I (Tree.toInt (List.headD (Tree.cs (List.headD (Tree.tupl y) (Tree.bool false))) (Tree.bool false))), I (Tree.toInt (List.headD (List.tail (Tree.cs (List.headD (Tree.tupl y)
  (Tree.bool false)))) (Tree.bool false)))], I (Tree.toInt (List.headD (List.tail (Tree.tupl y)) (Tree.bool false)))]), AV.t (Tree.agg [I (Tree.toInt (List.headD (Tree.cs
  (List.headD (Tree.tupl y) (Tree.bool false))) (Tree.bool false))), I (Tree.toInt (List.headD (List.tail (Tree.cs (List.headD (Tree.tupl y) (Tree.bool false)))) (Tree.bool
  false)))]), AV.t (I (Tree.toInt (List.headD (List.tail (Tree.tupl y)) (Tree.bool false)))), AV.t (Tree.tup [Tree.agg [I (Tree.toInt (List.headD (Tree.cs (List.headD (Tree.tupl
  y_1) (Tree.bool false))) (Tree.bool false))), I (Tree.toInt (List.headD (List.tail (Tree.cs (List.headD (Tree.tupl y_1) (Tree.bool false)))) (Tree.bool false)))], I (Tree.toInt
  (List.headD (List.tail (Tree.tupl y_1)) (Tree.bool false)))]), AV.t (Tree.agg [I (Int.tmod (IntKind.wrap IntKind.i64 a10) 1000), I (gate (Int.tmod (IntKind.wrap IntKind.i64 a11)
  1000) (gate 1 (IntKind.wrap IntKind.i64 ↑(BitVec.toNat (BitVec.ofInt 64 (Int.tmod (IntKind.wrap IntKind.i64 a11) 1000) ||| BitVec.ofInt 64 1)))))]), AV.t (Tree.agg [I (Int.tmod
  (IntKind.wrap IntKind.i64 a00) 1000), I (gate (Int.tmod (IntKind.wrap IntKind.i64 a01) 1000) (gate 1 (IntKind.wrap IntKind.i64 ↑(BitVec.toNat (BitVec.ofInt 64 (Int.tmod
  (IntKind.wrap IntKind.i64 a01) 1000) ||| BitVec.ofInt 64 1)))))]), AV.t (Tree.tup [Tree.agg [I (Tree.toInt (List.headD (Tree.cs (List.headD (Tree.tupl y_1) (Tree.bool false)))
  (Tree.bool false))), I (Tree.toInt (List.headD (List.tail (Tree.cs (List.headD (Tree.tupl y_1) (Tree.bool false)))) (Tree.bool false)))], I (Tree.toInt (List.headD (List.tail
  (Tree.tupl y_1)) (Tree.bool false)))]), AV.t (Tree.agg [I (Tree.toInt (List.headD (Tree.cs (List.headD (Tree.tupl y_1) (Tree.bool false))) (Tree.bool false))), I (Tree.toInt
  (List.headD (List.tail (Tree.cs (List.headD (Tree.tupl y_1) (Tree.bool false)))) (Tree.bool false)))]), AV.t (I (Tree.toInt (List.headD (List.tail (Tree.tupl y_1)) (Tree.bool
  false)))), AV.t (Tree.tup [Tree.agg [I (Tree.toInt (List.headD (Tree.cs (List.headD (Tree.tupl y_2) (Tree.bool false))) (Tree.bool false))), I (Tree.toInt (List.headD (List.tail
  (Tree.cs (List.headD (Tree.tupl y_2) (Tree.bool false)))) (Tree.bool false)))], I (Tree.toInt (List.headD (List.tail (Tree.tupl y_2)) (Tree.bool false)))]), AV.t (Tree.agg [I
  (Int.tmod (IntKind.wrap IntKind.i64 a10) 1000), I (gate (Int.tmod (IntKind.wrap IntKind.i64 a11) 1000) (gate 1 (IntKind.wrap IntKind.i64 ↑(BitVec.toNat (BitVec.ofInt 64 (Int.tmod
  (IntKind.wrap IntKind.i64 a11) 1000) ||| BitVec.ofInt 64 1)))))]), AV.t (Tree.agg [I (Int.tmod (IntKind.wrap IntKind.i64 a20) 1000), I (gate (Int.tmod (IntKind.wrap IntKind.i64
  a21) 1000) (gate 1 (IntKind.wrap IntKind.i64 ↑(BitVec.toNat (BitVec.ofInt 64 (Int.tmod (IntKind.wrap IntKind.i64 a21) 1000) ||| BitVec.ofInt 64 1)))))]), AV.t (Tree.tup [Tree.agg
  [I (Tree.toInt (List.headD (Tree.cs (List.headD (Tree.tupl y_2) (Tree.bool false))) (Tree.bool false))), I (Tree.toInt (List.headD (List.tail (Tree.cs (List.headD (Tree.tupl y_2)
  (Tree.bool false)))) (Tree.bool false)))], I (Tree.toInt (List.headD (List.tail (Tree.tupl y_2)) (Tree.bool false)))]), AV.t (Tree.agg [I (Tree.toInt (List.headD (Tree.cs
  (List.headD (Tree.tupl y_2) (Tree.bool false))) (Tree.bool false))), I (Tree.toInt (List.headD (List.tail (Tree.cs (List.headD (Tree.tupl y_2) (Tree.bool false)))) (Tree.bool
  false)))]), AV.t (I (Tree.toInt (List.headD (List.tail (Tree.tupl y_2)) (Tree.bool false)))), AV.t (Tree.tup [Tree.agg [I (Tree.toInt (List.headD (Tree.cs (List.headD (Tree.tupl
  y_3) (Tree.bool false))) (Tree.bool false))), I (Tree.toInt (List.headD (List.tail (Tree.cs (List.headD (Tree.tupl y_3) (Tree.bool false)))) (Tree.bool false)))], I (Tree.toInt
  (List.headD (List.tail (Tree.tupl y_3)) (Tree.bool false)))]), AV.t (Tree.agg [I (Tree.toInt (List.headD (Tree.cs (List.headD (Tree.tupl y) (Tree.bool false))) (Tree.bool
  false))), I (Tree.toInt (List.headD (List.tail (Tree.cs (List.headD (Tree.tupl y) (Tree.bool false)))) (Tree.bool false)))]), AV.t (Tree.agg [I (Int.tmod (IntKind.wrap IntKind.i64
  a20) 1000), I (gate (Int.tmod (IntKind.wrap IntKind.i64 a21) 1000) (gate 1 (IntKind.wrap IntKind.i64 ↑(BitVec.toNat (BitVec.ofInt 64 (Int.tmod (IntKind.wrap IntKind.i64 a21) 1000)
  ||| BitVec.ofInt 64 1)))))]), AV.t (Tree.tup [Tree.agg [I (Tree.toInt (List.headD (Tree.cs (List.headD (Tree.tupl y_3) (Tree.bool false))) (Tree.bool false))), I (Tree.toInt
  (List.headD (List.tail (Tree.cs (List.headD (Tree.tupl y_3) (Tree.bool false)))) (Tree.bool false)))], I (Tree.toInt (List.headD (List.tail (Tree.tupl y_3)) (Tree.bool false)))]),
  AV.t (Tree.agg [I (Tree.toInt (List.headD (Tree.cs (List.headD (Tree.tupl y_3) (Tree.bool false))) (Tree.bool false))), I (Tree.toInt (List.headD (List.tail (Tree.cs (List.headD
  (Tree.tupl y_3) (Tree.bool false)))) (Tree.bool false)))]), AV.t (I (Tree.toInt (List.headD (List.tail (Tree.tupl y_3)) (Tree.bool false)))), AV.t (Tree.tup [Tree.agg [I
  (Tree.toInt (List.headD (Tree.cs (List.headD (Tree.tupl y_4) (Tree.bool false))) (Tree.bool false))), I (Tree.toInt (List.headD (List.tail (Tree.cs (List.headD (Tree.tupl y_4)
  (Tree.bool false)))) (Tree.bool false)))], I (Tree.toInt (List.headD (List.tail (Tree.tupl y_4)) (Tree.bool false)))]), AV.t (Tree.agg [I (Int.tmod (IntKind.wrap IntKind.i64 a00)
  1000), I (gate (Int.tmod (IntKind.wrap IntKind.i64 a01) 1000) (gate 1 (IntKind.wrap IntKind.i64 ↑(BitVec.toNat (BitVec.ofInt 64 (Int.tmod (IntKind.wrap IntKind.i64 a01) 1000) |||
  BitVec.ofInt 64 1)))))]), AV.t (Tree.agg [I (Tree.toInt (List.headD (Tree.cs (List.headD (Tree.tupl y_2) (Tree.bool false))) (Tree.bool false))), I (Tree.toInt (List.headD
  (List.tail (Tree.cs (List.headD (Tree.tupl y_2) (Tree.bool false)))) (Tree.bool false)))]), AV.t (Tree.tup [Tree.agg [I (Tree.toInt (List.headD (Tree.cs (List.headD (Tree.tupl
  y_4) (Tree.bool false))) (Tree.bool false))), I (Tree.toInt (List.headD (List.tail (Tree.cs (List.headD (Tree.tupl y_4) (Tree.bool false)))) (Tree.bool false)))], I (Tree.toInt
  (List.headD (List.tail (Tree.tupl y_4)) (Tree.bool false)))]), AV.t (Tree.agg [I (Tree.toInt (List.headD (Tree.cs (List.headD (Tree.tupl y_4) (Tree.bool false))) (Tree.bool
  false))), I (Tree.toInt (List.headD (List.tail (Tree.cs (List.headD (Tree.tupl y_4) (Tree.bool false)))) (Tree.bool false)))]), AV.t (I (Tree.toInt (List.headD (List.tail
  (Tree.tupl y_4)) (Tree.bool false)))), AV.t (I (Tree.toInt (List.headD (List.tail (Tree.tupl y)) (Tree.bool false)))), AV.t (Tree.bool (Tree.toInt (List.headD (List.tail
  (Tree.tupl y)) (Tree.bool false)) != 0)), AV.t (Tree.bool false), AV.t (I (Tree.toInt (List.headD (List.tail (Tree.tupl y_1)) (Tree.bool false)))), AV.t (Tree.bool (Tree.toInt
  (List.headD (List.tail (Tree.tupl y_1)) (Tree.bool false)) != 0)), AV.t (Tree.bool (Tree.toInt (List.headD (List.tail (Tree.tupl y_1)) (Tree.bool false)) != 0)), AV.t (Tree.bool
  false), AV.t (I (Tree.toInt (List.headD (List.tail (Tree.tupl y_2)) (Tree.bool false)))), AV.t (Tree.bool (Tree.toInt (List.headD (List.tail (Tree.tupl y_2)) (Tree.bool false)) !=
  0)), AV.t (Tree.bool (Tree.toInt (List.headD (List.tail (Tree.tupl y_2)) (Tree.bool false)) != 0)), AV.t (Tree.bool false), AV.t (I (Tree.toInt (List.headD (List.tail (Tree.tupl
  y_3)) (Tree.bool false)))), AV.t (Tree.bool (Tree.toInt (List.headD (List.tail (Tree.tupl y_3)) (Tree.bool false)) != 0)), AV.t (Tree.bool (Tree.toInt (List.headD (List.tail
  (Tree.tupl y_3)) (Tree.bool false)) != 0)), AV.t (Tree.bool false), AV.t (I (Tree.toInt (List.headD (List.tail (Tree.tupl y_4)) (Tree.bool false)))), AV.t (Tree.bool (Tree.toInt
  (List.headD (List.tail (Tree.tupl y_4)) (Tree.bool false)) != 0)), AV.t (Tree.bool (Tree.toInt (List.headD (List.tail (Tree.tupl y_4)) (Tree.bool false)) != 0)), AV.t (Tree.bool
  false), AV.t (Tree.agg [I (Tree.toInt (List.headD (Tree.cs (List.headD (Tree.tupl y) (Tree.bool false))) (Tree.bool false))), I (Tree.toInt (List.headD (List.tail (Tree.cs
  (List.headD (Tree.tupl y) (Tree.bool false)))) (Tree.bool false)))]), AV.t (Tree.agg [I (Tree.toInt (List.headD (Tree.cs (List.headD (Tree.tupl y_1) (Tree.bool false))) (Tree.bool
  false))), I (Tree.toInt (List.headD (List.tail (Tree.cs (List.headD (Tree.tupl y_1) (Tree.bool false)))) (Tree.bool false)))]), AV.t (Tree.bool !(Tree.toInt (List.headD (Tree.cs
  (List.headD (Tree.tupl y) (Tree.bool false))) (Tree.bool false)) == Tree.toInt (List.headD (Tree.cs (List.headD (Tree.tupl y_1) (Tree.bool false))) (Tree.bool false)) &&
  (Tree.toInt (List.headD (List.tail (Tree.cs (List.headD (Tree.tupl y) (Tree.bool false)))) (Tree.bool false)) == Tree.toInt (List.headD (List.tail (Tree.cs (List.headD (Tree.tupl
  y_1) (Tree.bool false)))) (Tree.bool false)) && true))), AV.t (Tree.bool !(Tree.toInt (List.headD (Tree.cs (List.headD (Tree.tupl y) (Tree.bool false))) (Tree.bool false)) ==
  Tree.toInt (List.headD (Tree.cs (List.headD (Tree.tupl y_1) (Tree.bool false))) (Tree.bool false)) && (Tree.toInt (List.headD (List.tail (Tree.cs (List.headD (Tree.tupl y)
  (Tree.bool false)))) (Tree.bool false)) == Tree.toInt (List.headD (List.tail (Tree.cs (List.headD (Tree.tupl y_1) (Tree.bool false)))) (Tree.bool false)) && true))), AV.t
  (Tree.bool false), AV.t (Tree.agg [I (Tree.toInt (List.headD (Tree.cs (List.headD (Tree.tupl y_3) (Tree.bool false))) (Tree.bool false))), I (Tree.toInt (List.headD (List.tail
  (Tree.cs (List.headD (Tree.tupl y_3) (Tree.bool false)))) (Tree.bool false)))]), AV.t (Tree.agg [I (Tree.toInt (List.headD (Tree.cs (List.headD (Tree.tupl y_4) (Tree.bool false)))
  (Tree.bool false))), I (Tree.toInt (List.headD (List.tail (Tree.cs (List.headD (Tree.tupl y_4) (Tree.bool false)))) (Tree.bool false)))]), AV.t (Tree.bool !(Tree.toInt (List.headD
  (Tree.cs (List.headD (Tree.tupl y_3) (Tree.bool false))) (Tree.bool false)) == Tree.toInt (List.headD (Tree.cs (List.headD (Tree.tupl y_4) (Tree.bool false))) (Tree.bool false))
  && (Tree.toInt (List.headD (List.tail (Tree.cs (List.headD (Tree.tupl y_3) (Tree.bool false)))) (Tree.bool false)) == Tree.toInt (List.headD (List.tail (Tree.cs (List.headD
  (Tree.tupl y_4) (Tree.bool false)))) (Tree.bool false)) && true))), AV.t (Tree.bool true), AV.undef, AV.undef, AV.undef, AV.undef, AV.undef, AV.undef, AV.undef, AV.undef,
  AV.undef, AV.undef, AV.undef, AV.undef, AV.undef, AV.undef, AV.undef, AV.undef, AV.undef, AV.undef, AV.undef, AV.undef, AV.undef, AV.undef, AV.undef, AV.undef, AV.undef, AV.undef,
  AV.undef, AV.undef, AV.undef, AV.undef, AV.undef, AV.undef, AV.undef, AV.undef, AV.undef, AV.undef, AV.undef, AV.undef, AV.undef, AV.undef, AV.undef, AV.undef, AV.undef, AV.undef,
  AV.undef, AV.undef, AV.undef, AV.undef, AV.undef, AV.undef, AV.undef, AV.undef, AV.undef, AV.undef, AV.undef, AV.undef, AV.undef, AV.undef, AV.undef, AV.undef, AV.undef, AV.undef,
  AV.undef, AV.undef, AV.undef, AV.undef, AV.undef, AV.undef, AV.undef, AV.undef, AV.undef, AV.undef, AV.undef, AV.undef, AV.undef, AV.undef, AV.undef, AV.undef, AV.undef, AV.undef,
  AV.undef, AV.undef, AV.undef, AV.undef, AV.undef, AV.undef, AV.undef, AV.undef, AV.undef, AV.undef, AV.undef, AV.undef, AV.undef, AV.undef, AV.undef, AV.undef, AV.undef, AV.undef,
  AV.undef, AV.undef, AV.undef, AV.undef, AV.undef, AV.undef, AV.undef, AV.undef, AV.undef, AV.undef] [HObj.tre (Sh.agg [Sh.int IntKind.i16, Sh.int IntKind.i16]) [Tree.agg [Tree.int
  IntKind.i16 a00, Tree.int IntKind.i16 a01]], HObj.tre (Sh.agg [Sh.int IntKind.i16, Sh.int IntKind.i16]) [Tree.agg [Tree.int IntKind.i16 a10, Tree.int IntKind.i16 a11]], HObj.tre
  (Sh.agg [Sh.int IntKind.i16, Sh.int IntKind.i16]) [Tree.agg [Tree.int IntKind.i16 a20, Tree.int IntKind.i16 a21]], HObj.tre (Sh.agg [Sh.int IntKind.i64, Sh.int IntKind.i64])
  [Tree.agg [I (Int.tmod (IntKind.wrap IntKind.i64 a00) 1000), I (gate (Int.tmod (IntKind.wrap IntKind.i64 a01) 1000) (gate 1 (IntKind.wrap IntKind.i64 ↑(BitVec.toNat (BitVec.ofInt
  64 (Int.tmod (IntKind.wrap IntKind.i64 a01) 1000) ||| BitVec.ofInt 64 1)))))]], HObj.tre (Sh.agg [Sh.int IntKind.i64, Sh.int IntKind.i64]) [Tree.agg [I (Int.tmod (IntKind.wrap
  IntKind.i64 a10) 1000), I (gate (Int.tmod (IntKind.wrap IntKind.i64 a11) 1000) (gate 1 (IntKind.wrap IntKind.i64 ↑(BitVec.toNat (BitVec.ofInt 64 (Int.tmod (IntKind.wrap
  IntKind.i64 a11) 1000) ||| BitVec.ofInt 64 1)))))]], HObj.tre (Sh.agg [Sh.int IntKind.i64, Sh.int IntKind.i64]) [Tree.agg [I (Int.tmod (IntKind.wrap IntKind.i64 a20) 1000), I
  (gate (Int.tmod (IntKind.wrap IntKind.i64 a21) 1000) (gate 1 (IntKind.wrap IntKind.i64 ↑(BitVec.toNat (BitVec.ofInt 64 (Int.tmod (IntKind.wrap IntKind.i64 a21) 1000) |||
  BitVec.ofInt 64 1)))))]], HObj.tre (Sh.agg [Sh.int IntKind.i64, Sh.int IntKind.i64]) [Tree.agg [I (Tree.toInt (List.headD (Tree.cs (List.headD (Tree.tupl y) (Tree.bool false)))
  (Tree.bool false))), I (Tree.toInt (List.headD (List.tail (Tree.cs (List.headD (Tree.tupl y) (Tree.bool false)))) (Tree.bool false)))]], HObj.tre (Sh.agg [Sh.int IntKind.i64,
  Sh.int IntKind.i64]) [Tree.agg [I (Tree.toInt (List.headD (Tree.cs (List.headD (Tree.tupl y_1) (Tree.bool false))) (Tree.bool false))), I (Tree.toInt (List.headD (List.tail
  (Tree.cs (List.headD (Tree.tupl y_1) (Tree.bool false)))) (Tree.bool false)))]], HObj.tre (Sh.agg [Sh.int IntKind.i64, Sh.int IntKind.i64]) [Tree.agg [I (Tree.toInt (List.headD
  (Tree.cs (List.headD (Tree.tupl y_2) (Tree.bool false))) (Tree.bool false))), I (Tree.toInt (List.headD (List.tail (Tree.cs (List.headD (Tree.tupl y_2) (Tree.bool false))))
  (Tree.bool false)))]], HObj.tre (Sh.agg [Sh.int IntKind.i64, Sh.int IntKind.i64]) [Tree.agg [I (Tree.toInt (List.headD (Tree.cs (List.headD (Tree.tupl y_3) (Tree.bool false)))
  (Tree.bool false))), I (Tree.toInt (List.headD (List.tail (Tree.cs (List.headD (Tree.tupl y_3) (Tree.bool false)))) (Tree.bool false)))]], HObj.tre (Sh.agg [Sh.int IntKind.i64,
  Sh.int IntKind.i64]) [Tree.agg [I (Tree.toInt (List.headD (Tree.cs (List.headD (Tree.tupl y_4) (Tree.bool false))) (Tree.bool false))), I (Tree.toInt (List.headD (List.tail
  (Tree.cs (List.headD (Tree.tupl y_4) (Tree.bool false)))) (Tree.bool false)))]]]) else Option.bind (evP (Tab.env tab) n 27 [Tree.agg [I (Int.tmod (IntKind.wrap IntKind.i64 a00)
  1000), I (gate (Int.tmod (IntKind.wrap IntKind.i64 a01) 1000) (gate 1 (IntKind.wrap IntKind.i64 ↑(BitVec.toNat (BitVec.ofInt 64 (Int.tmod (IntKind.wrap IntKind.i64 a01) 1000) |||
  BitVec.ofInt 64 1)))))], Tree.agg [I (Int.tmod (IntKind.wrap IntKind.i64 a20) 1000), I (gate (Int.tmod (IntKind.wrap IntKind.i64 a21) 1000) (gate 1 (IntKind.wrap IntKind.i64
  ↑(BitVec.toNat (BitVec.ofInt 64 (Int.tmod (IntKind.wrap IntKind.i64 a21) 1000) ||| BitVec.ofInt 64 1)))))]]) fun y_5 => bif Sh.ok (Sh.tup [Sh.agg [Sh.int IntKind.i64, Sh.int
  IntKind.i64], Sh.int IntKind.i64]) y_5 then Option.bind (evP (Tab.env tab) n 27 [Tree.agg [I (Int.tmod (IntKind.wrap IntKind.i64 a10) 1000), I (gate (Int.tmod (IntKind.wrap
  IntKind.i64 a11) 1000) (gate 1 (IntKind.wrap IntKind.i64 ↑(BitVec.toNat (BitVec.ofInt 64 (Int.tmod (IntKind.wrap IntKind.i64 a11) 1000) ||| BitVec.ofInt 64 1)))))], Tree.agg [I
  (Int.tmod (IntKind.wrap IntKind.i64 a20) 1000), I (gate (Int.tmod (IntKind.wrap IntKind.i64 a21) 1000) (gate 1 (IntKind.wrap IntKind.i64 ↑(BitVec.toNat (BitVec.ofInt 64 (Int.tmod
  (IntKind.wrap IntKind.i64 a21) 1000) ||| BitVec.ofInt 64 1)))))]]) fun y_6 => bif Sh.ok (Sh.tup [Sh.agg [Sh.int IntKind.i64, Sh.int IntKind.i64], Sh.int IntKind.i64]) y_6 then
  Option.bind (evP (Tab.env tab) n 25 [Tree.agg [I (Tree.toInt (List.headD (Tree.cs (List.headD (Tree.tupl y_5) (Tree.bool false))) (Tree.bool false))), I (Tree.toInt (List.headD
  (List.tail (Tree.cs (List.headD (Tree.tupl y_5) (Tree.bool false)))) (Tree.bool false)))], Tree.agg [I (Tree.toInt (List.headD (Tree.cs (List.headD (Tree.tupl y_6) (Tree.bool
  false))) (Tree.bool false))), I (Tree.toInt (List.headD (List.tail (Tree.cs (List.headD (Tree.tupl y_6) (Tree.bool false)))) (Tree.bool false)))]]) fun y_7 => bif Sh.ok (Sh.tup
  [Sh.agg [Sh.int IntKind.i64, Sh.int IntKind.i64], Sh.int IntKind.i64]) y_7 then Option.bind (evP (Tab.env tab) n 27 [Tree.agg [I (Tree.toInt (List.headD (Tree.cs (List.headD
  (Tree.tupl y) (Tree.bool false))) (Tree.bool false))), I (Tree.toInt (List.headD (List.tail (Tree.cs (List.headD (Tree.tupl y) (Tree.bool false)))) (Tree.bool false)))], Tree.agg
  [I (Int.tmod (IntKind.wrap IntKind.i64 a20) 1000), I (gate (Int.tmod (IntKind.wrap IntKind.i64 a21) 1000) (gate 1 (IntKind.wrap IntKind.i64 ↑(BitVec.toNat (BitVec.ofInt 64
  (Int.tmod (IntKind.wrap IntKind.i64 a21) 1000) ||| BitVec.ofInt 64 1)))))]]) fun y_8 => bif Sh.ok (Sh.tup [Sh.agg [Sh.int IntKind.i64, Sh.int IntKind.i64], Sh.int IntKind.i64])
  y_8 then bif Tree.toInt (List.headD (List.tail (Tree.tupl y_5)) (Tree.bool false)) == 0 then bif Tree.toInt (List.headD (List.tail (Tree.tupl y_6)) (Tree.bool false)) == 0 then
  bif Tree.toInt (List.headD (List.tail (Tree.tupl y_7)) (Tree.bool false)) == 0 then bif Tree.toInt (List.headD (List.tail (Tree.tupl y_8)) (Tree.bool false)) == 0 then bif
  !(Tree.toInt (List.headD (Tree.cs (List.headD (Tree.tupl y_7) (Tree.bool false))) (Tree.bool false)) == Tree.toInt (List.headD (Tree.cs (List.headD (Tree.tupl y_8) (Tree.bool
  false))) (Tree.bool false)) && (Tree.toInt (List.headD (List.tail (Tree.cs (List.headD (Tree.tupl y_7) (Tree.bool false)))) (Tree.bool false)) == Tree.toInt (List.headD (List.tail
  (Tree.cs (List.headD (Tree.tupl y_8) (Tree.bool false)))) (Tree.bool false)) && true)) then K IExit.ret (St.mk [AV.t (Tree.agg [Tree.int IntKind.i16 a00, Tree.int IntKind.i16
  a01]), AV.t (Tree.agg [Tree.int IntKind.i16 a10, Tree.int IntKind.i16 a11]), AV.t (Tree.agg [Tree.int IntKind.i16 a20, Tree.int IntKind.i16 a21]), AV.href 0 0 0, AV.href 1 0 0,
  AV.href 2 0 0, AV.t (Tree.bool false), AV.href 3 0 0, AV.href 4 0 0, AV.href 5 0 0, AV.href 6 0 0, AV.t (I (Tree.toInt (List.headD (List.tail (Tree.tupl y_5)) (Tree.bool
  false)))), AV.href 7 0 0, AV.t (I (Tree.toInt (List.headD (List.tail (Tree.tupl y_6)) (Tree.bool false)))), AV.href 8 0 0, AV.t (I (Tree.toInt (List.headD (List.tail (Tree.tupl
  y_7)) (Tree.bool false)))), AV.href 9 0 0, AV.t (I (Tree.toInt (List.headD (List.tail (Tree.tupl y_8)) (Tree.bool false)))), AV.href 10 0 0, AV.t (I (Tree.toInt (List.headD
  (List.tail (Tree.tupl y_4)) (Tree.bool false)))), AV.href 11 0 0, AV.href 12 0 0, AV.href 13 0 0, AV.href 14 0 0, AV.undef, AV.undef, AV.undef, AV.undef, AV.undef, AV.undef,
  AV.undef, AV.undef, AV.undef, AV.undef, AV.undef, AV.undef, AV.href 0 0 0, AV.t (Tree.int IntKind.i16 a00), AV.t (I (IntKind.wrap IntKind.i64 a00)), AV.t (I (Int.tmod
  (IntKind.wrap IntKind.i64 a00) 1000)), AV.href 0 0 1, AV.t (Tree.int IntKind.i16 a01), AV.t (I (IntKind.wrap IntKind.i64 a01)), AV.t (I (Int.tmod (IntKind.wrap IntKind.i64 a01)
  1000)), AV.t (I (gate (Int.tmod (IntKind.wrap IntKind.i64 a01) 1000) (gate 1 (IntKind.wrap IntKind.i64 ↑(BitVec.toNat (BitVec.ofInt 64 (Int.tmod (IntKind.wrap IntKind.i64 a01)
  1000) ||| BitVec.ofInt 64 1)))))), AV.t (Tree.agg [I (Int.tmod (IntKind.wrap IntKind.i64 a00) 1000), I (gate (Int.tmod (IntKind.wrap IntKind.i64 a01) 1000) (gate 1 (IntKind.wrap
  IntKind.i64 ↑(BitVec.toNat (BitVec.ofInt 64 (Int.tmod (IntKind.wrap IntKind.i64 a01) 1000) ||| BitVec.ofInt 64 1)))))]), AV.href 1 0 0, AV.t (Tree.int IntKind.i16 a10), AV.t (I
  (IntKind.wrap IntKind.i64 a10)), AV.t (I (Int.tmod (IntKind.wrap IntKind.i64 a10) 1000)), AV.href 1 0 1, AV.t (Tree.int IntKind.i16 a11), AV.t (I (IntKind.wrap IntKind.i64 a11)),
  AV.t (I (Int.tmod (IntKind.wrap IntKind.i64 a11) 1000)), AV.t (I (gate (Int.tmod (IntKind.wrap IntKind.i64 a11) 1000) (gate 1 (IntKind.wrap IntKind.i64 ↑(BitVec.toNat
  (BitVec.ofInt 64 (Int.tmod (IntKind.wrap IntKind.i64 a11) 1000) ||| BitVec.ofInt 64 1)))))), AV.t (Tree.agg [I (Int.tmod (IntKind.wrap IntKind.i64 a10) 1000), I (gate (Int.tmod
  (IntKind.wrap IntKind.i64 a11) 1000) (gate 1 (IntKind.wrap IntKind.i64 ↑(BitVec.toNat (BitVec.ofInt 64 (Int.tmod (IntKind.wrap IntKind.i64 a11) 1000) ||| BitVec.ofInt 64 1)))))]),
  AV.href 2 0 0, AV.t (Tree.int IntKind.i16 a20), AV.t (I (IntKind.wrap IntKind.i64 a20)), AV.t (I (Int.tmod (IntKind.wrap IntKind.i64 a20) 1000)), AV.href 2 0 1, AV.t (Tree.int
  IntKind.i16 a21), AV.t (I (IntKind.wrap IntKind.i64 a21)), AV.t (I (Int.tmod (IntKind.wrap IntKind.i64 a21) 1000)), AV.t (I (gate (Int.tmod (IntKind.wrap IntKind.i64 a21) 1000)
  (gate 1 (IntKind.wrap IntKind.i64 ↑(BitVec.toNat (BitVec.ofInt 64 (Int.tmod (IntKind.wrap IntKind.i64 a21) 1000) ||| BitVec.ofInt 64 1)))))), AV.t (Tree.agg [I (Int.tmod
  (IntKind.wrap IntKind.i64 a20) 1000), I (gate (Int.tmod (IntKind.wrap IntKind.i64 a21) 1000) (gate 1 (IntKind.wrap IntKind.i64 ↑(BitVec.toNat (BitVec.ofInt 64 (Int.tmod
  (IntKind.wrap IntKind.i64 a21) 1000) ||| BitVec.ofInt 64 1)))))]), AV.t (Tree.tup [Tree.agg [I (Tree.toInt (List.headD (Tree.cs (List.headD (Tree.tupl y) (Tree.bool false)))
  (Tree.bool false))), I (Tree.toInt (List.headD (List.tail (Tree.cs (List.headD (Tree.tupl y) (Tree.bool false)))) (Tree.bool false)))], I (Tree.toInt (List.headD (List.tail
  (Tree.tupl y)) (Tree.bool false)))]), AV.t (Tree.agg [I (Int.tmod (IntKind.wrap IntKind.i64 a00) 1000), I (gate (Int.tmod (IntKind.wrap IntKind.i64 a01) 1000) (gate 1
  (IntKind.wrap IntKind.i64 ↑(BitVec.toNat (BitVec.ofInt 64 (Int.tmod (IntKind.wrap IntKind.i64 a01) 1000) ||| BitVec.ofInt 64 1)))))]), AV.t (Tree.agg [I (Int.tmod (IntKind.wrap
  IntKind.i64 a10) 1000), I (gate (Int.tmod (IntKind.wrap IntKind.i64 a11) 1000) (gate 1 (IntKind.wrap IntKind.i64 ↑(BitVec.toNat (BitVec.ofInt 64 (Int.tmod (IntKind.wrap
  IntKind.i64 a11) 1000) ||| BitVec.ofInt 64 1)))))]), AV.t (Tree.tup [Tree.agg [I (Tree.toInt (List.headD (Tree.cs (List.headD (Tree.tupl y) (Tree.bool false))) (Tree.bool
  false))), I (Tree.toInt (List.headD (List.tail (Tree.cs (List.headD (Tree.tupl y) (Tree.bool false)))) (Tree.bool false)))], I (Tree.toInt (List.headD (List.tail (Tree.tupl y))
  (Tree.bool false)))]), AV.t (Tree.agg [I (Tree.toInt (List.headD (Tree.cs (List.headD (Tree.tupl y) (Tree.bool false))) (Tree.bool false))), I (Tree.toInt (List.headD (List.tail
  (Tree.cs (List.headD (Tree.tupl y) (Tree.bool false)))) (Tree.bool false)))]), AV.t (I (Tree.toInt (List.headD (List.tail (Tree.tupl y)) (Tree.bool false)))), AV.t (Tree.tup
  [Tree.agg [I (Tree.toInt (List.headD (Tree.cs (List.headD (Tree.tupl y_1) (Tree.bool false))) (Tree.bool false))), I (Tree.toInt (List.headD (List.tail (Tree.cs (List.headD
  (Tree.tupl y_1) (Tree.bool false)))) (Tree.bool false)))], I (Tree.toInt (List.headD (List.tail (Tree.tupl y_1)) (Tree.bool false)))]), AV.t (Tree.agg [I (Int.tmod (IntKind.wrap
  IntKind.i64 a10) 1000), I (gate (Int.tmod (IntKind.wrap IntKind.i64 a11) 1000) (gate 1 (IntKind.wrap IntKind.i64 ↑(BitVec.toNat (BitVec.ofInt 64 (Int.tmod (IntKind.wrap
  IntKind.i64 a11) 1000) ||| BitVec.ofInt 64 1)))))]), AV.t (Tree.agg [I (Int.tmod (IntKind.wrap IntKind.i64 a00) 1000), I (gate (Int.tmod (IntKind.wrap IntKind.i64 a01) 1000) (gate
  1 (IntKind.wrap IntKind.i64 ↑(BitVec.toNat (BitVec.ofInt 64 (Int.tmod (IntKind.wrap IntKind.i64 a01) 1000) ||| BitVec.ofInt 64 1)))))]), AV.t (Tree.tup [Tree.agg [I (Tree.toInt
  (List.headD (Tree.cs (List.headD (Tree.tupl y_1) (Tree.bool false))) (Tree.bool false))), I (Tree.toInt (List.headD (List.tail (Tree.cs (List.headD (Tree.tupl y_1) (Tree.bool
  false)))) (Tree.bool false)))], I (Tree.toInt (List.headD (List.tail (Tree.tupl y_1)) (Tree.bool false)))]), AV.t (Tree.agg [I (Tree.toInt (List.headD (Tree.cs (List.headD
  (Tree.tupl y_1) (Tree.bool false))) (Tree.bool false))), I (Tree.toInt (List.headD (List.tail (Tree.cs (List.headD (Tree.tupl y_1) (Tree.bool false)))) (Tree.bool false)))]), AV.t
  (I (Tree.toInt (List.headD (List.tail (Tree.tupl y_1)) (Tree.bool false)))), AV.t (Tree.tup [Tree.agg [I (Tree.toInt (List.headD (Tree.cs (List.headD (Tree.tupl y_2) (Tree.bool
  false))) (Tree.bool false))), I (Tree.toInt (List.headD (List.tail (Tree.cs (List.headD (Tree.tupl y_2) (Tree.bool false)))) (Tree.bool false)))], I (Tree.toInt (List.headD
  (List.tail (Tree.tupl y_2)) (Tree.bool false)))]), AV.t (Tree.agg [I (Int.tmod (IntKind.wrap IntKind.i64 a10) 1000), I (gate (Int.tmod (IntKind.wrap IntKind.i64 a11) 1000) (gate 1
  (IntKind.wrap IntKind.i64 ↑(BitVec.toNat (BitVec.ofInt 64 (Int.tmod (IntKind.wrap IntKind.i64 a11) 1000) ||| BitVec.ofInt 64 1)))))]), AV.t (Tree.agg [I (Int.tmod (IntKind.wrap
  IntKind.i64 a20) 1000), I (gate (Int.tmod (IntKind.wrap IntKind.i64 a21) 1000) (gate 1 (IntKind.wrap IntKind.i64 ↑(BitVec.toNat (BitVec.ofInt 64 (Int.tmod (IntKind.wrap
  IntKind.i64 a21) 1000) ||| BitVec.ofInt 64 1)))))]), AV.t (Tree.tup [Tree.agg [I (Tree.toInt (List.headD (Tree.cs (List.headD (Tree.tupl y_2) (Tree.bool false))) (Tree.bool
  false))), I (Tree.toInt (List.headD (List.tail (Tree.cs (List.headD (Tree.tupl y_2) (Tree.bool false)))) (Tree.bool false)))], I (Tree.toInt (List.headD (List.tail (Tree.tupl
  y_2)) (Tree.bool false)))]), AV.t (Tree.agg [I (Tree.toInt (List.headD (Tree.cs (List.headD (Tree.tupl y_2) (Tree.bool false))) (Tree.bool false))), I (Tree.toInt (List.headD
  (List.tail (Tree.cs (List.headD (Tree.tupl y_2) (Tree.bool false)))) (Tree.bool false)))]), AV.t (I (Tree.toInt (List.headD (List.tail (Tree.tupl y_2)) (Tree.bool false)))), AV.t
  (Tree.tup [Tree.agg [I (Tree.toInt (List.headD (Tree.cs (List.headD (Tree.tupl y_3) (Tree.bool false))) (Tree.bool false))), I (Tree.toInt (List.headD (List.tail (Tree.cs
  (List.headD (Tree.tupl y_3) (Tree.bool false)))) (Tree.bool false)))], I (Tree.toInt (List.headD (List.tail (Tree.tupl y_3)) (Tree.bool false)))]), AV.t (Tree.agg [I (Tree.toInt
  (List.headD (Tree.cs (List.headD (Tree.tupl y) (Tree.bool false))) (Tree.bool false))), I (Tree.toInt (List.headD (List.tail (Tree.cs (List.headD (Tree.tupl y) (Tree.bool
  false)))) (Tree.bool false)))]), AV.t (Tree.agg [I (Int.tmod (IntKind.wrap IntKind.i64 a20) 1000), I (gate (Int.tmod (IntKind.wrap IntKind.i64 a21) 1000) (gate 1 (IntKind.wrap
  IntKind.i64 ↑(BitVec.toNat (BitVec.ofInt 64 (Int.tmod (IntKind.wrap IntKind.i64 a21) 1000) ||| BitVec.ofInt 64 1)))))]), AV.t (Tree.tup [Tree.agg [I (Tree.toInt (List.headD
  (Tree.cs (List.headD (Tree.tupl y_3) (Tree.bool false))) (Tree.bool false))), I (Tree.toInt (List.headD (List.tail (Tree.cs (List.headD (Tree.tupl y_3) (Tree.bool false))))
  (Tree.bool false)))], I (Tree.toInt (List.headD (List.tail (Tree.tupl y_3)) (Tree.bool false)))]), AV.t (Tree.agg [I (Tree.toInt (List.headD (Tree.cs (List.headD (Tree.tupl y_3)
  (Tree.bool false))) (Tree.bool false))), I (Tree.toInt (List.headD (List.tail (Tree.cs (List.headD (Tree.tupl y_3) (Tree.bool false)))) (Tree.bool false)))]), AV.t (I (Tree.toInt
  (List.headD (List.tail (Tree.tupl y_3)) (Tree.bool false)))), AV.t (Tree.tup [Tree.agg [I (Tree.toInt (List.headD (Tree.cs (List.headD (Tree.tupl y_4) (Tree.bool false)))
  (Tree.bool false))), I (Tree.toInt (List.headD (List.tail (Tree.cs (List.headD (Tree.tupl y_4) (Tree.bool false)))) (Tree.bool false)))], I (Tree.toInt (List.headD (List.tail
  (Tree.tupl y_4)) (Tree.bool false)))]), AV.t (Tree.agg [I (Int.tmod (IntKind.wrap IntKind.i64 a00) 1000), I (gate (Int.tmod (IntKind.wrap IntKind.i64 a01) 1000) (gate 1
  (IntKind.wrap IntKind.i64 ↑(BitVec.toNat (BitVec.ofInt 64 (Int.tmod (IntKind.wrap IntKind.i64 a01) 1000) ||| BitVec.ofInt 64 1)))))]), AV.t (Tree.agg [I (Tree.toInt (List.headD
  (Tree.cs (List.headD (Tree.tupl y_2) (Tree.bool false))) (Tree.bool false))), I (Tree.toInt (List.headD (List.tail (Tree.cs (List.headD (Tree.tupl y_2) (Tree.bool false))))
  (Tree.bool false)))]), AV.t (Tree.tup [Tree.agg [I (Tree.toInt (List.headD (Tree.cs (List.headD (Tree.tupl y_4) (Tree.bool false))) (Tree.bool false))), I (Tree.toInt (List.headD
  (List.tail (Tree.cs (List.headD (Tree.tupl y_4) (Tree.bool false)))) (Tree.bool false)))], I (Tree.toInt (List.headD (List.tail (Tree.tupl y_4)) (Tree.bool false)))]), AV.t
  (Tree.agg [I (Tree.toInt (List.headD (Tree.cs (List.headD (Tree.tupl y_4) (Tree.bool false))) (Tree.bool false))), I (Tree.toInt (List.headD (List.tail (Tree.cs (List.headD
  (Tree.tupl y_4) (Tree.bool false)))) (Tree.bool false)))]), AV.t (I (Tree.toInt (List.headD (List.tail (Tree.tupl y_4)) (Tree.bool false)))), AV.t (I (Tree.toInt (List.headD
  (List.tail (Tree.tupl y)) (Tree.bool false)))), AV.t (Tree.bool (Tree.toInt (List.headD (List.tail (Tree.tupl y)) (Tree.bool false)) != 0)), AV.t (Tree.bool false), AV.t (I
  (Tree.toInt (List.headD (List.tail (Tree.tupl y_1)) (Tree.bool false)))), AV.t (Tree.bool (Tree.toInt (List.headD (List.tail (Tree.tupl y_1)) (Tree.bool false)) != 0)), AV.t
  (Tree.bool (Tree.toInt (List.headD (List.tail (Tree.tupl y_1)) (Tree.bool false)) != 0)), AV.t (Tree.bool false), AV.t (I (Tree.toInt (List.headD (List.tail (Tree.tupl y_2))
  (Tree.bool false)))), AV.t (Tree.bool (Tree.toInt (List.headD (List.tail (Tree.tupl y_2)) (Tree.bool false)) != 0)), AV.t (Tree.bool (Tree.toInt (List.headD (List.tail (Tree.tupl
  y_2)) (Tree.bool false)) != 0)), AV.t (Tree.bool false), AV.t (I (Tree.toInt (List.headD (List.tail (Tree.tupl y_3)) (Tree.bool false)))), AV.t (Tree.bool (Tree.toInt (List.headD
  (List.tail (Tree.tupl y_3)) (Tree.bool false)) != 0)), AV.t (Tree.bool (Tree.toInt (List.headD (List.tail (Tree.tupl y_3)) (Tree.bool false)) != 0)), AV.t (Tree.bool false), AV.t
  (I (Tree.toInt (List.headD (List.tail (Tree.tupl y_4)) (Tree.bool false)))), AV.t (Tree.bool (Tree.toInt (List.headD (List.tail (Tree.tupl y_4)) (Tree.bool false)) != 0)), AV.t
  (Tree.bool (Tree.toInt (List.headD (List.tail (Tree.tupl y_4)) (Tree.bool false)) != 0)), AV.t (Tree.bool false), AV.t (Tree.agg [I (Tree.toInt (List.headD (Tree.cs (List.headD
  (Tree.tupl y) (Tree.bool false))) (Tree.bool false))), I (Tree.toInt (List.headD (List.tail (Tree.cs (List.headD (Tree.tupl y) (Tree.bool false)))) (Tree.bool false)))]), AV.t
  (Tree.agg [I (Tree.toInt (List.headD (Tree.cs (List.headD (Tree.tupl y_1) (Tree.bool false))) (Tree.bool false))), I (Tree.toInt (List.headD (List.tail (Tree.cs (List.headD
  (Tree.tupl y_1) (Tree.bool false)))) (Tree.bool false)))]), AV.t (Tree.bool !(Tree.toInt (List.headD (Tree.cs (List.headD (Tree.tupl y) (Tree.bool false))) (Tree.bool false)) ==
  Tree.toInt (List.headD (Tree.cs (List.headD (Tree.tupl y_1) (Tree.bool false))) (Tree.bool false)) && (Tree.toInt (List.headD (List.tail (Tree.cs (List.headD (Tree.tupl y)
  (Tree.bool false)))) (Tree.bool false)) == Tree.toInt (List.headD (List.tail (Tree.cs (List.headD (Tree.tupl y_1) (Tree.bool false)))) (Tree.bool false)) && true))), AV.t
  (Tree.bool !(Tree.toInt (List.headD (Tree.cs (List.headD (Tree.tupl y) (Tree.bool false))) (Tree.bool false)) == Tree.toInt (List.headD (Tree.cs (List.headD (Tree.tupl y_1)
  (Tree.bool false))) (Tree.bool false)) && (Tree.toInt (List.headD (List.tail (Tree.cs (List.headD (Tree.tupl y) (Tree.bool false)))) (Tree.bool false)) == Tree.toInt (List.headD
  (List.tail (Tree.cs (List.headD (Tree.tupl y_1) (Tree.bool false)))) (Tree.bool false)) && true))), AV.t (Tree.bool false), AV.t (Tree.agg [I (Tree.toInt (List.headD (Tree.cs
  (List.headD (Tree.tupl y_3) (Tree.bool false))) (Tree.bool false))), I (Tree.toInt (List.headD (List.tail (Tree.cs (List.headD (Tree.tupl y_3) (Tree.bool false)))) (Tree.bool
  false)))]), AV.t (Tree.agg [I (Tree.toInt (List.headD (Tree.cs (List.headD (Tree.tupl y_4) (Tree.bool false))) (Tree.bool false))), I (Tree.toInt (List.headD (List.tail (Tree.cs
  (List.headD (Tree.tupl y_4) (Tree.bool false)))) (Tree.bool false)))]), AV.t (Tree.bool !(Tree.toInt (List.headD (Tree.cs (List.headD (Tree.tupl y_3) (Tree.bool false)))
  (Tree.bool false)) == Tree.toInt (List.headD (Tree.cs (List.headD (Tree.tupl y_4) (Tree.bool false))) (Tree.bool false)) && (Tree.toInt (List.headD (List.tail (Tree.cs (List.headD
  (Tree.tupl y_3) (Tree.bool false)))) (Tree.bool false)) == Tree.toInt (List.headD (List.tail (Tree.cs (List.headD (Tree.tupl y_4) (Tree.bool false)))) (Tree.bool false)) &&
  true))), AV.t (Tree.bool false), AV.t (Tree.tup [Tree.agg [I (Tree.toInt (List.headD (Tree.cs (List.headD (Tree.tupl y_5) (Tree.bool false))) (Tree.bool false))), I (Tree.toInt
  (List.headD (List.tail (Tree.cs (List.headD (Tree.tupl y_5) (Tree.bool false)))) (Tree.bool false)))], I (Tree.toInt (List.headD (List.tail (Tree.tupl y_5)) (Tree.bool false)))]),
  AV.t (Tree.agg [I (Int.tmod (IntKind.wrap IntKind.i64 a00) 1000), I (gate (Int.tmod (IntKind.wrap IntKind.i64 a01) 1000) (gate 1 (IntKind.wrap IntKind.i64 ↑(BitVec.toNat
  (BitVec.ofInt 64 (Int.tmod (IntKind.wrap IntKind.i64 a01) 1000) ||| BitVec.ofInt 64 1)))))]), AV.t (Tree.agg [I (Int.tmod (IntKind.wrap IntKind.i64 a20) 1000), I (gate (Int.tmod
  (IntKind.wrap IntKind.i64 a21) 1000) (gate 1 (IntKind.wrap IntKind.i64 ↑(BitVec.toNat (BitVec.ofInt 64 (Int.tmod (IntKind.wrap IntKind.i64 a21) 1000) ||| BitVec.ofInt 64 1)))))]),
  AV.t (Tree.tup [Tree.agg [I (Tree.toInt (List.headD (Tree.cs (List.headD (Tree.tupl y_5) (Tree.bool false))) (Tree.bool false))), I (Tree.toInt (List.headD (List.tail (Tree.cs
  (List.headD (Tree.tupl y_5) (Tree.bool false)))) (Tree.bool false)))], I (Tree.toInt (List.headD (List.tail (Tree.tupl y_5)) (Tree.bool false)))]), AV.t (Tree.agg [I (Tree.toInt
  (List.headD (Tree.cs (List.headD (Tree.tupl y_5) (Tree.bool false))) (Tree.bool false))), I (Tree.toInt (List.headD (List.tail (Tree.cs (List.headD (Tree.tupl y_5) (Tree.bool
  false)))) (Tree.bool false)))]), AV.t (I (Tree.toInt (List.headD (List.tail (Tree.tupl y_5)) (Tree.bool false)))), AV.t (Tree.tup [Tree.agg [I (Tree.toInt (List.headD (Tree.cs
  (List.headD (Tree.tupl y_6) (Tree.bool false))) (Tree.bool false))), I (Tree.toInt (List.headD (List.tail (Tree.cs (List.headD (Tree.tupl y_6) (Tree.bool false)))) (Tree.bool
  false)))], I (Tree.toInt (List.headD (List.tail (Tree.tupl y_6)) (Tree.bool false)))]), AV.t (Tree.agg [I (Int.tmod (IntKind.wrap IntKind.i64 a10) 1000), I (gate (Int.tmod
  (IntKind.wrap IntKind.i64 a11) 1000) (gate 1 (IntKind.wrap IntKind.i64 ↑(BitVec.toNat (BitVec.ofInt 64 (Int.tmod (IntKind.wrap IntKind.i64 a11) 1000) ||| BitVec.ofInt 64 1)))))]),
  AV.t (Tree.agg [I (Int.tmod (IntKind.wrap IntKind.i64 a20) 1000), I (gate (Int.tmod (IntKind.wrap IntKind.i64 a21) 1000) (gate 1 (IntKind.wrap IntKind.i64 ↑(BitVec.toNat
  (BitVec.ofInt 64 (Int.tmod (IntKind.wrap IntKind.i64 a21) 1000) ||| BitVec.ofInt 64 1)))))]), AV.t (Tree.tup [Tree.agg [I (Tree.toInt (List.headD (Tree.cs (List.headD (Tree.tupl
  y_6) (Tree.bool false))) (Tree.bool false))), I (Tree.toInt (List.headD (List.tail (Tree.cs (List.headD (Tree.tupl y_6) (Tree.bool false)))) (Tree.bool false)))], I (Tree.toInt
  (List.headD (List.tail (Tree.tupl y_6)) (Tree.bool false)))]), AV.t (Tree.agg [I (Tree.toInt (List.headD (Tree.cs (List.headD (Tree.tupl y_6) (Tree.bool false))) (Tree.bool
  false))), I (Tree.toInt (List.headD (List.tail (Tree.cs (List.headD (Tree.tupl y_6) (Tree.bool false)))) (Tree.bool false)))]), AV.t (I (Tree.toInt (List.headD (List.tail
  (Tree.tupl y_6)) (Tree.bool false)))), AV.t (Tree.tup [Tree.agg [I (Tree.toInt (List.headD (Tree.cs (List.headD (Tree.tupl y_7) (Tree.bool false))) (Tree.bool false))), I
  (Tree.toInt (List.headD (List.tail (Tree.cs (List.headD (Tree.tupl y_7) (Tree.bool false)))) (Tree.bool false)))], I (Tree.toInt (List.headD (List.tail (Tree.tupl y_7)) (Tree.bool
  false)))]), AV.t (Tree.agg [I (Tree.toInt (List.headD (Tree.cs (List.headD (Tree.tupl y_5) (Tree.bool false))) (Tree.bool false))), I (Tree.toInt (List.headD (List.tail (Tree.cs
  (List.headD (Tree.tupl y_5) (Tree.bool false)))) (Tree.bool false)))]), AV.t (Tree.agg [I (Tree.toInt (List.headD (Tree.cs (List.headD (Tree.tupl y_6) (Tree.bool false)))
  (Tree.bool false))), I (Tree.toInt (List.headD (List.tail (Tree.cs (List.headD (Tree.tupl y_6) (Tree.bool false)))) (Tree.bool false)))]), AV.t (Tree.tup [Tree.agg [I (Tree.toInt
  (List.headD (Tree.cs (List.headD (Tree.tupl y_7) (Tree.bool false))) (Tree.bool false))), I (Tree.toInt (List.headD (List.tail (Tree.cs (List.headD (Tree.tupl y_7) (Tree.bool
  false)))) (Tree.bool false)))], I (Tree.toInt (List.headD (List.tail (Tree.tupl y_7)) (Tree.bool false)))]), AV.t (Tree.agg [I (Tree.toInt (List.headD (Tree.cs (List.headD
  (Tree.tupl y_7) (Tree.bool false))) (Tree.bool false))), I (Tree.toInt (List.headD (List.tail (Tree.cs (List.headD (Tree.tupl y_7) (Tree.bool false)))) (Tree.bool false)))]), AV.t
  (I (Tree.toInt (List.headD (List.tail (Tree.tupl y_7)) (Tree.bool false)))), AV.t (Tree.tup [Tree.agg [I (Tree.toInt (List.headD (Tree.cs (List.headD (Tree.tupl y_8) (Tree.bool
  false))) (Tree.bool false))), I (Tree.toInt (List.headD (List.tail (Tree.cs (List.headD (Tree.tupl y_8) (Tree.bool false)))) (Tree.bool false)))], I (Tree.toInt (List.headD
  (List.tail (Tree.tupl y_8)) (Tree.bool false)))]), AV.t (Tree.agg [I (Tree.toInt (List.headD (Tree.cs (List.headD (Tree.tupl y) (Tree.bool false))) (Tree.bool false))), I
  (Tree.toInt (List.headD (List.tail (Tree.cs (List.headD (Tree.tupl y) (Tree.bool false)))) (Tree.bool false)))]), AV.t (Tree.agg [I (Int.tmod (IntKind.wrap IntKind.i64 a20) 1000),
  I (gate (Int.tmod (IntKind.wrap IntKind.i64 a21) 1000) (gate 1 (IntKind.wrap IntKind.i64 ↑(BitVec.toNat (BitVec.ofInt 64 (Int.tmod (IntKind.wrap IntKind.i64 a21) 1000) |||
  BitVec.ofInt 64 1)))))]), AV.t (Tree.tup [Tree.agg [I (Tree.toInt (List.headD (Tree.cs (List.headD (Tree.tupl y_8) (Tree.bool false))) (Tree.bool false))), I (Tree.toInt
  (List.headD (List.tail (Tree.cs (List.headD (Tree.tupl y_8) (Tree.bool false)))) (Tree.bool false)))], I (Tree.toInt (List.headD (List.tail (Tree.tupl y_8)) (Tree.bool false)))]),
  AV.t (Tree.agg [I (Tree.toInt (List.headD (Tree.cs (List.headD (Tree.tupl y_8) (Tree.bool false))) (Tree.bool false))), I (Tree.toInt (List.headD (List.tail (Tree.cs (List.headD
  (Tree.tupl y_8) (Tree.bool false)))) (Tree.bool false)))]), AV.t (I (Tree.toInt (List.headD (List.tail (Tree.tupl y_8)) (Tree.bool false)))), AV.t (I (Tree.toInt (List.headD
  (List.tail (Tree.tupl y_5)) (Tree.bool false)))), AV.t (Tree.bool (Tree.toInt (List.headD (List.tail (Tree.tupl y_5)) (Tree.bool false)) == 0)), AV.t (Tree.bool true), AV.t (I
  (Tree.toInt (List.headD (List.tail (Tree.tupl y_6)) (Tree.bool false)))), AV.t (Tree.bool (Tree.toInt (List.headD (List.tail (Tree.tupl y_6)) (Tree.bool false)) == 0)), AV.t
  (Tree.bool (Tree.toInt (List.headD (List.tail (Tree.tupl y_6)) (Tree.bool false)) == 0)), AV.t (Tree.bool true), AV.t (I (Tree.toInt (List.headD (List.tail (Tree.tupl y_7))
  (Tree.bool false)))), AV.t (Tree.bool (Tree.toInt (List.headD (List.tail (Tree.tupl y_7)) (Tree.bool false)) == 0)), AV.t (Tree.bool (Tree.toInt (List.headD (List.tail (Tree.tupl
  y_7)) (Tree.bool false)) == 0)), AV.t (Tree.bool true), AV.t (I (Tree.toInt (List.headD (List.tail (Tree.tupl y_8)) (Tree.bool false)))), AV.t (Tree.bool (Tree.toInt (List.headD
  (List.tail (Tree.tupl y_8)) (Tree.bool false)) == 0)), AV.t (Tree.bool (Tree.toInt (List.headD (List.tail (Tree.tupl y_8)) (Tree.bool false)) == 0)), AV.t (Tree.bool true), AV.t
  (Tree.agg [I (Tree.toInt (List.headD (Tree.cs (List.headD (Tree.tupl y_7) (Tree.bool false))) (Tree.bool false))), I (Tree.toInt (List.headD (List.tail (Tree.cs (List.headD
  (Tree.tupl y_7) (Tree.bool false)))) (Tree.bool false)))]), AV.t (Tree.agg [I (Tree.toInt (List.headD (Tree.cs (List.headD (Tree.tupl y_8) (Tree.bool false))) (Tree.bool false))),
  I (Tree.toInt (List.headD (List.tail (Tree.cs (List.headD (Tree.tupl y_8) (Tree.bool false)))) (Tree.bool false)))]), AV.t (Tree.bool !(Tree.toInt (List.headD (Tree.cs (List.headD
  (Tree.tupl y_7) (Tree.bool false))) (Tree.bool false)) == Tree.toInt (List.headD (Tree.cs (List.headD (Tree.tupl y_8) (Tree.bool false))) (Tree.bool false)) && (Tree.toInt
  (List.headD (List.tail (Tree.cs (List.headD (Tree.tupl y_7) (Tree.bool false)))) (Tree.bool false)) == Tree.toInt (List.headD (List.tail (Tree.cs (List.headD (Tree.tupl y_8)
  (Tree.bool false)))) (Tree.bool false)) && true))), AV.t (Tree.bool true), AV.undef, AV.undef, AV.undef, AV.undef, AV.undef, AV.undef, AV.undef, AV.undef, AV.undef, AV.undef,
  AV.undef, AV.undef, AV.undef, AV.undef, AV.undef, AV.undef, AV.undef, AV.undef, AV.undef, AV.undef, AV.undef, AV.undef, AV.undef, AV.undef, AV.undef, AV.undef, AV.undef, AV.undef,
  AV.undef, AV.undef, AV.undef, AV.undef, AV.undef, AV.undef, AV.undef, AV.undef, AV.undef, AV.undef, AV.undef, AV.undef, AV.undef, AV.undef, AV.undef, AV.undef, AV.undef, AV.undef,
  AV.undef, AV.undef, AV.undef, AV.undef, AV.undef, AV.undef, AV.undef, AV.undef, AV.undef, AV.undef, AV.undef, AV.undef, AV.undef, AV.undef, AV.undef, AV.undef, AV.undef, AV.undef,
  AV.undef] [HObj.tre (Sh.agg [Sh.int IntKind.i16, Sh.int IntKind.i16]) [Tree.agg [Tree.int IntKind.i16 a00, Tree.int IntKind.i16 a01]], HObj.tre (Sh.agg [Sh.int IntKind.i16, Sh.int
  IntKind.i16]) [Tree.agg [Tree.int IntKind.i16 a10, Tree.int IntKind.i16 a11]], HObj.tre (Sh.agg [Sh.int IntKind.i16, Sh.int IntKind.i16]) [Tree.agg [Tree.int IntKind.i16 a20,
  Tree.int IntKind.i16 a21]], HObj.tre (Sh.agg [Sh.int IntKind.i64, Sh.int IntKind.i64]) [Tree.agg [I (Int.tmod (IntKind.wrap IntKind.i64 a00) 1000), I (gate (Int.tmod (IntKind.wrap
  IntKind.i64 a01) 1000) (gate 1 (IntKind.wrap IntKind.i64 ↑(BitVec.toNat (BitVec.ofInt 64 (Int.tmod (IntKind.wrap IntKind.i64 a01) 1000) ||| BitVec.ofInt 64 1)))))]], HObj.tre
  (Sh.agg [Sh.int IntKind.i64, Sh.int IntKind.i64]) [Tree.agg [I (Int.tmod (IntKind.wrap IntKind.i64 a10) 1000), I (gate (Int.tmod (IntKind.wrap IntKind.i64 a11) 1000) (gate 1
  (IntKind.wrap IntKind.i64 ↑(BitVec.toNat (BitVec.ofInt 64 (Int.tmod (IntKind.wrap IntKind.i64 a11) 1000) ||| BitVec.ofInt 64 1)))))]], HObj.tre (Sh.agg [Sh.int IntKind.i64, Sh.int
  IntKind.i64]) [Tree.agg [I (Int.tmod (IntKind.wrap IntKind.i64 a20) 1000), I (gate (Int.tmod (IntKind.wrap IntKind.i64 a21) 1000) (gate 1 (IntKind.wrap IntKind.i64 ↑(BitVec.toNat
  (BitVec.ofInt 64 (Int.tmod (IntKind.wrap IntKind.i64 a21) 1000) ||| BitVec.ofInt 64 1)))))]], HObj.tre (Sh.agg [Sh.int IntKind.i64, Sh.int IntKind.i64]) [Tree.agg [I (Tree.toInt
  (List.headD (Tree.cs (List.headD (Tree.tupl y) (Tree.bool false))) (Tree.bool false))), I (Tree.toInt (List.headD (List.tail (Tree.cs (List.headD (Tree.tupl y) (Tree.bool
  false)))) (Tree.bool false)))]], HObj.tre (Sh.agg [Sh.int IntKind.i64, Sh.int IntKind.i64]) [Tree.agg [I (Tree.toInt (List.headD (Tree.cs (List.headD (Tree.tupl y_1) (Tree.bool
  false))) (Tree.bool false))), I (Tree.toInt (List.headD (List.tail (Tree.cs (List.headD (Tree.tupl y_1) (Tree.bool false)))) (Tree.bool false)))]], HObj.tre (Sh.agg [Sh.int
  IntKind.i64, Sh.int IntKind.i64]) [Tree.agg [I (Tree.toInt (List.headD (Tree.cs (List.headD (Tree.tupl y_2) (Tree.bool false))) (Tree.bool false))), I (Tree.toInt (List.headD
  (List.tail (Tree.cs (List.headD (Tree.tupl y_2) (Tree.bool false)))) (Tree.bool false)))]], HObj.tre (Sh.agg [Sh.int IntKind.i64, Sh.int IntKind.i64]) [Tree.agg [I (Tree.toInt
  (List.headD (Tree.cs (List.headD (Tree.tupl y_3) (Tree.bool false))) (Tree.bool false))), I (Tree.toInt (List.headD (List.tail (Tree.cs (List.headD (Tree.tupl y_3) (Tree.bool
  false)))) (Tree.bool false)))]], HObj.tre (Sh.agg [Sh.int IntKind.i64, Sh.int IntKind.i64]) [Tree.agg [I (Tree.toInt (List.headD (Tree.cs (List.headD (Tree.tupl y_4) (Tree.bool
  false))) (Tree.bool false))), I (Tree.toInt (List.headD (List.tail (Tree.cs (List.headD (Tree.tupl y_4) (Tree.bool false)))) (Tree.bool false)))]], HObj.tre (Sh.agg [Sh.int
  IntKind.i64, Sh.int IntKind.i64]) [Tree.agg [I (Tree.toInt (List.headD (Tree.cs (List.headD (Tree.tupl y_5) (Tree.bool false))) (Tree.bool false))), I (Tree.toInt (List.headD
  (List.tail (Tree.cs (List.headD (Tree.tupl y_5) (Tree.bool false)))) (Tree.bool false)))]], HObj.tre (Sh.agg [Sh.int IntKind.i64, Sh.int IntKind.i64]) [Tree.agg [I (Tree.toInt
  (List.headD (Tree.cs (List.headD (Tree.tupl y_6) (Tree.bool false))) (Tree.bool false))), I (Tree.toInt (List.headD (List.tail (Tree.cs (List.headD (Tree.tupl y_6) (Tree.bool
  false)))) (Tree.bool false)))]], HObj.tre (Sh.agg [Sh.int IntKind.i64, Sh.int IntKind.i64]) [Tree.agg [I (Tree.toInt (List.headD (Tree.cs (List.headD (Tree.tupl y_7) (Tree.bool
  false))) (Tree.bool false))), I (Tree.toInt (List.headD (List.tail (Tree.cs (List.headD (Tree.tupl y_7) (Tree.bool false)))) (Tree.bool false)))]], HObj.tre (Sh.agg [Sh.int
  IntKind.i64, Sh.int IntKind.i64]) [Tree.agg [I (Tree.toInt (List.headD (Tree.cs (List.headD (Tree.tupl y_8) (Tree.bool false))) (Tree.bool false))), I (Tree.toInt (List.headD
  (List.tail (Tree.cs (List.headD (Tree.tupl y_8) (Tree.bool false)))) (Tree.bool false)))]]]) else K IExit.normal (St.mk [AV.t (Tree.agg [Tree.int IntKind.i16 a00, Tree.int
  IntKind.i16 a01]), AV.t (Tree.agg [Tree.int IntKind.i16 a10, Tree.int IntKind.i16 a11]), AV.t (Tree.agg [Tree.int IntKind.i16 a20, Tree.int IntKind.i16 a21]), AV.href 0 0 0,
  AV.href 1 0 0, AV.href 2 0 0, AV.t (Tree.bool false), AV.href 3 0 0, AV.href 4 0 0, AV.href 5 0 0, AV.href 6 0 0, AV.t (I (Tree.toInt (List.headD (List.tail (Tree.tupl y_5))
  (Tree.bool false)))), AV.href 7 0 0, AV.t (I (Tree.toInt (List.headD (List.tail (Tree.tupl y_6)) (Tree.bool false)))), AV.href 8 0 0, AV.t (I (Tree.toInt (List.headD (List.tail
  (Tree.tupl y_7)) (Tree.bool false)))), AV.href 9 0 0, AV.t (I (Tree.toInt (List.headD (List.tail (Tree.tupl y_8)) (Tree.bool false)))), AV.href 10 0 0, AV.t (I (Tree.toInt
  (List.headD (List.tail (Tree.tupl y_4)) (Tree.bool false)))), AV.href 11 0 0, AV.href 12 0 0, AV.href 13 0 0, AV.href 14 0 0, AV.undef, AV.undef, AV.undef, AV.undef, AV.undef,
  AV.undef, AV.undef, AV.undef, AV.undef, AV.undef, AV.undef, AV.undef, AV.href 0 0 0, AV.t (Tree.int IntKind.i16 a00), AV.t (I (IntKind.wrap IntKind.i64 a00)), AV.t (I (Int.tmod
  (IntKind.wrap IntKind.i64 a00) 1000)), AV.href 0 0 1, AV.t (Tree.int IntKind.i16 a01), AV.t (I (IntKind.wrap IntKind.i64 a01)), AV.t (I (Int.tmod (IntKind.wrap IntKind.i64 a01)
  1000)), AV.t (I (gate (Int.tmod (IntKind.wrap IntKind.i64 a01) 1000) (gate 1 (IntKind.wrap IntKind.i64 ↑(BitVec.toNat (BitVec.ofInt 64 (Int.tmod (IntKind.wrap IntKind.i64 a01)
  1000) ||| BitVec.ofInt 64 1)))))), AV.t (Tree.agg [I (Int.tmod (IntKind.wrap IntKind.i64 a00) 1000), I (gate (Int.tmod (IntKind.wrap IntKind.i64 a01) 1000) (gate 1 (IntKind.wrap
  IntKind.i64 ↑(BitVec.toNat (BitVec.ofInt 64 (Int.tmod (IntKind.wrap IntKind.i64 a01) 1000) ||| BitVec.ofInt 64 1)))))]), AV.href 1 0 0, AV.t (Tree.int IntKind.i16 a10), AV.t (I
  (IntKind.wrap IntKind.i64 a10)), AV.t (I (Int.tmod (IntKind.wrap IntKind.i64 a10) 1000)), AV.href 1 0 1, AV.t (Tree.int IntKind.i16 a11), AV.t (I (IntKind.wrap IntKind.i64 a11)),
  AV.t (I (Int.tmod (IntKind.wrap IntKind.i64 a11) 1000)), AV.t (I (gate (Int.tmod (IntKind.wrap IntKind.i64 a11) 1000) (gate 1 (IntKind.wrap IntKind.i64 ↑(BitVec.toNat
  (BitVec.ofInt 64 (Int.tmod (IntKind.wrap IntKind.i64 a11) 1000) ||| BitVec.ofInt 64 1)))))), AV.t (Tree.agg [I (Int.tmod (IntKind.wrap IntKind.i64 a10) 1000), I (gate (Int.tmod
  (IntKind.wrap IntKind.i64 a11) 1000) (gate 1 (IntKind.wrap IntKind.i64 ↑(BitVec.toNat (BitVec.ofInt 64 (Int.tmod (IntKind.wrap IntKind.i64 a11) 1000) ||| BitVec.ofInt 64 1)))))]),
  AV.href 2 0 0, AV.t (Tree.int IntKind.i16 a20), AV.t (I (IntKind.wrap IntKind.i64 a20)), AV.t (I (Int.tmod (IntKind.wrap IntKind.i64 a20) 1000)), AV.href 2 0 1, AV.t (Tree.int
  IntKind.i16 a21), AV.t (I (IntKind.wrap IntKind.i64 a21)), AV.t (I (Int.tmod (IntKind.wrap IntKind.i64 a21) 1000)), AV.t (I (gate (Int.tmod (IntKind.wrap IntKind.i64 a21) 1000)
  (gate 1 (IntKind.wrap IntKind.i64 ↑(BitVec.toNat (BitVec.ofInt 64 (Int.tmod (IntKind.wrap IntKind.i64 a21) 1000) ||| BitVec.ofInt 64 1)))))), AV.t (Tree.agg [I (Int.tmod
  (IntKind.wrap IntKind.i64 a20) 1000), I (gate (Int.tmod (IntKind.wrap IntKind.i64 a21) 1000) (gate 1 (IntKind.wrap IntKind.i64 ↑(BitVec.toNat (BitVec.ofInt 64 (Int.tmod
  (IntKind.wrap IntKind.i64 a21) 1000) ||| BitVec.ofInt 64 1)))))]), AV.t (Tree.tup [Tree.agg [I (Tree.toInt (List.headD (Tree.cs (List.headD (Tree.tupl y) (Tree.bool false)))
  (Tree.bool false))), I (Tree.toInt (List.headD (List.tail (Tree.cs (List.headD (Tree.tupl y) (Tree.bool false)))) (Tree.bool false)))], I (Tree.toInt (List.headD (List.tail
  (Tree.tupl y)) (Tree.bool false)))]), AV.t (Tree.agg [I (Int.tmod (IntKind.wrap IntKind.i64 a00) 1000), I (gate (Int.tmod (IntKind.wrap IntKind.i64 a01) 1000) (gate 1
  (IntKind.wrap IntKind.i64 ↑(BitVec.toNat (BitVec.ofInt 64 (Int.tmod (IntKind.wrap IntKind.i64 a01) 1000) ||| BitVec.ofInt 64 1)))))]), AV.t (Tree.agg [I (Int.tmod (IntKind.wrap
  IntKind.i64 a10) 1000), I (gate (Int.tmod (IntKind.wrap IntKind.i64 a11) 1000) (gate 1 (IntKind.wrap IntKind.i64 ↑(BitVec.toNat (BitVec.ofInt 64 (Int.tmod (IntKind.wrap
  IntKind.i64 a11) 1000) ||| BitVec.ofInt 64 1)))))]), AV.t (Tree.tup [Tree.agg [I (Tree.toInt (List.headD (Tree.cs (List.headD (Tree.tupl y) (Tree.bool false))) (Tree.bool
  false))), I (Tree.toInt (List.headD (List.tail (Tree.cs (List.headD (Tree.tupl y) (Tree.bool false)))) (Tree.bool false)))], I (Tree.toInt (List.headD (List.tail (Tree.tupl y))
  (Tree.bool false)))]), AV.t (Tree.agg [I (Tree.toInt (List.headD (Tree.cs (List.headD (Tree.tupl y) (Tree.bool false))) (Tree.bool false))), I (Tree.toInt (List.headD (List.tail
  (Tree.cs (List.headD (Tree.tupl y) (Tree.bool false)))) (Tree.bool false)))]), AV.t (I (Tree.toInt (List.headD (List.tail (Tree.tupl y)) (Tree.bool false)))), AV.t (Tree.tup
  [Tree.agg [I (Tree.toInt (List.headD (Tree.cs (List.headD (Tree.tupl y_1) (Tree.bool false))) (Tree.bool false))), I (Tree.toInt (List.headD (List.tail (Tree.cs (List.headD
  (Tree.tupl y_1) (Tree.bool false)))) (Tree.bool false)))], I (Tree.toInt (List.headD (List.tail (Tree.tupl y_1)) (Tree.bool false)))]), AV.t (Tree.agg [I (Int.tmod (IntKind.wrap
  IntKind.i64 a10) 1000), I (gate (Int.tmod (IntKind.wrap IntKind.i64 a11) 1000) (gate 1 (IntKind.wrap IntKind.i64 ↑(BitVec.toNat (BitVec.ofInt 64 (Int.tmod (IntKind.wrap
  IntKind.i64 a11) 1000) ||| BitVec.ofInt 64 1)))))]), AV.t (Tree.agg [I (Int.tmod (IntKind.wrap IntKind.i64 a00) 1000), I (gate (Int.tmod (IntKind.wrap IntKind.i64 a01) 1000) (gate
  1 (IntKind.wrap IntKind.i64 ↑(BitVec.toNat (BitVec.ofInt 64 (Int.tmod (IntKind.wrap IntKind.i64 a01) 1000) ||| BitVec.ofInt 64 1)))))]), AV.t (Tree.tup [Tree.agg [I (Tree.toInt
  (List.headD (Tree.cs (List.headD (Tree.tupl y_1) (Tree.bool false))) (Tree.bool false))), I (Tree.toInt (List.headD (List.tail (Tree.cs (List.headD (Tree.tupl y_1) (Tree.bool
  false)))) (Tree.bool false)))], I (Tree.toInt (List.headD (List.tail (Tree.tupl y_1)) (Tree.bool false)))]), AV.t (Tree.agg [I (Tree.toInt (List.headD (Tree.cs (List.headD
  (Tree.tupl y_1) (Tree.bool false))) (Tree.bool false))), I (Tree.toInt (List.headD (List.tail (Tree.cs (List.headD (Tree.tupl y_1) (Tree.bool false)))) (Tree.bool false)))]), AV.t
  (I (Tree.toInt (List.headD (List.tail (Tree.tupl y_1)) (Tree.bool false)))), AV.t (Tree.tup [Tree.agg [I (Tree.toInt (List.headD (Tree.cs (List.headD (Tree.tupl y_2) (Tree.bool
  false))) (Tree.bool false))), I (Tree.toInt (List.headD (List.tail (Tree.cs (List.headD (Tree.tupl y_2) (Tree.bool false)))) (Tree.bool false)))], I (Tree.toInt (List.headD
  (List.tail (Tree.tupl y_2)) (Tree.bool false)))]), AV.t (Tree.agg [I (Int.tmod (IntKind.wrap IntKind.i64 a10) 1000), I (gate (Int.tmod (IntKind.wrap IntKind.i64 a11) 1000) (gate 1
  (IntKind.wrap IntKind.i64 ↑(BitVec.toNat (BitVec.ofInt 64 (Int.tmod (IntKind.wrap IntKind.i64 a11) 1000) ||| BitVec.ofInt 64 1)))))]), AV.t (Tree.agg [I (Int.tmod (IntKind.wrap
  IntKind.i64 a20) 1000), I (gate (Int.tmod (IntKind.wrap IntKind.i64 a21) 1000) (gate 1 (IntKind.wrap IntKind.i64 ↑(BitVec.toNat (BitVec.ofInt 64 (Int.tmod (IntKind.wrap
  IntKind.i64 a21) 1000) ||| BitVec.ofInt 64 1)))))]), AV.t (Tree.tup [Tree.agg [I (Tree.toInt (List.headD (Tree.cs (List.headD (Tree.tupl y_2) (Tree.bool false))) (Tree.bool
  false))), I (Tree.toInt (List.headD (List.tail (Tree.cs (List.headD (Tree.tupl y_2) (Tree.bool false)))) (Tree.bool false)))], I (Tree.toInt (List.headD (List.tail (Tree.tupl
  y_2)) (Tree.bool false)))]), AV.t (Tree.agg [I (Tree.toInt (List.headD (Tree.cs (List.headD (Tree.tupl y_2) (Tree.bool false))) (Tree.bool false))), I (Tree.toInt (List.headD
  (List.tail (Tree.cs (List.headD (Tree.tupl y_2) (Tree.bool false)))) (Tree.bool false)))]), AV.t (I (Tree.toInt (List.headD (List.tail (Tree.tupl y_2)) (Tree.bool false)))), AV.t
  (Tree.tup [Tree.agg [I (Tree.toInt (List.headD (Tree.cs (List.headD (Tree.tupl y_3) (Tree.bool false))) (Tree.bool false))), I (Tree.toInt (List.headD (List.tail (Tree.cs
  (List.headD (Tree.tupl y_3) (Tree.bool false)))) (Tree.bool false)))], I (Tree.toInt (List.headD (List.tail (Tree.tupl y_3)) (Tree.bool false)))]), AV.t (Tree.agg [I (Tree.toInt
  (List.headD (Tree.cs (List.headD (Tree.tupl y) (Tree.bool false))) (Tree.bool false))), I (Tree.toInt (List.headD (List.tail (Tree.cs (List.headD (Tree.tupl y) (Tree.bool
  false)))) (Tree.bool false)))]), AV.t (Tree.agg [I (Int.tmod (IntKind.wrap IntKind.i64 a20) 1000), I (gate (Int.tmod (IntKind.wrap IntKind.i64 a21) 1000) (gate 1 (IntKind.wrap
  IntKind.i64 ↑(BitVec.toNat (BitVec.ofInt 64 (Int.tmod (IntKind.wrap IntKind.i64 a21) 1000) ||| BitVec.ofInt 64 1)))))]), AV.t (Tree.tup [Tree.agg [I (Tree.toInt (List.headD
  (Tree.cs (List.headD (Tree.tupl y_3) (Tree.bool false))) (Tree.bool false))), I (Tree.toInt (List.headD (List.tail (Tree.cs (List.headD (Tree.tupl y_3) (Tree.bool false))))
  (Tree.bool false)))], I (Tree.toInt (List.headD (List.tail (Tree.tupl y_3)) (Tree.bool false)))]), AV.t (Tree.agg [I (Tree.toInt (List.headD (Tree.cs (List.headD (Tree.tupl y_3)
  (Tree.bool false))) (Tree.bool false))), I (Tree.toInt (List.headD (List.tail (Tree.cs (List.headD (Tree.tupl y_3) (Tree.bool false)))) (Tree.bool false)))]), AV.t (I (Tree.toInt
  (List.headD (List.tail (Tree.tupl y_3)) (Tree.bool false)))), AV.t (Tree.tup [Tree.agg [I (Tree.toInt (List.headD (Tree.cs (List.headD (Tree.tupl y_4) (Tree.bool false)))
  (Tree.bool false))), I (Tree.toInt (List.headD (List.tail (Tree.cs (List.headD (Tree.tupl y_4) (Tree.bool false)))) (Tree.bool false)))], I (Tree.toInt (List.headD (List.tail
  (Tree.tupl y_4)) (Tree.bool false)))]), AV.t (Tree.agg [I (Int.tmod (IntKind.wrap IntKind.i64 a00) 1000), I (gate (Int.tmod (IntKind.wrap IntKind.i64 a01) 1000) (gate 1
  (IntKind.wrap IntKind.i64 ↑(BitVec.toNat (BitVec.ofInt 64 (Int.tmod (IntKind.wrap IntKind.i64 a01) 1000) ||| BitVec.ofInt 64 1)))))]), AV.t (Tree.agg [I (Tree.toInt (List.headD
  (Tree.cs (List.headD (Tree.tupl y_2) (Tree.bool false))) (Tree.bool false))), I (Tree.toInt (List.headD (List.tail (Tree.cs (List.headD (Tree.tupl y_2) (Tree.bool false))))
  (Tree.bool false)))]), AV.t (Tree.tup [Tree.agg [I (Tree.toInt (List.headD (Tree.cs (List.headD (Tree.tupl y_4) (Tree.bool false))) (Tree.bool false))), I (Tree.toInt (List.headD
  (List.tail (Tree.cs (List.headD (Tree.tupl y_4) (Tree.bool false)))) (Tree.bool false)))], I (Tree.toInt (List.headD (List.tail (Tree.tupl y_4)) (Tree.bool false)))]), AV.t
  (Tree.agg [I (Tree.toInt (List.headD (Tree.cs (List.headD (Tree.tupl y_4) (Tree.bool false))) (Tree.bool false))), I (Tree.toInt (List.headD (List.tail (Tree.cs (List.headD
  (Tree.tupl y_4) (Tree.bool false)))) (Tree.bool false)))]), AV.t (I (Tree.toInt (List.headD (List.tail (Tree.tupl y_4)) (Tree.bool false)))), AV.t (I (Tree.toInt (List.headD
  (List.tail (Tree.tupl y)) (Tree.bool false)))), AV.t (Tree.bool (Tree.toInt (List.headD (List.tail (Tree.tupl y)) (Tree.bool false)) != 0)), AV.t (Tree.bool false), AV.t (I
  (Tree.toInt (List.headD (List.tail (Tree.tupl y_1)) (Tree.bool false)))), AV.t (Tree.bool (Tree.toInt (List.headD (List.tail (Tree.tupl y_1)) (Tree.bool false)) != 0)), AV.t
  (Tree.bool (Tree.toInt (List.headD (List.tail (Tree.tupl y_1)) (Tree.bool false)) != 0)), AV.t (Tree.bool false), AV.t (I (Tree.toInt (List.headD (List.tail (Tree.tupl y_2))
  (Tree.bool false)))), AV.t (Tree.bool (Tree.toInt (List.headD (List.tail (Tree.tupl y_2)) (Tree.bool false)) != 0)), AV.t (Tree.bool (Tree.toInt (List.headD (List.tail (Tree.tupl
  y_2)) (Tree.bool false)) != 0)), AV.t (Tree.bool false), AV.t (I (Tree.toInt (List.headD (List.tail (Tree.tupl y_3)) (Tree.bool false)))), AV.t (Tree.bool (Tree.toInt (List.headD
  (List.tail (Tree.tupl y_3)) (Tree.bool false)) != 0)), AV.t (Tree.bool (Tree.toInt (List.headD (List.tail (Tree.tupl y_3)) (Tree.bool false)) != 0)), AV.t (Tree.bool false), AV.t
  (I (Tree.toInt (List.headD (List.tail (Tree.tupl y_4)) (Tree.bool false)))), AV.t (Tree.bool (Tree.toInt (List.headD (List.tail (Tree.tupl y_4)) (Tree.bool false)) != 0)), AV.t
  (Tree.bool (Tree.toInt (List.headD (List.tail (Tree.tupl y_4)) (Tree.bool false)) != 0)), AV.t (Tree.bool false), AV.t (Tree.agg [I (Tree.toInt (List.headD (Tree.cs (List.headD
  (Tree.tupl y) (Tree.bool false))) (Tree.bool false))), I (Tree.toInt (List.headD (List.tail (Tree.cs (List.headD (Tree.tupl y) (Tree.bool false)))) (Tree.bool false)))]), AV.t
  (Tree.agg [I (Tree.toInt (List.headD (Tree.cs (List.headD (Tree.tupl y_1) (Tree.bool false))) (Tree.bool false))), I (Tree.toInt (List.headD (List.tail (Tree.cs (List.headD
  (Tree.tupl y_1) (Tree.bool false)))) (Tree.bool false)))]), AV.t (Tree.bool !(Tree.toInt (List.headD (Tree.cs (List.headD (Tree.tupl y) (Tree.bool false))) (Tree.bool false)) ==
  Tree.toInt (List.headD (Tree.cs (List.headD (Tree.tupl y_1) (Tree.bool false))) (Tree.bool false)) && (Tree.toInt (List.headD (List.tail (Tree.cs (List.headD (Tree.tupl y)
  (Tree.bool false)))) (Tree.bool false)) == Tree.toInt (List.headD (List.tail (Tree.cs (List.headD (Tree.tupl y_1) (Tree.bool false)))) (Tree.bool false)) && true))), AV.t
  (Tree.bool !(Tree.toInt (List.headD (Tree.cs (List.headD (Tree.tupl y) (Tree.bool false))) (Tree.bool false)) == Tree.toInt (List.headD (Tree.cs (List.headD (Tree.tupl y_1)
  (Tree.bool false))) (Tree.bool false)) && (Tree.toInt (List.headD (List.tail (Tree.cs (List.headD (Tree.tupl y) (Tree.bool false)))) (Tree.bool false)) == Tree.toInt (List.headD
  (List.tail (Tree.cs (List.headD (Tree.tupl y_1) (Tree.bool false)))) (Tree.bool false)) && true))), AV.t (Tree.bool false), AV.t (Tree.agg [I (Tree.toInt (List.headD (Tree.cs
  (List.headD (Tree.tupl y_3) (Tree.bool false))) (Tree.bool false))), I (Tree.toInt (List.headD (List.tail (Tree.cs (List.headD (Tree.tupl y_3) (Tree.bool false)))) (Tree.bool
  false)))]), AV.t (Tree.agg [I (Tree.toInt (List.headD (Tree.cs (List.headD (Tree.tupl y_4) (Tree.bool false))) (Tree.bool false))), I (Tree.toInt (List.headD (List.tail (Tree.cs
  (List.headD (Tree.tupl y_4) (Tree.bool false)))) (Tree.bool false)))]), AV.t (Tree.bool !(Tree.toInt (List.headD (Tree.cs (List.headD (Tree.tupl y_3) (Tree.bool false)))
  (Tree.bool false)) == Tree.toInt (List.headD (Tree.cs (List.headD (Tree.tupl y_4) (Tree.bool false))) (Tree.bool false)) && (Tree.toInt (List.headD (List.tail (Tree.cs (List.headD
  (Tree.tupl y_3) (Tree.bool false)))) (Tree.bool false)) == Tree.toInt (List.headD (List.tail (Tree.cs (List.headD (Tree.tupl y_4) (Tree.bool false)))) (Tree.bool false)) &&
  true))), AV.t (Tree.bool false), AV.t (Tree.tup [Tree.agg [I (Tree.toInt (List.headD (Tree.cs (List.headD (Tree.tupl y_5) (Tree.bool false))) (Tree.bool false))), I (Tree.toInt
  (List.headD (List.tail (Tree.cs (List.headD (Tree.tupl y_5) (Tree.bool false)))) (Tree.bool false)))], I (Tree.toInt (List.headD (List.tail (Tree.tupl y_5)) (Tree.bool false)))]),
  AV.t (Tree.agg [I (Int.tmod (IntKind.wrap IntKind.i64 a00) 1000), I (gate (Int.tmod (IntKind.wrap IntKind.i64 a01) 1000) (gate 1 (IntKind.wrap IntKind.i64 ↑(BitVec.toNat
  (BitVec.ofInt 64 (Int.tmod (IntKind.wrap IntKind.i64 a01) 1000) ||| BitVec.ofInt 64 1)))))]), AV.t (Tree.agg [I (Int.tmod (IntKind.wrap IntKind.i64 a20) 1000), I (gate (Int.tmod
  (IntKind.wrap IntKind.i64 a21) 1000) (gate 1 (IntKind.wrap IntKind.i64 ↑(BitVec.toNat (BitVec.ofInt 64 (Int.tmod (IntKind.wrap IntKind.i64 a21) 1000) ||| BitVec.ofInt 64 1)))))]),
  AV.t (Tree.tup [Tree.agg [I (Tree.toInt (List.headD (Tree.cs (List.headD (Tree.tupl y_5) (Tree.bool false))) (Tree.bool false))), I (Tree.toInt (List.headD (List.tail (Tree.cs
  (List.headD (Tree.tupl y_5) (Tree.bool false)))) (Tree.bool false)))], I (Tree.toInt (List.headD (List.tail (Tree.tupl y_5)) (Tree.bool false)))]), AV.t (Tree.agg [I (Tree.toInt
  (List.headD (Tree.cs (List.headD (Tree.tupl y_5) (Tree.bool false))) (Tree.bool false))), I (Tree.toInt (List.headD (List.tail (Tree.cs (List.headD (Tree.tupl y_5) (Tree.bool
  false)))) (Tree.bool false)))]), AV.t (I (Tree.toInt (List.headD (List.tail (Tree.tupl y_5)) (Tree.bool false)))), AV.t (Tree.tup [Tree.agg [I (Tree.toInt (List.headD (Tree.cs
  (List.headD (Tree.tupl y_6) (Tree.bool false))) (Tree.bool false))), I (Tree.toInt (List.headD (List.tail (Tree.cs (List.headD (Tree.tupl y_6) (Tree.bool false)))) (Tree.bool
  false)))], I (Tree.toInt (List.headD (List.tail (Tree.tupl y_6)) (Tree.bool false)))]), AV.t (Tree.agg [I (Int.tmod (IntKind.wrap IntKind.i64 a10) 1000), I (gate (Int.tmod
  (IntKind.wrap IntKind.i64 a11) 1000) (gate 1 (IntKind.wrap IntKind.i64 ↑(BitVec.toNat (BitVec.ofInt 64 (Int.tmod (IntKind.wrap IntKind.i64 a11) 1000) ||| BitVec.ofInt 64 1)))))]),
  AV.t (Tree.agg [I (Int.tmod (IntKind.wrap IntKind.i64 a20) 1000), I (gate (Int.tmod (IntKind.wrap IntKind.i64 a21) 1000) (gate 1 (IntKind.wrap IntKind.i64 ↑(BitVec.toNat
  (BitVec.ofInt 64 (Int.tmod (IntKind.wrap IntKind.i64 a21) 1000) ||| BitVec.ofInt 64 1)))))]), AV.t (Tree.tup [Tree.agg [I (Tree.toInt (List.headD (Tree.cs (List.headD (Tree.tupl
  y_6) (Tree.bool false))) (Tree.bool false))), I (Tree.toInt (List.headD (List.tail (Tree.cs (List.headD (Tree.tupl y_6) (Tree.bool false)))) (Tree.bool false)))], I (Tree.toInt
  (List.headD (List.tail (Tree.tupl y_6)) (Tree.bool false)))]), AV.t (Tree.agg [I (Tree.toInt (List.headD (Tree.cs (List.headD (Tree.tupl y_6) (Tree.bool false))) (Tree.bool
  false))), I (Tree.toInt (List.headD (List.tail (Tree.cs (List.headD (Tree.tupl y_6) (Tree.bool false)))) (Tree.bool false)))]), AV.t (I (Tree.toInt (List.headD (List.tail
  (Tree.tupl y_6)) (Tree.bool false)))), AV.t (Tree.tup [Tree.agg [I (Tree.toInt (List.headD (Tree.cs (List.headD (Tree.tupl y_7) (Tree.bool false))) (Tree.bool false))), I
  (Tree.toInt (List.headD (List.tail (Tree.cs (List.headD (Tree.tupl y_7) (Tree.bool false)))) (Tree.bool false)))], I (Tree.toInt (List.headD (List.tail (Tree.tupl y_7)) (Tree.bool
  false)))]), AV.t (Tree.agg [I (Tree.toInt (List.headD (Tree.cs (List.headD (Tree.tupl y_5) (Tree.bool false))) (Tree.bool false))), I (Tree.toInt (List.headD (List.tail (Tree.cs
  (List.headD (Tree.tupl y_5) (Tree.bool false)))) (Tree.bool false)))]), AV.t (Tree.agg [I (Tree.toInt (List.headD (Tree.cs (List.headD (Tree.tupl y_6) (Tree.bool false)))
  (Tree.bool false))), I (Tree.toInt (List.headD (List.tail (Tree.cs (List.headD (Tree.tupl y_6) (Tree.bool false)))) (Tree.bool false)))]), AV.t (Tree.tup [Tree.agg [I (Tree.toInt
  (List.headD (Tree.cs (List.headD (Tree.tupl y_7) (Tree.bool false))) (Tree.bool false))), I (Tree.toInt (List.headD (List.tail (Tree.cs (List.headD (Tree.tupl y_7) (Tree.bool
  false)))) (Tree.bool false)))], I (Tree.toInt (List.headD (List.tail (Tree.tupl y_7)) (Tree.bool false)))]), AV.t (Tree.agg [I (Tree.toInt (List.headD (Tree.cs (List.headD
  (Tree.tupl y_7) (Tree.bool false))) (Tree.bool false))), I (Tree.toInt (List.headD (List.tail (Tree.cs (List.headD (Tree.tupl y_7) (Tree.bool false)))) (Tree.bool false)))]), AV.t
  (I (Tree.toInt (List.headD (List.tail (Tree.tupl y_7)) (Tree.bool false)))), AV.t (Tree.tup [Tree.agg [I (Tree.toInt (List.headD (Tree.cs (List.headD (Tree.tupl y_8) (Tree.bool
  false))) (Tree.bool false))), I (Tree.toInt (List.headD (List.tail (Tree.cs (List.headD (Tree.tupl y_8) (Tree.bool false)))) (Tree.bool false)))], I (Tree.toInt (List.headD
  (List.tail (Tree.tupl y_8)) (Tree.bool false)))]), AV.t (Tree.agg [I (Tree.toInt (List.headD (Tree.cs (List.headD (Tree.tupl y) (Tree.bool false))) (Tree.bool false))), I
  (Tree.toInt (List.headD (List.tail (Tree.cs (List.headD (Tree.tupl y) (Tree.bool false)))) (Tree.bool false)))]), AV.t (Tree.agg [I (Int.tmod (IntKind.wrap IntKind.i64 a20) 1000),
  I (gate (Int.tmod (IntKind.wrap IntKind.i64 a21) 1000) (gate 1 (IntKind.wrap IntKind.i64 ↑(BitVec.toNat (BitVec.ofInt 64 (Int.tmod (IntKind.wrap IntKind.i64 a21) 1000) |||
  BitVec.ofInt 64 1)))))]), AV.t (Tree.tup [Tree.agg [I (Tree.toInt (List.headD (Tree.cs (List.headD (Tree.tupl y_8) (Tree.bool false))) (Tree.bool false))), I (Tree.toInt
  (List.headD (List.tail (Tree.cs (List.headD (Tree.tupl y_8) (Tree.bool false)))) (Tree.bool false)))], I (Tree.toInt (List.headD (List.tail (Tree.tupl y_8)) (Tree.bool false)))]),
  AV.t (Tree.agg [I (Tree.toInt (List.headD (Tree.cs (List.headD (Tree.tupl y_8) (Tree.bool false))) (Tree.bool false))), I (Tree.toInt (List.headD (List.tail (Tree.cs (List.headD
  (Tree.tupl y_8) (Tree.bool false)))) (Tree.bool false)))]), AV.t (I (Tree.toInt (List.headD (List.tail (Tree.tupl y_8)) (Tree.bool false)))), AV.t (I (Tree.toInt (List.headD
  (List.tail (Tree.tupl y_5)) (Tree.bool false)))), AV.t (Tree.bool (Tree.toInt (List.headD (List.tail (Tree.tupl y_5)) (Tree.bool false)) == 0)), AV.t (Tree.bool true), AV.t (I
  (Tree.toInt (List.headD (List.tail (Tree.tupl y_6)) (Tree.bool false)))), AV.t (Tree.bool (Tree.toInt (List.headD (List.tail (Tree.tupl y_6)) (Tree.bool false)) == 0)), AV.t
  (Tree.bool (Tree.toInt (List.headD (List.tail (Tree.tupl y_6)) (Tree.bool false)) == 0)), AV.t (Tree.bool true), AV.t (I (Tree.toInt (List.headD (List.tail (Tree.tupl y_7))
  (Tree.bool false)))), AV.t (Tree.bool (Tree.toInt (List.headD (List.tail (Tree.tupl y_7)) (Tree.bool false)) == 0)), AV.t (Tree.bool (Tree.toInt (List.headD (List.tail (Tree.tupl
  y_7)) (Tree.bool false)) == 0)), AV.t (Tree.bool true), AV.t (I (Tree.toInt (List.headD (List.tail (Tree.tupl y_8)) (Tree.bool false)))), AV.t (Tree.bool (Tree.toInt (List.headD
  (List.tail (Tree.tupl y_8)) (Tree.bool false)) == 0)), AV.t (Tree.bool (Tree.toInt (List.headD (List.tail (Tree.tupl y_8)) (Tree.bool false)) == 0)), AV.t (Tree.bool true), AV.t
  (Tree.agg [I (Tree.toInt (List.headD (Tree.cs (List.headD (Tree.tupl y_7) (Tree.bool false))) (Tree.bool false))), I (Tree.toInt (List.headD (List.tail (Tree.cs (List.headD
  (Tree.tupl y_7) (Tree.bool false)))) (Tree.bool false)))]), AV.t (Tree.agg [I (Tree.toInt (List.headD (Tree.cs (List.headD (Tree.tupl y_8) (Tree.bool false))) (Tree.bool false))),
  I (Tree.toInt (List.headD (List.tail (Tree.cs (List.headD (Tree.tupl y_8) (Tree.bool false)))) (Tree.bool false)))]), AV.t (Tree.bool !(Tree.toInt (List.headD (Tree.cs (List.headD
  (Tree.tupl y_7) (Tree.bool false))) (Tree.bool false)) == Tree.toInt (List.headD (Tree.cs (List.headD (Tree.tupl y_8) (Tree.bool false))) (Tree.bool false)) && (Tree.toInt
  (List.headD (List.tail (Tree.cs (List.headD (Tree.tupl y_7) (Tree.bool false)))) (Tree.bool false)) == Tree.toInt (List.headD (List.tail (Tree.cs (List.headD (Tree.tupl y_8)
  (Tree.bool false)))) (Tree.bool false)) && true))), AV.t (Tree.bool false), AV.undef, AV.undef, AV.undef, AV.undef, AV.undef, AV.undef, AV.undef, AV.undef, AV.undef, AV.undef,
  AV.undef, AV.undef, AV.undef, AV.undef, AV.undef, AV.undef, AV.undef, AV.undef, AV.undef, AV.undef, AV.undef, AV.undef, AV.undef, AV.undef, AV.undef, AV.undef, AV.undef, AV.undef,
  AV.undef, AV.undef, AV.undef, AV.undef, AV.undef, AV.undef, AV.undef, AV.undef, AV.undef, AV.undef, AV.undef, AV.undef, AV.undef, AV.undef, AV.undef, AV.undef, AV.undef, AV.undef,
  AV.undef, AV.undef, AV.undef, AV.undef, AV.undef, AV.undef, AV.undef, AV.undef, AV.undef, AV.undef, AV.undef, AV.undef, AV.undef, AV.undef, AV.undef, AV.undef, AV.undef, AV.undef,
  AV.undef] [HObj.tre (Sh.agg [Sh.int IntKind.i16, Sh.int IntKind.i16]) [Tree.agg [Tree.int IntKind.i16 a00, Tree.int IntKind.i16 a01]], HObj.tre (Sh.agg [Sh.int IntKind.i16, Sh.int
  IntKind.i16]) [Tree.agg [Tree.int IntKind.i16 a10, Tree.int IntKind.i16 a11]], HObj.tre (Sh.agg [Sh.int IntKind.i16, Sh.int IntKind.i16]) [Tree.agg [Tree.int IntKind.i16 a20,
  Tree.int IntKind.i16 a21]], HObj.tre (Sh.agg [Sh.int IntKind.i64, Sh.int IntKind.i64]) [Tree.agg [I (Int.tmod (IntKind.wrap IntKind.i64 a00) 1000), I (gate (Int.tmod (IntKind.wrap
  IntKind.i64 a01) 1000) (gate 1 (IntKind.wrap IntKind.i64 ↑(BitVec.toNat (BitVec.ofInt 64 (Int.tmod (IntKind.wrap IntKind.i64 a01) 1000) ||| BitVec.ofInt 64 1)))))]], HObj.tre
  (Sh.agg [Sh.int IntKind.i64, Sh.int IntKind.i64]) [Tree.agg [I (Int.tmod (IntKind.wrap IntKind.i64 a10) 1000), I (gate (Int.tmod (IntKind.wrap IntKind.i64 a11) 1000) (gate 1
  (IntKind.wrap IntKind.i64 ↑(BitVec.toNat (BitVec.ofInt 64 (Int.tmod (IntKind.wrap IntKind.i64 a11) 1000) ||| BitVec.ofInt 64 1)))))]], HObj.tre (Sh.agg [Sh.int IntKind.i64, Sh.int
  IntKind.i64]) [Tree.agg [I (Int.tmod (IntKind.wrap IntKind.i64 a20) 1000), I (gate (Int.tmod (IntKind.wrap IntKind.i64 a21) 1000) (gate 1 (IntKind.wrap IntKind.i64 ↑(BitVec.toNat
  (BitVec.ofInt 64 (Int.tmod (IntKind.wrap IntKind.i64 a21) 1000) ||| BitVec.ofInt 64 1)))))]], HObj.tre (Sh.agg [Sh.int IntKind.i64, Sh.int IntKind.i64]) [Tree.agg [I (Tree.toInt
  (List.headD (Tree.cs (List.headD (Tree.tupl y) (Tree.bool false))) (Tree.bool false))), I (Tree.toInt (List.headD (List.tail (Tree.cs (List.headD (Tree.tupl y) (Tree.bool
  false)))) (Tree.bool false)))]], HObj.tre (Sh.agg [Sh.int IntKind.i64, Sh.int IntKind.i64]) [Tree.agg [I (Tree.toInt (List.headD (Tree.cs (List.headD (Tree.tupl y_1) (Tree.bool
  false))) (Tree.bool false))), I (Tree.toInt (List.headD (List.tail (Tree.cs (List.headD (Tree.tupl y_1) (Tree.bool false)))) (Tree.bool false)))]], HObj.tre (Sh.agg [Sh.int
  IntKind.i64, Sh.int IntKind.i64]) [Tree.agg [I (Tree.toInt (List.headD (Tree.cs (List.headD (Tree.tupl y_2) (Tree.bool false))) (Tree.bool false))), I (Tree.toInt (List.headD
  (List.tail (Tree.cs (List.headD (Tree.tupl y_2) (Tree.bool false)))) (Tree.bool false)))]], HObj.tre (Sh.agg [Sh.int IntKind.i64, Sh.int IntKind.i64]) [Tree.agg [I (Tree.toInt
  (List.headD (Tree.cs (List.headD (Tree.tupl y_3) (Tree.bool false))) (Tree.bool false))), I (Tree.toInt (List.headD (List.tail (Tree.cs (List.headD (Tree.tupl y_3) (Tree.bool
  false)))) (Tree.bool false)))]], HObj.tre (Sh.agg [Sh.int IntKind.i64, Sh.int IntKind.i64]) [Tree.agg [I (Tree.toInt (List.headD (Tree.cs (List.headD (Tree.tupl y_4) (Tree.bool
  false))) (Tree.bool false))), I (Tree.toInt (List.headD (List.tail (Tree.cs (List.headD (Tree.tupl y_4) (Tree.bool false)))) (Tree.bool false)))]], HObj.tre (Sh.agg [Sh.int
  IntKind.i64, Sh.int IntKind.i64]) [Tree.agg [I (Tree.toInt (List.headD (Tree.cs (List.headD (Tree.tupl y_5) (Tree.bool false))) (Tree.bool false))), I (Tree.toInt (List.headD
  (List.tail (Tree.cs (List.headD (Tree.tupl y_5) (Tree.bool false)))) (Tree.bool false)))]], HObj.tre (Sh.agg [Sh.int IntKind.i64, Sh.int IntKind.i64]) [Tree.agg [I (Tree.toInt
  (List.headD (Tree.cs (List.headD (Tree.tupl y_6) (Tree.bool false))) (Tree.bool false))), I (Tree.toInt (List.headD (List.tail (Tree.cs (List.headD (Tree.tupl y_6) (Tree.bool
  false)))) (Tree.bool false)))]], HObj.tre (Sh.agg [Sh.int IntKind.i64, Sh.int IntKind.i64]) [Tree.agg [I (Tree.toInt (List.headD (Tree.cs (List.headD (Tree.tupl y_7) (Tree.bool
  false))) (Tree.bool false))), I (Tree.toInt (List.headD (List.tail (Tree.cs (List.headD (Tree.tupl y_7) (Tree.bool false)))) (Tree.bool false)))]], HObj.tre (Sh.agg [Sh.int
  IntKind.i64, Sh.int IntKind.i64]) [Tree.agg [I (Tree.toInt (List.headD (Tree.cs (List.headD (Tree.tupl y_8) (Tree.bool false))) (Tree.bool false))), I (Tree.toInt (List.headD
  (List.tail (Tree.cs (List.headD (Tree.tupl y_8) (Tree.bool false)))) (Tree.bool false)))]]]) else K IExit.normal (St.mk [AV.t (Tree.agg [Tree.int IntKind.i16 a00, Tree.int
  IntKind.i16 a01]), AV.t (Tree.agg [Tree.int IntKind.i16 a10, Tree.int IntKind.i16 a11]), AV.t (Tree.agg [Tree.int IntKind.i16 a20, Tree.int IntKind.i16 a21]), AV.href 0 0 0,
  AV.href 1 0 0, AV.href 2 0 0, AV.t (Tree.bool false), AV.href 3 0 0, AV.href 4 0 0, AV.href 5 0 0, AV.href 6 0 0, AV.t (I (Tree.toInt (List.headD (List.tail (Tree.tupl y_5))
  (Tree.bool false)))), AV.href 7 0 0, AV.t (I (Tree.toInt (List.headD (List.tail (Tree.tupl y_6)) (Tree.bool false)))), AV.href 8 0 0, AV.t (I (Tree.toInt (List.headD (List.tail
  (Tree.tupl y_7)) (Tree.bool false)))), AV.href 9 0 0, AV.t (I (Tree.toInt (List.headD (List.tail (Tree.tupl y_8)) (Tree.bool false)))), AV.href 10 0 0, AV.t (I (Tree.toInt
  (List.headD (List.tail (Tree.tupl y_4)) (Tree.bool false)))), AV.href 11 0 0, AV.href 12 0 0, AV.href 13 0 0, AV.href 14 0 0, AV.undef, AV.undef, AV.undef, AV.undef, AV.undef,
  AV.undef, AV.undef, AV.undef, AV.undef, AV.undef, AV.undef, AV.undef, AV.href 0 0 0, AV.t (Tree.int IntKind.i16 a00), AV.t (I (IntKind.wrap IntKind.i64 a00)), AV.t (I (Int.tmod
  (IntKind.wrap IntKind.i64 a00) 1000)), AV.href 0 0 1, AV.t (Tree.int IntKind.i16 a01), AV.t (I (IntKind.wrap IntKind.i64 a01)), AV.t (I (Int.tmod (IntKind.wrap IntKind.i64 a01)
  1000)), AV.t (I (gate (Int.tmod (IntKind.wrap IntKind.i64 a01) 1000) (gate 1 (IntKind.wrap IntKind.i64 ↑(BitVec.toNat (BitVec.ofInt 64 (Int.tmod (IntKind.wrap IntKind.i64 a01)
  1000) ||| BitVec.ofInt 64 1)))))), AV.t (Tree.agg [I (Int.tmod (IntKind.wrap IntKind.i64 a00) 1000), I (gate (Int.tmod (IntKind.wrap IntKind.i64 a01) 1000) (gate 1 (IntKind.wrap
  IntKind.i64 ↑(BitVec.toNat (BitVec.ofInt 64 (Int.tmod (IntKind.wrap IntKind.i64 a01) 1000) ||| BitVec.ofInt 64 1)))))]), AV.href 1 0 0, AV.t (Tree.int IntKind.i16 a10), AV.t (I
  (IntKind.wrap IntKind.i64 a10)), AV.t (I (Int.tmod (IntKind.wrap IntKind.i64 a10) 1000)), AV.href 1 0 1, AV.t (Tree.int IntKind.i16 a11), AV.t (I (IntKind.wrap IntKind.i64 a11)),
  AV.t (I (Int.tmod (IntKind.wrap IntKind.i64 a11) 1000)), AV.t (I (gate (Int.tmod (IntKind.wrap IntKind.i64 a11) 1000) (gate 1 (IntKind.wrap IntKind.i64 ↑(BitVec.toNat
  (BitVec.ofInt 64 (Int.tmod (IntKind.wrap IntKind.i64 a11) 1000) ||| BitVec.ofInt 64 1)))))), AV.t (Tree.agg [I (Int.tmod (IntKind.wrap IntKind.i64 a10) 1000), I (gate (Int.tmod
  (IntKind.wrap IntKind.i64 a11) 1000) (gate 1 (IntKind.wrap IntKind.i64 ↑(BitVec.toNat (BitVec.ofInt 64 (Int.tmod (IntKind.wrap IntKind.i64 a11) 1000) ||| BitVec.ofInt 64 1)))))]),
  AV.href 2 0 0, AV.t (Tree.int IntKind.i16 a20), AV.t (I (IntKind.wrap IntKind.i64 a20)), AV.t (I (Int.tmod (IntKind.wrap IntKind.i64 a20) 1000)), AV.href 2 0 1, AV.t (Tree.int
  IntKind.i16 a21), AV.t (I (IntKind.wrap IntKind.i64 a21)), AV.t (I (Int.tmod (IntKind.wrap IntKind.i64 a21) 1000)), AV.t (I (gate (Int.tmod (IntKind.wrap IntKind.i64 a21) 1000)
  (gate 1 (IntKind.wrap IntKind.i64 ↑(BitVec.toNat (BitVec.ofInt 64 (Int.tmod (IntKind.wrap IntKind.i64 a21) 1000) ||| BitVec.ofInt 64 1)))))), AV.t (Tree.agg [I (Int.tmod
  (IntKind.wrap IntKind.i64 a20) 1000), I (gate (Int.tmod (IntKind.wrap IntKind.i64 a21) 1000) (gate 1 (IntKind.wrap IntKind.i64 ↑(BitVec.toNat (BitVec.ofInt 64 (Int.tmod
  (IntKind.wrap IntKind.i64 a21) 1000) ||| BitVec.ofInt 64 1)))))]), AV.t (Tree.tup [Tree.agg [I (Tree.toInt (List.headD (Tree.cs (List.headD (Tree.tupl y) (Tree.bool false)))
  (Tree.bool false))), I (Tree.toInt (List.headD (List.tail (Tree.cs (List.headD (Tree.tupl y) (Tree.bool false)))) (Tree.bool false)))], I (Tree.toInt (List.headD (List.tail
  (Tree.tupl y)) (Tree.bool false)))]), AV.t (Tree.agg [I (Int.tmod (IntKind.wrap IntKind.i64 a00) 1000), I (gate (Int.tmod (IntKind.wrap IntKind.i64 a01) 1000) (gate 1
  (IntKind.wrap IntKind.i64 ↑(BitVec.toNat (BitVec.ofInt 64 (Int.tmod (IntKind.wrap IntKind.i64 a01) 1000) ||| BitVec.ofInt 64 1)))))]), AV.t (Tree.agg [I (Int.tmod (IntKind.wrap
  IntKind.i64 a10) 1000), I (gate (Int.tmod (IntKind.wrap IntKind.i64 a11) 1000) (gate 1 (IntKind.wrap IntKind.i64 ↑(BitVec.toNat (BitVec.ofInt 64 (Int.tmod (IntKind.wrap
  IntKind.i64 a11) 1000) ||| BitVec.ofInt 64 1)))))]), AV.t (Tree.tup [Tree.agg [I (Tree.toInt (List.headD (Tree.cs (List.headD (Tree.tupl y) (Tree.bool false))) (Tree.bool
  false))), I (Tree.toInt (List.headD (List.tail (Tree.cs (List.headD (Tree.tupl y) (Tree.bool false)))) (Tree.bool false)))], I (Tree.toInt (List.headD (List.tail (Tree.tupl y))
  (Tree.bool false)))]), AV.t (Tree.agg [I (Tree.toInt (List.headD (Tree.cs (List.headD (Tree.tupl y) (Tree.bool false))) (Tree.bool false))), I (Tree.toInt (List.headD (List.tail
  (Tree.cs (List.headD (Tree.tupl y) (Tree.bool false)))) (Tree.bool false)))]), AV.t (I (Tree.toInt (List.headD (List.tail (Tree.tupl y)) (Tree.bool false)))), AV.t (Tree.tup
  [Tree.agg [I (Tree.toInt (List.headD (Tree.cs (List.headD (Tree.tupl y_1) (Tree.bool false))) (Tree.bool false))), I (Tree.toInt (List.headD (List.tail (Tree.cs (List.headD
  (Tree.tupl y_1) (Tree.bool false)))) (Tree.bool false)))], I (Tree.toInt (List.headD (List.tail (Tree.tupl y_1)) (Tree.bool false)))]), AV.t (Tree.agg [I (Int.tmod (IntKind.wrap
  IntKind.i64 a10) 1000), I (gate (Int.tmod (IntKind.wrap IntKind.i64 a11) 1000) (gate 1 (IntKind.wrap IntKind.i64 ↑(BitVec.toNat (BitVec.ofInt 64 (Int.tmod (IntKind.wrap
  IntKind.i64 a11) 1000) ||| BitVec.ofInt 64 1)))))]), AV.t (Tree.agg [I (Int.tmod (IntKind.wrap IntKind.i64 a00) 1000), I (gate (Int.tmod (IntKind.wrap IntKind.i64 a01) 1000) (gate
  1 (IntKind.wrap IntKind.i64 ↑(BitVec.toNat (BitVec.ofInt 64 (Int.tmod (IntKind.wrap IntKind.i64 a01) 1000) ||| BitVec.ofInt 64 1)))))]), AV.t (Tree.tup [Tree.agg [I (Tree.toInt
  (List.headD (Tree.cs (List.headD (Tree.tupl y_1) (Tree.bool false))) (Tree.bool false))), I (Tree.toInt (List.headD (List.tail (Tree.cs (List.headD (Tree.tupl y_1) (Tree.bool
  false)))) (Tree.bool false)))], I (Tree.toInt (List.headD (List.tail (Tree.tupl y_1)) (Tree.bool false)))]), AV.t (Tree.agg [I (Tree.toInt (List.headD (Tree.cs (List.headD
  (Tree.tupl y_1) (Tree.bool false))) (Tree.bool false))), I (Tree.toInt (List.headD (List.tail (Tree.cs (List.headD (Tree.tupl y_1) (Tree.bool false)))) (Tree.bool false)))]), AV.t
  (I (Tree.toInt (List.headD (List.tail (Tree.tupl y_1)) (Tree.bool false)))), AV.t (Tree.tup [Tree.agg [I (Tree.toInt (List.headD (Tree.cs (List.headD (Tree.tupl y_2) (Tree.bool
  false))) (Tree.bool false))), I (Tree.toInt (List.headD (List.tail (Tree.cs (List.headD (Tree.tupl y_2) (Tree.bool false)))) (Tree.bool false)))], I (Tree.toInt (List.headD
  (List.tail (Tree.tupl y_2)) (Tree.bool false)))]), AV.t (Tree.agg [I (Int.tmod (IntKind.wrap IntKind.i64 a10) 1000), I (gate (Int.tmod (IntKind.wrap IntKind.i64 a11) 1000) (gate 1
  (IntKind.wrap IntKind.i64 ↑(BitVec.toNat (BitVec.ofInt 64 (Int.tmod (IntKind.wrap IntKind.i64 a11) 1000) ||| BitVec.ofInt 64 1)))))]), AV.t (Tree.agg [I (Int.tmod (IntKind.wrap
  IntKind.i64 a20) 1000), I (gate (Int.tmod (IntKind.wrap IntKind.i64 a21) 1000) (gate 1 (IntKind.wrap IntKind.i64 ↑(BitVec.toNat (BitVec.ofInt 64 (Int.tmod (IntKind.wrap
  IntKind.i64 a21) 1000) ||| BitVec.ofInt 64 1)))))]), AV.t (Tree.tup [Tree.agg [I (Tree.toInt (List.headD (Tree.cs (List.headD (Tree.tupl y_2) (Tree.bool false))) (Tree.bool
  false))), I (Tree.toInt (List.headD (List.tail (Tree.cs (List.headD (Tree.tupl y_2) (Tree.bool false)))) (Tree.bool false)))], I (Tree.toInt (List.headD (List.tail (Tree.tupl
  y_2)) (Tree.bool false)))]), AV.t (Tree.agg [I (Tree.toInt (List.headD (Tree.cs (List.headD (Tree.tupl y_2) (Tree.bool false))) (Tree.bool false))), I (Tree.toInt (List.headD
  (List.tail (Tree.cs (List.headD (Tree.tupl y_2) (Tree.bool false)))) (Tree.bool false)))]), AV.t (I (Tree.toInt (List.headD (List.tail (Tree.tupl y_2)) (Tree.bool false)))), AV.t
  (Tree.tup [Tree.agg [I (Tree.toInt (List.headD (Tree.cs (List.headD (Tree.tupl y_3) (Tree.bool false))) (Tree.bool false))), I (Tree.toInt (List.headD (List.tail (Tree.cs
  (List.headD (Tree.tupl y_3) (Tree.bool false)))) (Tree.bool false)))], I (Tree.toInt (List.headD (List.tail (Tree.tupl y_3)) (Tree.bool false)))]), AV.t (Tree.agg [I (Tree.toInt
  (List.headD (Tree.cs (List.headD (Tree.tupl y) (Tree.bool false))) (Tree.bool false))), I (Tree.toInt (List.headD (List.tail (Tree.cs (List.headD (Tree.tupl y) (Tree.bool
  false)))) (Tree.bool false)))]), AV.t (Tree.agg [I (Int.tmod (IntKind.wrap IntKind.i64 a20) 1000), I (gate (Int.tmod (IntKind.wrap IntKind.i64 a21) 1000) (gate 1 (IntKind.wrap
  IntKind.i64 ↑(BitVec.toNat (BitVec.ofInt 64 (Int.tmod (IntKind.wrap IntKind.i64 a21) 1000) ||| BitVec.ofInt 64 1)))))]), AV.t (Tree.tup [Tree.agg [I (Tree.toInt (List.headD
  (Tree.cs (List.headD (Tree.tupl y_3) (Tree.bool false))) (Tree.bool false))), I (Tree.toInt (List.headD (List.tail (Tree.cs (List.headD (Tree.tupl y_3) (Tree.bool false))))
  (Tree.bool false)))], I (Tree.toInt (List.headD (List.tail (Tree.tupl y_3)) (Tree.bool false)))]), AV.t (Tree.agg [I (Tree.toInt (List.headD (Tree.cs (List.headD (Tree.tupl y_3)
  (Tree.bool false))) (Tree.bool false))), I (Tree.toInt (List.headD (List.tail (Tree.cs (List.headD (Tree.tupl y_3) (Tree.bool false)))) (Tree.bool false)))]), AV.t (I (Tree.toInt
  (List.headD (List.tail (Tree.tupl y_3)) (Tree.bool false)))), AV.t (Tree.tup [Tree.agg [I (Tree.toInt (List.headD (Tree.cs (List.headD (Tree.tupl y_4) (Tree.bool false)))
  (Tree.bool false))), I (Tree.toInt (List.headD (List.tail (Tree.cs (List.headD (Tree.tupl y_4) (Tree.bool false)))) (Tree.bool false)))], I (Tree.toInt (List.headD (List.tail
  (Tree.tupl y_4)) (Tree.bool false)))]), AV.t (Tree.agg [I (Int.tmod (IntKind.wrap IntKind.i64 a00) 1000), I (gate (Int.tmod (IntKind.wrap IntKind.i64 a01) 1000) (gate 1
  (IntKind.wrap IntKind.i64 ↑(BitVec.toNat (BitVec.ofInt 64 (Int.tmod (IntKind.wrap IntKind.i64 a01) 1000) ||| BitVec.ofInt 64 1)))))]), AV.t (Tree.agg [I (Tree.toInt (List.headD
  (Tree.cs (List.headD (Tree.tupl y_2) (Tree.bool false))) (Tree.bool false))), I (Tree.toInt (List.headD (List.tail (Tree.cs (List.headD (Tree.tupl y_2) (Tree.bool false))))
  (Tree.bool false)))]), AV.t (Tree.tup [Tree.agg [I (Tree.toInt (List.headD (Tree.cs (List.headD (Tree.tupl y_4) (Tree.bool false))) (Tree.bool false))), I (Tree.toInt (List.headD
  (List.tail (Tree.cs (List.headD (Tree.tupl y_4) (Tree.bool false)))) (Tree.bool false)))], I (Tree.toInt (List.headD (List.tail (Tree.tupl y_4)) (Tree.bool false)))]), AV.t
  (Tree.agg [I (Tree.toInt (List.headD (Tree.cs (List.headD (Tree.tupl y_4) (Tree.bool false))) (Tree.bool false))), I (Tree.toInt (List.headD (List.tail (Tree.cs (List.headD
  (Tree.tupl y_4) (Tree.bool false)))) (Tree.bool false)))]), AV.t (I (Tree.toInt (List.headD (List.tail (Tree.tupl y_4)) (Tree.bool false)))), AV.t (I (Tree.toInt (List.headD
  (List.tail (Tree.tupl y)) (Tree.bool false)))), AV.t (Tree.bool (Tree.toInt (List.headD (List.tail (Tree.tupl y)) (Tree.bool false)) != 0)), AV.t (Tree.bool false), AV.t (I
  (Tree.toInt (List.headD (List.tail (Tree.tupl y_1)) (Tree.bool false)))), AV.t (Tree.bool (Tree.toInt (List.headD (List.tail (Tree.tupl y_1)) (Tree.bool false)) != 0)), AV.t
  (Tree.bool (Tree.toInt (List.headD (List.tail (Tree.tupl y_1)) (Tree.bool false)) != 0)), AV.t (Tree.bool false), AV.t (I (Tree.toInt (List.headD (List.tail (Tree.tupl y_2))
  (Tree.bool false)))), AV.t (Tree.bool (Tree.toInt (List.headD (List.tail (Tree.tupl y_2)) (Tree.bool false)) != 0)), AV.t (Tree.bool (Tree.toInt (List.headD (List.tail (Tree.tupl
  y_2)) (Tree.bool false)) != 0)), AV.t (Tree.bool false), AV.t (I (Tree.toInt (List.headD (List.tail (Tree.tupl y_3)) (Tree.bool false)))), AV.t (Tree.bool (Tree.toInt (List.headD
  (List.tail (Tree.tupl y_3)) (Tree.bool false)) != 0)), AV.t (Tree.bool (Tree.toInt (List.headD (List.tail (Tree.tupl y_3)) (Tree.bool false)) != 0)), AV.t (Tree.bool false), AV.t
  (I (Tree.toInt (List.headD (List.tail (Tree.tupl y_4)) (Tree.bool false)))), AV.t (Tree.bool (Tree.toInt (List.headD (List.tail (Tree.tupl y_4)) (Tree.bool false)) != 0)), AV.t
  (Tree.bool (Tree.toInt (List.headD (List.tail (Tree.tupl y_4)) (Tree.bool false)) != 0)), AV.t (Tree.bool false), AV.t (Tree.agg [I (Tree.toInt (List.headD (Tree.cs (List.headD
  (Tree.tupl y) (Tree.bool false))) (Tree.bool false))), I (Tree.toInt (List.headD (List.tail (Tree.cs (List.headD (Tree.tupl y) (Tree.bool false)))) (Tree.bool false)))]), AV.t
  (Tree.agg [I (Tree.toInt (List.headD (Tree.cs (List.headD (Tree.tupl y_1) (Tree.bool false))) (Tree.bool false))), I (Tree.toInt (List.headD (List.tail (Tree.cs (List.headD
  (Tree.tupl y_1) (Tree.bool false)))) (Tree.bool false)))]), AV.t (Tree.bool !(Tree.toInt (List.headD (Tree.cs (List.headD (Tree.tupl y) (Tree.bool false))) (Tree.bool false)) ==
  Tree.toInt (List.headD (Tree.cs (List.headD (Tree.tupl y_1) (Tree.bool false))) (Tree.bool false)) && (Tree.toInt (List.headD (List.tail (Tree.cs (List.headD (Tree.tupl y)
  (Tree.bool false)))) (Tree.bool false)) == Tree.toInt (List.headD (List.tail (Tree.cs (List.headD (Tree.tupl y_1) (Tree.bool false)))) (Tree.bool false)) && true))), AV.t
  (Tree.bool !(Tree.toInt (List.headD (Tree.cs (List.headD (Tree.tupl y) (Tree.bool false))) (Tree.bool false)) == Tree.toInt (List.headD (Tree.cs (List.headD (Tree.tupl y_1)
  (Tree.bool false))) (Tree.bool false)) && (Tree.toInt (List.headD (List.tail (Tree.cs (List.headD (Tree.tupl y) (Tree.bool false)))) (Tree.bool false)) == Tree.toInt (List.headD
  (List.tail (Tree.cs (List.headD (Tree.tupl y_1) (Tree.bool false)))) (Tree.bool false)) && true))), AV.t (Tree.bool false), AV.t (Tree.agg [I (Tree.toInt (List.headD (Tree.cs
  (List.headD (Tree.tupl y_3) (Tree.bool false))) (Tree.bool false))), I (Tree.toInt (List.headD (List.tail (Tree.cs (List.headD (Tree.tupl y_3) (Tree.bool false)))) (Tree.bool
  false)))]), AV.t (Tree.agg [I (Tree.toInt (List.headD (Tree.cs (List.headD (Tree.tupl y_4) (Tree.bool false))) (Tree.bool false))), I (Tree.toInt (List.headD (List.tail (Tree.cs
  (List.headD (Tree.tupl y_4) (Tree.bool false)))) (Tree.bool false)))]), AV.t (Tree.bool !(Tree.toInt (List.headD (Tree.cs (List.headD (Tree.tupl y_3) (Tree.bool false)))
  (Tree.bool false)) == Tree.toInt (List.headD (Tree.cs (List.headD (Tree.tupl y_4) (Tree.bool false))) (Tree.bool false)) && (Tree.toInt (List.headD (List.tail (Tree.cs (List.headD
  (Tree.tupl y_3) (Tree.bool false)))) (Tree.bool false)) == Tree.toInt (List.headD (List.tail (Tree.cs (List.headD (Tree.tupl y_4) (Tree.bool false)))) (Tree.bool false)) &&
  true))), AV.t (Tree.bool false), AV.t (Tree.tup [Tree.agg [I (Tree.toInt (List.headD (Tree.cs (List.headD (Tree.tupl y_5) (Tree.bool false))) (Tree.bool false))), I (Tree.toInt
  (List.headD (List.tail (Tree.cs (List.headD (Tree.tupl y_5) (Tree.bool false)))) (Tree.bool false)))], I (Tree.toInt (List.headD (List.tail (Tree.tupl y_5)) (Tree.bool false)))]),
  AV.t (Tree.agg [I (Int.tmod (IntKind.wrap IntKind.i64 a00) 1000), I (gate (Int.tmod (IntKind.wrap IntKind.i64 a01) 1000) (gate 1 (IntKind.wrap IntKind.i64 ↑(BitVec.toNat
  (BitVec.ofInt 64 (Int.tmod (IntKind.wrap IntKind.i64 a01) 1000) ||| BitVec.ofInt 64 1)))))]), AV.t (Tree.agg [I (Int.tmod (IntKind.wrap IntKind.i64 a20) 1000), I (gate (Int.tmod
  (IntKind.wrap IntKind.i64 a21) 1000) (gate 1 (IntKind.wrap IntKind.i64 ↑(BitVec.toNat (BitVec.ofInt 64 (Int.tmod (IntKind.wrap IntKind.i64 a21) 1000) ||| BitVec.ofInt 64 1)))))]),
  AV.t (Tree.tup [Tree.agg [I (Tree.toInt (List.headD (Tree.cs (List.headD (Tree.tupl y_5) (Tree.bool false))) (Tree.bool false))), I (Tree.toInt (List.headD (List.tail (Tree.cs
  (List.headD (Tree.tupl y_5) (Tree.bool false)))) (Tree.bool false)))], I (Tree.toInt (List.headD (List.tail (Tree.tupl y_5)) (Tree.bool false)))]), AV.t (Tree.agg [I (Tree.toInt
  (List.headD (Tree.cs (List.headD (Tree.tupl y_5) (Tree.bool false))) (Tree.bool false))), I (Tree.toInt (List.headD (List.tail (Tree.cs (List.headD (Tree.tupl y_5) (Tree.bool
  false)))) (Tree.bool false)))]), AV.t (I (Tree.toInt (List.headD (List.tail (Tree.tupl y_5)) (Tree.bool false)))), AV.t (Tree.tup [Tree.agg [I (Tree.toInt (List.headD (Tree.cs
  (List.headD (Tree.tupl y_6) (Tree.bool false))) (Tree.bool false))), I (Tree.toInt (List.headD (List.tail (Tree.cs (List.headD (Tree.tupl y_6) (Tree.bool false)))) (Tree.bool
  false)))], I (Tree.toInt (List.headD (List.tail (Tree.tupl y_6)) (Tree.bool false)))]), AV.t (Tree.agg [I (Int.tmod (IntKind.wrap IntKind.i64 a10) 1000), I (gate (Int.tmod
  (IntKind.wrap IntKind.i64 a11) 1000) (gate 1 (IntKind.wrap IntKind.i64 ↑(BitVec.toNat (BitVec.ofInt 64 (Int.tmod (IntKind.wrap IntKind.i64 a11) 1000) ||| BitVec.ofInt 64 1)))))]),
  AV.t (Tree.agg [I (Int.tmod (IntKind.wrap IntKind.i64 a20) 1000), I (gate (Int.tmod (IntKind.wrap IntKind.i64 a21) 1000) (gate 1 (IntKind.wrap IntKind.i64 ↑(BitVec.toNat
  (BitVec.ofInt 64 (Int.tmod (IntKind.wrap IntKind.i64 a21) 1000) ||| BitVec.ofInt 64 1)))))]), AV.t (Tree.tup [Tree.agg [I (Tree.toInt (List.headD (Tree.cs (List.headD (Tree.tupl
  y_6) (Tree.bool false))) (Tree.bool false))), I (Tree.toInt (List.headD (List.tail (Tree.cs (List.headD (Tree.tupl y_6) (Tree.bool false)))) (Tree.bool false)))], I (Tree.toInt
  (List.headD (List.tail (Tree.tupl y_6)) (Tree.bool false)))]), AV.t (Tree.agg [I (Tree.toInt (List.headD (Tree.cs (List.headD (Tree.tupl y_6) (Tree.bool false))) (Tree.bool
  false))), I (Tree.toInt (List.headD (List.tail (Tree.cs (List.headD (Tree.tupl y_6) (Tree.bool false)))) (Tree.bool false)))]), AV.t (I (Tree.toInt (List.headD (List.tail
  (Tree.tupl y_6)) (Tree.bool false)))), AV.t (Tree.tup [Tree.agg [I (Tree.toInt (List.headD (Tree.cs (List.headD (Tree.tupl y_7) (Tree.bool false))) (Tree.bool false))), I
  (Tree.toInt (List.headD (List.tail (Tree.cs (List.headD (Tree.tupl y_7) (Tree.bool false)))) (Tree.bool false)))], I (Tree.toInt (List.headD (List.tail (Tree.tupl y_7)) (Tree.bool
  false)))]), AV.t (Tree.agg [I (Tree.toInt (List.headD (Tree.cs (List.headD (Tree.tupl y_5) (Tree.bool false))) (Tree.bool false))), I (Tree.toInt (List.headD (List.tail (Tree.cs
  (List.headD (Tree.tupl y_5) (Tree.bool false)))) (Tree.bool false)))]), AV.t (Tree.agg [I (Tree.toInt (List.headD (Tree.cs (List.headD (Tree.tupl y_6) (Tree.bool false)))
  (Tree.bool false))), I (Tree.toInt (List.headD (List.tail (Tree.cs (List.headD (Tree.tupl y_6) (Tree.bool false)))) (Tree.bool false)))]), AV.t (Tree.tup [Tree.agg [I (Tree.toInt
  (List.headD (Tree.cs (List.headD (Tree.tupl y_7) (Tree.bool false))) (Tree.bool false))), I (Tree.toInt (List.headD (List.tail (Tree.cs (List.headD (Tree.tupl y_7) (Tree.bool
  false)))) (Tree.bool false)))], I (Tree.toInt (List.headD (List.tail (Tree.tupl y_7)) (Tree.bool false)))]), AV.t (Tree.agg [I (Tree.toInt (List.headD (Tree.cs (List.headD
  (Tree.tupl y_7) (Tree.bool false))) (Tree.bool false))), I (Tree.toInt (List.headD (List.tail (Tree.cs (List.headD (Tree.tupl y_7) (Tree.bool false)))) (Tree.bool false)))]), AV.t
  (I (Tree.toInt (List.headD (List.tail (Tree.tupl y_7)) (Tree.bool false)))), AV.t (Tree.tup [Tree.agg [I (Tree.toInt (List.headD (Tree.cs (List.headD (Tree.tupl y_8) (Tree.bool
  false))) (Tree.bool false))), I (Tree.toInt (List.headD (List.tail (Tree.cs (List.headD (Tree.tupl y_8) (Tree.bool false)))) (Tree.bool false)))], I (Tree.toInt (List.headD
  (List.tail (Tree.tupl y_8)) (Tree.bool false)))]), AV.t (Tree.agg [I (Tree.toInt (List.headD (Tree.cs (List.headD (Tree.tupl y) (Tree.bool false))) (Tree.bool false))), I
  (Tree.toInt (List.headD (List.tail (Tree.cs (List.headD (Tree.tupl y) (Tree.bool false)))) (Tree.bool false)))]), AV.t (Tree.agg [I (Int.tmod (IntKind.wrap IntKind.i64 a20) 1000),
  I (gate (Int.tmod (IntKind.wrap IntKind.i64 a21) 1000) (gate 1 (IntKind.wrap IntKind.i64 ↑(BitVec.toNat (BitVec.ofInt 64 (Int.tmod (IntKind.wrap IntKind.i64 a21) 1000) |||
  BitVec.ofInt 64 1)))))]), AV.t (Tree.tup [Tree.agg [I (Tree.toInt (List.headD (Tree.cs (List.headD (Tree.tupl y_8) (Tree.bool false))) (Tree.bool false))), I (Tree.toInt
  (List.headD (List.tail (Tree.cs (List.headD (Tree.tupl y_8) (Tree.bool false)))) (Tree.bool false)))], I (Tree.toInt (List.headD (List.tail (Tree.tupl y_8)) (Tree.bool false)))]),
  AV.t (Tree.agg [I (Tree.toInt (List.headD (Tree.cs (List.headD (Tree.tupl y_8) (Tree.bool false))) (Tree.bool false))), I (Tree.toInt (List.headD (List.tail (Tree.cs (List.headD
  (Tree.tupl y_8) (Tree.bool false)))) (Tree.bool false)))]), AV.t (I (Tree.toInt (List.headD (List.tail (Tree.tupl y_8)) (Tree.bool false)))), AV.t (I (Tree.toInt (List.headD
  (List.tail (Tree.tupl y_5)) (Tree.bool false)))), AV.t (Tree.bool (Tree.toInt (List.headD (List.tail (Tree.tupl y_5)) (Tree.bool false)) == 0)), AV.t (Tree.bool true), AV.t (I
  (Tree.toInt (List.headD (List.tail (Tree.tupl y_6)) (Tree.bool false)))), AV.t (Tree.bool (Tree.toInt (List.headD (List.tail (Tree.tupl y_6)) (Tree.bool false)) == 0)), AV.t
  (Tree.bool (Tree.toInt (List.headD (List.tail (Tree.tupl y_6)) (Tree.bool false)) == 0)), AV.t (Tree.bool true), AV.t (I (Tree.toInt (List.headD (List.tail (Tree.tupl y_7))
  (Tree.bool false)))), AV.t (Tree.bool (Tree.toInt (List.headD (List.tail (Tree.tupl y_7)) (Tree.bool false)) == 0)), AV.t (Tree.bool (Tree.toInt (List.headD (List.tail (Tree.tupl
  y_7)) (Tree.bool false)) == 0)), AV.t (Tree.bool true), AV.t (I (Tree.toInt (List.headD (List.tail (Tree.tupl y_8)) (Tree.bool false)))), AV.t (Tree.bool (Tree.toInt (List.headD
  (List.tail (Tree.tupl y_8)) (Tree.bool false)) == 0)), AV.t (Tree.bool (Tree.toInt (List.headD (List.tail (Tree.tupl y_8)) (Tree.bool false)) == 0)), AV.t (Tree.bool false),
  AV.undef, AV.undef, AV.undef, AV.t (Tree.bool false), AV.undef, AV.undef, AV.undef, AV.undef, AV.undef, AV.undef, AV.undef, AV.undef, AV.undef, AV.undef, AV.undef, AV.undef,
  AV.undef, AV.undef, AV.undef, AV.undef, AV.undef, AV.undef, AV.undef, AV.undef, AV.undef, AV.undef, AV.undef, AV.undef, AV.undef, AV.undef, AV.undef, AV.undef, AV.undef, AV.undef,
  AV.undef, AV.undef, AV.undef, AV.undef, AV.undef, AV.undef, AV.undef, AV.undef, AV.undef, AV.undef, AV.undef, AV.undef, AV.undef, AV.undef, AV.undef, AV.undef, AV.undef, AV.undef,
  AV.undef, AV.undef, AV.undef, AV.undef, AV.undef, AV.undef, AV.undef, AV.undef, AV.undef, AV.undef, AV.undef, AV.undef, AV.undef, AV.undef, AV.undef, AV.undef, AV.undef] [HObj.tre
  (Sh.agg [Sh.int IntKind.i16, Sh.int IntKind.i16]) [Tree.agg [Tree.int IntKind.i16 a00, Tree.int IntKind.i16 a01]], HObj.tre (Sh.agg [Sh.int IntKind.i16, Sh.int IntKind.i16])
  [Tree.agg [Tree.int IntKind.i16 a10, Tree.int IntKind.i16 a11]], HObj.tre (Sh.agg [Sh.int IntKind.i16, Sh.int IntKind.i16]) [Tree.agg [Tree.int IntKind.i16 a20, Tree.int
  IntKind.i16 a21]], HObj.tre (Sh.agg [Sh.int IntKind.i64, Sh.int IntKind.i64]) [Tree.agg [I (Int.tmod (IntKind.wrap IntKind.i64 a00) 1000), I (gate (Int.tmod (IntKind.wrap
  IntKind.i64 a01) 1000) (gate 1 (IntKind.wrap IntKind.i64 ↑(BitVec.toNat (BitVec.ofInt 64 (Int.tmod (IntKind.wrap IntKind.i64 a01) 1000) ||| BitVec.ofInt 64 1)))))]], HObj.tre
  (Sh.agg [Sh.int IntKind.i64, Sh.int IntKind.i64]) [Tree.agg [I (Int.tmod (IntKind.wrap IntKind.i64 a10) 1000), I (gate (Int.tmod (IntKind.wrap IntKind.i64 a11) 1000) (gate 1
  (IntKind.wrap IntKind.i64 ↑(BitVec.toNat (BitVec.ofInt 64 (Int.tmod (IntKind.wrap IntKind.i64 a11) 1000) ||| BitVec.ofInt 64 1)))))]], HObj.tre (Sh.agg [Sh.int IntKind.i64, Sh.int
  IntKind.i64]) [Tree.agg [I (Int.tmod (IntKind.wrap IntKind.i64 a20) 1000), I (gate (Int.tmod (IntKind.wrap IntKind.i64 a21) 1000) (gate 1 (IntKind.wrap IntKind.i64 ↑(BitVec.toNat
  (BitVec.ofInt 64 (Int.tmod (IntKind.wrap IntKind.i64 a21) 1000) ||| BitVec.ofInt 64 1)))))]], HObj.tre (Sh.agg [Sh.int IntKind.i64, Sh.int IntKind.i64]) [Tree.agg [I (Tree.toInt
  (List.headD (Tree.cs (List.headD (Tree.tupl y) (Tree.bool false))) (Tree.bool false))), I (Tree.toInt (List.headD (List.tail (Tree.cs (List.headD (Tree.tupl y) (Tree.bool
  false)))) (Tree.bool false)))]], HObj.tre (Sh.agg [Sh.int IntKind.i64, Sh.int IntKind.i64]) [Tree.agg [I (Tree.toInt (List.headD (Tree.cs (List.headD (Tree.tupl y_1) (Tree.bool
  false))) (Tree.bool false))), I (Tree.toInt (List.headD (List.tail (Tree.cs (List.headD (Tree.tupl y_1) (Tree.bool false)))) (Tree.bool false)))]], HObj.tre (Sh.agg [Sh.int
  IntKind.i64, Sh.int IntKind.i64]) [Tree.agg [I (Tree.toInt (List.headD (Tree.cs (List.headD (Tree.tupl y_2) (Tree.bool false))) (Tree.bool false))), I (Tree.toInt (List.headD
  (List.tail (Tree.cs (List.headD (Tree.tupl y_2) (Tree.bool false)))) (Tree.bool false)))]], HObj.tre (Sh.agg [Sh.int IntKind.i64, Sh.int IntKind.i64]) [Tree.agg [I (Tree.toInt
  (List.headD (Tree.cs (List.headD (Tree.tupl y_3) (Tree.bool false))) (Tree.bool false))), I (Tree.toInt (List.headD (List.tail (Tree.cs (List.headD (Tree.tupl y_3) (Tree.bool
  false)))) (Tree.bool false)))]], HObj.tre (Sh.agg [Sh.int IntKind.i64, Sh.int IntKind.i64]) [Tree.agg [I (Tree.toInt (List.headD (Tree.cs (List.headD (Tree.tupl y_4) (Tree.bool
  false))) (Tree.bool false))), I (Tree.toInt (List.headD (List.tail (Tree.cs (List.headD (Tree.tupl y_4) (Tree.bool false)))) (Tree.bool false)))]], HObj.tre (Sh.agg [Sh.int
  IntKind.i64, Sh.int IntKind.i64]) [Tree.agg [I (Tree.toInt (List.headD (Tree.cs (List.headD (Tree.tupl y_5) (Tree.bool false))) (Tree.bool false))), I (Tree.toInt (List.headD
  (List.tail (Tree.cs (List.headD (Tree.tupl y_5) (Tree.bool false)))) (Tree.bool false)))]], HObj.tre (Sh.agg [Sh.int IntKind.i64, Sh.int IntKind.i64]) [Tree.agg [I (Tree.toInt
  (List.headD (Tree.cs (List.headD (Tree.tupl y_6) (Tree.bool false))) (Tree.bool false))), I (Tree.toInt (List.headD (List.tail (Tree.cs (List.headD (Tree.tupl y_6) (Tree.bool
  false)))) (Tree.bool false)))]], HObj.tre (Sh.agg [Sh.int IntKind.i64, Sh.int IntKind.i64]) [Tree.agg [I (Tree.toInt (List.headD (Tree.cs (List.headD (Tree.tupl y_7) (Tree.bool
  false))) (Tree.bool false))), I (Tree.toInt (List.headD (List.tail (Tree.cs (List.headD (Tree.tupl y_7) (Tree.bool false)))) (Tree.bool false)))]], HObj.tre (Sh.agg [Sh.int
  IntKind.i64, Sh.int IntKind.i64]) [Tree.agg [I (Tree.toInt (List.headD (Tree.cs (List.headD (Tree.tupl y_8) (Tree.bool false))) (Tree.bool false))), I (Tree.toInt (List.headD
  (List.tail (Tree.cs (List.headD (Tree.tupl y_8) (Tree.bool false)))) (Tree.bool false)))]]]) else K IExit.normal (St.mk [AV.t (Tree.agg [Tree.int IntKind.i16 a00, Tree.int
  IntKind.i16 a01]), AV.t (Tree.agg [Tree.int IntKind.i16 a10, Tree.int IntKind.i16 a11]), AV.t (Tree.agg [Tree.int IntKind.i16 a20, Tree.int IntKind.i16 a21]), AV.href 0 0 0,
  AV.href 1 0 0, AV.href 2 0 0, AV.t (Tree.bool false), AV.href 3 0 0, AV.href 4 0 0, AV.href 5 0 0, AV.href 6 0 0, AV.t (I (Tree.toInt (List.headD (List.tail (Tree.tupl y_5))
  (Tree.bool false)))), AV.href 7 0 0, AV.t (I (Tree.toInt (List.headD (List.tail (Tree.tupl y_6)) (Tree.bool false)))), AV.href 8 0 0, AV.t (I (Tree.toInt (List.headD (List.tail
  (Tree.tupl y_7)) (Tree.bool false)))), AV.href 9 0 0, AV.t (I (Tree.toInt (List.headD (List.tail (Tree.tupl y_8)) (Tree.bool false)))), AV.href 10 0 0, AV.t (I (Tree.toInt
  (List.headD (List.tail (Tree.tupl y_4)) (Tree.bool false)))), AV.href 11 0 0, AV.href 12 0 0, AV.href 13 0 0, AV.href 14 0 0, AV.undef, AV.undef, AV.undef, AV.undef, AV.undef,
  AV.undef, AV.undef, AV.undef, AV.undef, AV.undef, AV.undef, AV.undef, AV.href 0 0 0, AV.t (Tree.int IntKind.i16 a00), AV.t (I (IntKind.wrap IntKind.i64 a00)), AV.t (I (Int.tmod
  (IntKind.wrap IntKind.i64 a00) 1000)), AV.href 0 0 1, AV.t (Tree.int IntKind.i16 a01), AV.t (I (IntKind.wrap IntKind.i64 a01)), AV.t (I (Int.tmod (IntKind.wrap IntKind.i64 a01)
  1000)), AV.t (I (gate (Int.tmod (IntKind.wrap IntKind.i64 a01) 1000) (gate 1 (IntKind.wrap IntKind.i64 ↑(BitVec.toNat (BitVec.ofInt 64 (Int.tmod (IntKind.wrap IntKind.i64 a01)
  1000) ||| BitVec.ofInt 64 1)))))), AV.t (Tree.agg [I (Int.tmod (IntKind.wrap IntKind.i64 a00) 1000), I (gate (Int.tmod (IntKind.wrap IntKind.i64 a01) 1000) (gate 1 (IntKind.wrap
  IntKind.i64 ↑(BitVec.toNat (BitVec.ofInt 64 (Int.tmod (IntKind.wrap IntKind.i64 a01) 1000) ||| BitVec.ofInt 64 1)))))]), AV.href 1 0 0, AV.t (Tree.int IntKind.i16 a10), AV.t (I
  (IntKind.wrap IntKind.i64 a10)), AV.t (I (Int.tmod (IntKind.wrap IntKind.i64 a10) 1000)), AV.href 1 0 1, AV.t (Tree.int IntKind.i16 a11), AV.t (I (IntKind.wrap IntKind.i64 a11)),
  AV.t (I (Int.tmod (IntKind.wrap IntKind.i64 a11) 1000)), AV.t (I (gate (Int.tmod (IntKind.wrap IntKind.i64 a11) 1000) (gate 1 (IntKind.wrap IntKind.i64 ↑(BitVec.toNat
  (BitVec.ofInt 64 (Int.tmod (IntKind.wrap IntKind.i64 a11) 1000) ||| BitVec.ofInt 64 1)))))), AV.t (Tree.agg [I (Int.tmod (IntKind.wrap IntKind.i64 a10) 1000), I (gate (Int.tmod
  (IntKind.wrap IntKind.i64 a11) 1000) (gate 1 (IntKind.wrap IntKind.i64 ↑(BitVec.toNat (BitVec.ofInt 64 (Int.tmod (IntKind.wrap IntKind.i64 a11) 1000) ||| BitVec.ofInt 64 1)))))]),
  AV.href 2 0 0, AV.t (Tree.int IntKind.i16 a20), AV.t (I (IntKind.wrap IntKind.i64 a20)), AV.t (I (Int.tmod (IntKind.wrap IntKind.i64 a20) 1000)), AV.href 2 0 1, AV.t (Tree.int
  IntKind.i16 a21), AV.t (I (IntKind.wrap IntKind.i64 a21)), AV.t (I (Int.tmod (IntKind.wrap IntKind.i64 a21) 1000)), AV.t (I (gate (Int.tmod (IntKind.wrap IntKind.i64 a21) 1000)
  (gate 1 (IntKind.wrap IntKind.i64 ↑(BitVec.toNat (BitVec.ofInt 64 (Int.tmod (IntKind.wrap IntKind.i64 a21) 1000) ||| BitVec.ofInt 64 1)))))), AV.t (Tree.agg [I (Int.tmod
  (IntKind.wrap IntKind.i64 a20) 1000), I (gate (Int.tmod (IntKind.wrap IntKind.i64 a21) 1000) (gate 1 (IntKind.wrap IntKind.i64 ↑(BitVec.toNat (BitVec.ofInt 64 (Int.tmod
  (IntKind.wrap IntKind.i64 a21) 1000) ||| BitVec.ofInt 64 1)))))]), AV.t (Tree.tup [Tree.agg [I (Tree.toInt (List.headD (Tree.cs (List.headD (Tree.tupl y) (Tree.bool false)))
  (Tree.bool false))), I (Tree.toInt (List.headD (List.tail (Tree.cs (List.headD (Tree.tupl y) (Tree.bool false)))) (Tree.bool false)))], I (Tree.toInt (List.headD (List.tail
  (Tree.tupl y)) (Tree.bool false)))]), AV.t (Tree.agg [I (Int.tmod (IntKind.wrap IntKind.i64 a00) 1000), I (gate (Int.tmod (IntKind.wrap IntKind.i64 a01) 1000) (gate 1
  (IntKind.wrap IntKind.i64 ↑(BitVec.toNat (BitVec.ofInt 64 (Int.tmod (IntKind.wrap IntKind.i64 a01) 1000) ||| BitVec.ofInt 64 1)))))]), AV.t (Tree.agg [I (Int.tmod (IntKind.wrap
  IntKind.i64 a10) 1000), I (gate (Int.tmod (IntKind.wrap IntKind.i64 a11) 1000) (gate 1 (IntKind.wrap IntKind.i64 ↑(BitVec.toNat (BitVec.ofInt 64 (Int.tmod (IntKind.wrap
  IntKind.i64 a11) 1000) ||| BitVec.ofInt 64 1)))))]), AV.t (Tree.tup [Tree.agg [I (Tree.toInt (List.headD (Tree.cs (List.headD (Tree.tupl y) (Tree.bool false))) (Tree.bool
  false))), I (Tree.toInt (List.headD (List.tail (Tree.cs (List.headD (Tree.tupl y) (Tree.bool false)))) (Tree.bool false)))], I (Tree.toInt (List.headD (List.tail (Tree.tupl y))
  (Tree.bool false)))]), AV.t (Tree.agg [I (Tree.toInt (List.headD (Tree.cs (List.headD (Tree.tupl y) (Tree.bool false))) (Tree.bool false))), I (Tree.toInt (List.headD (List.tail
  (Tree.cs (List.headD (Tree.tupl y) (Tree.bool false)))) (Tree.bool false)))]), AV.t (I (Tree.toInt (List.headD (List.tail (Tree.tupl y)) (Tree.bool false)))), AV.t (Tree.tup
  [Tree.agg [I (Tree.toInt (List.headD (Tree.cs (List.headD (Tree.tupl y_1) (Tree.bool false))) (Tree.bool false))), I (Tree.toInt (List.headD (List.tail (Tree.cs (List.headD
  (Tree.tupl y_1) (Tree.bool false)))) (Tree.bool false)))], I (Tree.toInt (List.headD (List.tail (Tree.tupl y_1)) (Tree.bool false)))]), AV.t (Tree.agg [I (Int.tmod (IntKind.wrap
  IntKind.i64 a10) 1000), I (gate (Int.tmod (IntKind.wrap IntKind.i64 a11) 1000) (gate 1 (IntKind.wrap IntKind.i64 ↑(BitVec.toNat (BitVec.ofInt 64 (Int.tmod (IntKind.wrap
  IntKind.i64 a11) 1000) ||| BitVec.ofInt 64 1)))))]), AV.t (Tree.agg [I (Int.tmod (IntKind.wrap IntKind.i64 a00) 1000), I (gate (Int.tmod (IntKind.wrap IntKind.i64 a01) 1000) (gate
  1 (IntKind.wrap IntKind.i64 ↑(BitVec.toNat (BitVec.ofInt 64 (Int.tmod (IntKind.wrap IntKind.i64 a01) 1000) ||| BitVec.ofInt 64 1)))))]), AV.t (Tree.tup [Tree.agg [I (Tree.toInt
  (List.headD (Tree.cs (List.headD (Tree.tupl y_1) (Tree.bool false))) (Tree.bool false))), I (Tree.toInt (List.headD (List.tail (Tree.cs (List.headD (Tree.tupl y_1) (Tree.bool
  false)))) (Tree.bool false)))], I (Tree.toInt (List.headD (List.tail (Tree.tupl y_1)) (Tree.bool false)))]), AV.t (Tree.agg [I (Tree.toInt (List.headD (Tree.cs (List.headD
  (Tree.tupl y_1) (Tree.bool false))) (Tree.bool false))), I (Tree.toInt (List.headD (List.tail (Tree.cs (List.headD (Tree.tupl y_1) (Tree.bool false)))) (Tree.bool false)))]), AV.t
  (I (Tree.toInt (List.headD (List.tail (Tree.tupl y_1)) (Tree.bool false)))), AV.t (Tree.tup [Tree.agg [I (Tree.toInt (List.headD (Tree.cs (List.headD (Tree.tupl y_2) (Tree.bool
  false))) (Tree.bool false))), I (Tree.toInt (List.headD (List.tail (Tree.cs (List.headD (Tree.tupl y_2) (Tree.bool false)))) (Tree.bool false)))], I (Tree.toInt (List.headD
  (List.tail (Tree.tupl y_2)) (Tree.bool false)))]), AV.t (Tree.agg [I (Int.tmod (IntKind.wrap IntKind.i64 a10) 1000), I (gate (Int.tmod (IntKind.wrap IntKind.i64 a11) 1000) (gate 1
  (IntKind.wrap IntKind.i64 ↑(BitVec.toNat (BitVec.ofInt 64 (Int.tmod (IntKind.wrap IntKind.i64 a11) 1000) ||| BitVec.ofInt 64 1)))))]), AV.t (Tree.agg [I (Int.tmod (IntKind.wrap
  IntKind.i64 a20) 1000), I (gate (Int.tmod (IntKind.wrap IntKind.i64 a21) 1000) (gate 1 (IntKind.wrap IntKind.i64 ↑(BitVec.toNat (BitVec.ofInt 64 (Int.tmod (IntKind.wrap
  IntKind.i64 a21) 1000) ||| BitVec.ofInt 64 1)))))]), AV.t (Tree.tup [Tree.agg [I (Tree.toInt (List.headD (Tree.cs (List.headD (Tree.tupl y_2) (Tree.bool false))) (Tree.bool
  false))), I (Tree.toInt (List.headD (List.tail (Tree.cs (List.headD (Tree.tupl y_2) (Tree.bool false)))) (Tree.bool false)))], I (Tree.toInt (List.headD (List.tail (Tree.tupl
  y_2)) (Tree.bool false)))]), AV.t (Tree.agg [I (Tree.toInt (List.headD (Tree.cs (List.headD (Tree.tupl y_2) (Tree.bool false))) (Tree.bool false))), I (Tree.toInt (List.headD
  (List.tail (Tree.cs (List.headD (Tree.tupl y_2) (Tree.bool false)))) (Tree.bool false)))]), AV.t (I (Tree.toInt (List.headD (List.tail (Tree.tupl y_2)) (Tree.bool false)))), AV.t
  (Tree.tup [Tree.agg [I (Tree.toInt (List.headD (Tree.cs (List.headD (Tree.tupl y_3) (Tree.bool false))) (Tree.bool false))), I (Tree.toInt (List.headD (List.tail (Tree.cs
  (List.headD (Tree.tupl y_3) (Tree.bool false)))) (Tree.bool false)))], I (Tree.toInt (List.headD (List.tail (Tree.tupl y_3)) (Tree.bool false)))]), AV.t (Tree.agg [I (Tree.toInt
  (List.headD (Tree.cs (List.headD (Tree.tupl y) (Tree.bool false))) (Tree.bool false))), I (Tree.toInt (List.headD (List.tail (Tree.cs (List.headD (Tree.tupl y) (Tree.bool
  false)))) (Tree.bool false)))]), AV.t (Tree.agg [I (Int.tmod (IntKind.wrap IntKind.i64 a20) 1000), I (gate (Int.tmod (IntKind.wrap IntKind.i64 a21) 1000) (gate 1 (IntKind.wrap
  IntKind.i64 ↑(BitVec.toNat (BitVec.ofInt 64 (Int.tmod (IntKind.wrap IntKind.i64 a21) 1000) ||| BitVec.ofInt 64 1)))))]), AV.t (Tree.tup [Tree.agg [I (Tree.toInt (List.headD
  (Tree.cs (List.headD (Tree.tupl y_3) (Tree.bool false))) (Tree.bool false))), I (Tree.toInt (List.headD (List.tail (Tree.cs (List.headD (Tree.tupl y_3) (Tree.bool false))))
  (Tree.bool false)))], I (Tree.toInt (List.headD (List.tail (Tree.tupl y_3)) (Tree.bool false)))]), AV.t (Tree.agg [I (Tree.toInt (List.headD (Tree.cs (List.headD (Tree.tupl y_3)
  (Tree.bool false))) (Tree.bool false))), I (Tree.toInt (List.headD (List.tail (Tree.cs (List.headD (Tree.tupl y_3) (Tree.bool false)))) (Tree.bool false)))]), AV.t (I (Tree.toInt
  (List.headD (List.tail (Tree.tupl y_3)) (Tree.bool false)))), AV.t (Tree.tup [Tree.agg [I (Tree.toInt (List.headD (Tree.cs (List.headD (Tree.tupl y_4) (Tree.bool false)))
  (Tree.bool false))), I (Tree.toInt (List.headD (List.tail (Tree.cs (List.headD (Tree.tupl y_4) (Tree.bool false)))) (Tree.bool false)))], I (Tree.toInt (List.headD (List.tail
  (Tree.tupl y_4)) (Tree.bool false)))]), AV.t (Tree.agg [I (Int.tmod (IntKind.wrap IntKind.i64 a00) 1000), I (gate (Int.tmod (IntKind.wrap IntKind.i64 a01) 1000) (gate 1
  (IntKind.wrap IntKind.i64 ↑(BitVec.toNat (BitVec.ofInt 64 (Int.tmod (IntKind.wrap IntKind.i64 a01) 1000) ||| BitVec.ofInt 64 1)))))]), AV.t (Tree.agg [I (Tree.toInt (List.headD
  (Tree.cs (List.headD (Tree.tupl y_2) (Tree.bool false))) (Tree.bool false))), I (Tree.toInt (List.headD (List.tail (Tree.cs (List.headD (Tree.tupl y_2) (Tree.bool false))))
  (Tree.bool false)))]), AV.t (Tree.tup [Tree.agg [I (Tree.toInt (List.headD (Tree.cs (List.headD (Tree.tupl y_4) (Tree.bool false))) (Tree.bool false))), I (Tree.toInt (List.headD
  (List.tail (Tree.cs (List.headD (Tree.tupl y_4) (Tree.bool false)))) (Tree.bool false)))], I (Tree.toInt (List.headD (List.tail (Tree.tupl y_4)) (Tree.bool false)))]), AV.t
  (Tree.agg [I (Tree.toInt (List.headD (Tree.cs (List.headD (Tree.tupl y_4) (Tree.bool false))) (Tree.bool false))), I (Tree.toInt (List.headD (List.tail (Tree.cs (List.headD
  (Tree.tupl y_4) (Tree.bool false)))) (Tree.bool false)))]), AV.t (I (Tree.toInt (List.headD (List.tail (Tree.tupl y_4)) (Tree.bool false)))), AV.t (I (Tree.toInt (List.headD
  (List.tail (Tree.tupl y)) (Tree.bool false)))), AV.t (Tree.bool (Tree.toInt (List.headD (List.tail (Tree.tupl y)) (Tree.bool false)) != 0)), AV.t (Tree.bool false), AV.t (I
  (Tree.toInt (List.headD (List.tail (Tree.tupl y_1)) (Tree.bool false)))), AV.t (Tree.bool (Tree.toInt (List.headD (List.tail (Tree.tupl y_1)) (Tree.bool false)) != 0)), AV.t
  (Tree.bool (Tree.toInt (List.headD (List.tail (Tree.tupl y_1)) (Tree.bool false)) != 0)), AV.t (Tree.bool false), AV.t (I (Tree.toInt (List.headD (List.tail (Tree.tupl y_2))
  (Tree.bool false)))), AV.t (Tree.bool (Tree.toInt (List.headD (List.tail (Tree.tupl y_2)) (Tree.bool false)) != 0)), AV.t (Tree.bool (Tree.toInt (List.headD (List.tail (Tree.tupl
  y_2)) (Tree.bool false)) != 0)), AV.t (Tree.bool false), AV.t (I (Tree.toInt (List.headD (List.tail (Tree.tupl y_3)) (Tree.bool false)))), AV.t (Tree.bool (Tree.toInt (List.headD
  (List.tail (Tree.tupl y_3)) (Tree.bool false)) != 0)), AV.t (Tree.bool (Tree.toInt (List.headD (List.tail (Tree.tupl y_3)) (Tree.bool false)) != 0)), AV.t (Tree.bool false), AV.t
  (I (Tree.toInt (List.headD (List.tail (Tree.tupl y_4)) (Tree.bool false)))), AV.t (Tree.bool (Tree.toInt (List.headD (List.tail (Tree.tupl y_4)) (Tree.bool false)) != 0)), AV.t
  (Tree.bool (Tree.toInt (List.headD (List.tail (Tree.tupl y_4)) (Tree.bool false)) != 0)), AV.t (Tree.bool false), AV.t (Tree.agg [I (Tree.toInt (List.headD (Tree.cs (List.headD
  (Tree.tupl y) (Tree.bool false))) (Tree.bool false))), I (Tree.toInt (List.headD (List.tail (Tree.cs (List.headD (Tree.tupl y) (Tree.bool false)))) (Tree.bool false)))]), AV.t
  (Tree.agg [I (Tree.toInt (List.headD (Tree.cs (List.headD (Tree.tupl y_1) (Tree.bool false))) (Tree.bool false))), I (Tree.toInt (List.headD (List.tail (Tree.cs (List.headD
  (Tree.tupl y_1) (Tree.bool false)))) (Tree.bool false)))]), AV.t (Tree.bool !(Tree.toInt (List.headD (Tree.cs (List.headD (Tree.tupl y) (Tree.bool false))) (Tree.bool false)) ==
  Tree.toInt (List.headD (Tree.cs (List.headD (Tree.tupl y_1) (Tree.bool false))) (Tree.bool false)) && (Tree.toInt (List.headD (List.tail (Tree.cs (List.headD (Tree.tupl y)
  (Tree.bool false)))) (Tree.bool false)) == Tree.toInt (List.headD (List.tail (Tree.cs (List.headD (Tree.tupl y_1) (Tree.bool false)))) (Tree.bool false)) && true))), AV.t
  (Tree.bool !(Tree.toInt (List.headD (Tree.cs (List.headD (Tree.tupl y) (Tree.bool false))) (Tree.bool false)) == Tree.toInt (List.headD (Tree.cs (List.headD (Tree.tupl y_1)
  (Tree.bool false))) (Tree.bool false)) && (Tree.toInt (List.headD (List.tail (Tree.cs (List.headD (Tree.tupl y) (Tree.bool false)))) (Tree.bool false)) == Tree.toInt (List.headD
  (List.tail (Tree.cs (List.headD (Tree.tupl y_1) (Tree.bool false)))) (Tree.bool false)) && true))), AV.t (Tree.bool false), AV.t (Tree.agg [I (Tree.toInt (List.headD (Tree.cs
  (List.headD (Tree.tupl y_3) (Tree.bool false))) (Tree.bool false))), I (Tree.toInt (List.headD (List.tail (Tree.cs (List.headD (Tree.tupl y_3) (Tree.bool false)))) (Tree.bool
  false)))]), AV.t (Tree.agg [I (Tree.toInt (List.headD (Tree.cs (List.headD (Tree.tupl y_4) (Tree.bool false))) (Tree.bool false))), I (Tree.toInt (List.headD (List.tail (Tree.cs
  (List.headD (Tree.tupl y_4) (Tree.bool false)))) (Tree.bool false)))]), AV.t (Tree.bool !(Tree.toInt (List.headD (Tree.cs (List.headD (Tree.tupl y_3) (Tree.bool false)))
  (Tree.bool false)) == Tree.toInt (List.headD (Tree.cs (List.headD (Tree.tupl y_4) (Tree.bool false))) (Tree.bool false)) && (Tree.toInt (List.headD (List.tail (Tree.cs (List.headD
  (Tree.tupl y_3) (Tree.bool false)))) (Tree.bool false)) == Tree.toInt (List.headD (List.tail (Tree.cs (List.headD (Tree.tupl y_4) (Tree.bool false)))) (Tree.bool false)) &&
  true))), AV.t (Tree.bool false), AV.t (Tree.tup [Tree.agg [I (Tree.toInt (List.headD (Tree.cs (List.headD (Tree.tupl y_5) (Tree.bool false))) (Tree.bool false))), I (Tree.toInt
  (List.headD (List.tail (Tree.cs (List.headD (Tree.tupl y_5) (Tree.bool false)))) (Tree.bool false)))], I (Tree.toInt (List.headD (List.tail (Tree.tupl y_5)) (Tree.bool false)))]),
  AV.t (Tree.agg [I (Int.tmod (IntKind.wrap IntKind.i64 a00) 1000), I (gate (Int.tmod (IntKind.wrap IntKind.i64 a01) 1000) (gate 1 (IntKind.wrap IntKind.i64 ↑(BitVec.toNat
  (BitVec.ofInt 64 (Int.tmod (IntKind.wrap IntKind.i64 a01) 1000) ||| BitVec.ofInt 64 1)))))]), AV.t (Tree.agg [I (Int.tmod (IntKind.wrap IntKind.i64 a20) 1000), I (gate (Int.tmod
  (IntKind.wrap IntKind.i64 a21) 1000) (gate 1 (IntKind.wrap IntKind.i64 ↑(BitVec.toNat (BitVec.ofInt 64 (Int.tmod (IntKind.wrap IntKind.i64 a21) 1000) ||| BitVec.ofInt 64 1)))))]),
  AV.t (Tree.tup [Tree.agg [I (Tree.toInt (List.headD (Tree.cs (List.headD (Tree.tupl y_5) (Tree.bool false))) (Tree.bool false))), I (Tree.toInt (List.headD (List.tail (Tree.cs
  (List.headD (Tree.tupl y_5) (Tree.bool false)))) (Tree.bool false)))], I (Tree.toInt (List.headD (List.tail (Tree.tupl y_5)) (Tree.bool false)))]), AV.t (Tree.agg [I (Tree.toInt
  (List.headD (Tree.cs (List.headD (Tree.tupl y_5) (Tree.bool false))) (Tree.bool false))), I (Tree.toInt (List.headD (List.tail (Tree.cs (List.headD (Tree.tupl y_5) (Tree.bool
  false)))) (Tree.bool false)))]), AV.t (I (Tree.toInt (List.headD (List.tail (Tree.tupl y_5)) (Tree.bool false)))), AV.t (Tree.tup [Tree.agg [I (Tree.toInt (List.headD (Tree.cs
  (List.headD (Tree.tupl y_6) (Tree.bool false))) (Tree.bool false))), I (Tree.toInt (List.headD (List.tail (Tree.cs (List.headD (Tree.tupl y_6) (Tree.bool false)))) (Tree.bool
  false)))], I (Tree.toInt (List.headD (List.tail (Tree.tupl y_6)) (Tree.bool false)))]), AV.t (Tree.agg [I (Int.tmod (IntKind.wrap IntKind.i64 a10) 1000), I (gate (Int.tmod
  (IntKind.wrap IntKind.i64 a11) 1000) (gate 1 (IntKind.wrap IntKind.i64 ↑(BitVec.toNat (BitVec.ofInt 64 (Int.tmod (IntKind.wrap IntKind.i64 a11) 1000) ||| BitVec.ofInt 64 1)))))]),
  AV.t (Tree.agg [I (Int.tmod (IntKind.wrap IntKind.i64 a20) 1000), I (gate (Int.tmod (IntKind.wrap IntKind.i64 a21) 1000) (gate 1 (IntKind.wrap IntKind.i64 ↑(BitVec.toNat
  (BitVec.ofInt 64 (Int.tmod (IntKind.wrap IntKind.i64 a21) 1000) ||| BitVec.ofInt 64 1)))))]), AV.t (Tree.tup [Tree.agg [I (Tree.toInt (List.headD (Tree.cs (List.headD (Tree.tupl
  y_6) (Tree.bool false))) (Tree.bool false))), I (Tree.toInt (List.headD (List.tail (Tree.cs (List.headD (Tree.tupl y_6) (Tree.bool false)))) (Tree.bool false)))], I (Tree.toInt
  (List.headD (List.tail (Tree.tupl y_6)) (Tree.bool false)))]), AV.t (Tree.agg [I (Tree.toInt (List.headD (Tree.cs (List.headD (Tree.tupl y_6) (Tree.bool false))) (Tree.bool
  false))), I (Tree.toInt (List.headD (List.tail (Tree.cs (List.headD (Tree.tupl y_6) (Tree.bool false)))) (Tree.bool false)))]), AV.t (I (Tree.toInt (List.headD (List.tail
  (Tree.tupl y_6)) (Tree.bool false)))), AV.t (Tree.tup [Tree.agg [I (Tree.toInt (List.headD (Tree.cs (List.headD (Tree.tupl y_7) (Tree.bool false))) (Tree.bool false))), I
  (Tree.toInt (List.headD (List.tail (Tree.cs (List.headD (Tree.tupl y_7) (Tree.bool false)))) (Tree.bool false)))], I (Tree.toInt (List.headD (List.tail (Tree.tupl y_7)) (Tree.bool
  false)))]), AV.t (Tree.agg [I (Tree.toInt (List.headD (Tree.cs (List.headD (Tree.tupl y_5) (Tree.bool false))) (Tree.bool false))), I (Tree.toInt (List.headD (List.tail (Tree.cs
  (List.headD (Tree.tupl y_5) (Tree.bool false)))) (Tree.bool false)))]), AV.t (Tree.agg [I (Tree.toInt (List.headD (Tree.cs (List.headD (Tree.tupl y_6) (Tree.bool false)))
  (Tree.bool false))), I (Tree.toInt (List.headD (List.tail (Tree.cs (List.headD (Tree.tupl y_6) (Tree.bool false)))) (Tree.bool false)))]), AV.t (Tree.tup [Tree.agg [I (Tree.toInt
  (List.headD (Tree.cs (List.headD (Tree.tupl y_7) (Tree.bool false))) (Tree.bool false))), I (Tree.toInt (List.headD (List.tail (Tree.cs (List.headD (Tree.tupl y_7) (Tree.bool
  false)))) (Tree.bool false)))], I (Tree.toInt (List.headD (List.tail (Tree.tupl y_7)) (Tree.bool false)))]), AV.t (Tree.agg [I (Tree.toInt (List.headD (Tree.cs (List.headD
  (Tree.tupl y_7) (Tree.bool false))) (Tree.bool false))), I (Tree.toInt (List.headD (List.tail (Tree.cs (List.headD (Tree.tupl y_7) (Tree.bool false)))) (Tree.bool false)))]), AV.t
  (I (Tree.toInt (List.headD (List.tail (Tree.tupl y_7)) (Tree.bool false)))), AV.t (Tree.tup [Tree.agg [I (Tree.toInt (List.headD (Tree.cs (List.headD (Tree.tupl y_8) (Tree.bool
  false))) (Tree.bool false))), I (Tree.toInt (List.headD (List.tail (Tree.cs (List.headD (Tree.tupl y_8) (Tree.bool false)))) (Tree.bool false)))], I (Tree.toInt (List.headD
  (List.tail (Tree.tupl y_8)) (Tree.bool false)))]), AV.t (Tree.agg [I (Tree.toInt (List.headD (Tree.cs (List.headD (Tree.tupl y) (Tree.bool false))) (Tree.bool false))), I
  (Tree.toInt (List.headD (List.tail (Tree.cs (List.headD (Tree.tupl y) (Tree.bool false)))) (Tree.bool false)))]), AV.t (Tree.agg [I (Int.tmod (IntKind.wrap IntKind.i64 a20) 1000),
  I (gate (Int.tmod (IntKind.wrap IntKind.i64 a21) 1000) (gate 1 (IntKind.wrap IntKind.i64 ↑(BitVec.toNat (BitVec.ofInt 64 (Int.tmod (IntKind.wrap IntKind.i64 a21) 1000) |||
  BitVec.ofInt 64 1)))))]), AV.t (Tree.tup [Tree.agg [I (Tree.toInt (List.headD (Tree.cs (List.headD (Tree.tupl y_8) (Tree.bool false))) (Tree.bool false))), I (Tree.toInt
  (List.headD (List.tail (Tree.cs (List.headD (Tree.tupl y_8) (Tree.bool false)))) (Tree.bool false)))], I (Tree.toInt (List.headD (List.tail (Tree.tupl y_8)) (Tree.bool false)))]),
  AV.t (Tree.agg [I (Tree.toInt (List.headD (Tree.cs (List.headD (Tree.tupl y_8) (Tree.bool false))) (Tree.bool false))), I (Tree.toInt (List.headD (List.tail (Tree.cs (List.headD
  (Tree.tupl y_8) (Tree.bool false)))) (Tree.bool false)))]), AV.t (I (Tree.toInt (List.headD (List.tail (Tree.tupl y_8)) (Tree.bool false)))), AV.t (I (Tree.toInt (List.headD
  (List.tail (Tree.tupl y_5)) (Tree.bool false)))), AV.t (Tree.bool (Tree.toInt (List.headD (List.tail (Tree.tupl y_5)) (Tree.bool false)) == 0)), AV.t (Tree.bool true), AV.t (I
  (Tree.toInt (List.headD (List.tail (Tree.tupl y_6)) (Tree.bool false)))), AV.t (Tree.bool (Tree.toInt (List.headD (List.tail (Tree.tupl y_6)) (Tree.bool false)) == 0)), AV.t
  (Tree.bool (Tree.toInt (List.headD (List.tail (Tree.tupl y_6)) (Tree.bool false)) == 0)), AV.t (Tree.bool true), AV.t (I (Tree.toInt (List.headD (List.tail (Tree.tupl y_7))
  (Tree.bool false)))), AV.t (Tree.bool (Tree.toInt (List.headD (List.tail (Tree.tupl y_7)) (Tree.bool false)) == 0)), AV.t (Tree.bool (Tree.toInt (List.headD (List.tail (Tree.tupl
  y_7)) (Tree.bool false)) == 0)), AV.t (Tree.bool false), AV.undef, AV.undef, AV.t (Tree.bool false), AV.t (Tree.bool false), AV.undef, AV.undef, AV.undef, AV.t (Tree.bool false),
  AV.undef, AV.undef, AV.undef, AV.undef, AV.undef, AV.undef, AV.undef, AV.undef, AV.undef, AV.undef, AV.undef, AV.undef, AV.undef, AV.undef, AV.undef, AV.undef, AV.undef, AV.undef,
  AV.undef, AV.undef, AV.undef, AV.undef, AV.undef, AV.undef, AV.undef, AV.undef, AV.undef, AV.undef, AV.undef, AV.undef, AV.undef, AV.undef, AV.undef, AV.undef, AV.undef, AV.undef,
  AV.undef, AV.undef, AV.undef, AV.undef, AV.undef, AV.undef, AV.undef, AV.undef, AV.undef, AV.undef, AV.undef, AV.undef, AV.undef, AV.undef, AV.undef, AV.undef, AV.undef, AV.undef,
  AV.undef, AV.undef, AV.undef, AV.undef, AV.undef, AV.undef, AV.undef, AV.undef, AV.undef, AV.undef, AV.undef] [HObj.tre (Sh.agg [Sh.int IntKind.i16, Sh.int IntKind.i16]) [Tree.agg
  [Tree.int IntKind.i16 a00, Tree.int IntKind.i16 a01]], HObj.tre (Sh.agg [Sh.int IntKind.i16, Sh.int IntKind.i16]) [Tree.agg [Tree.int IntKind.i16 a10, Tree.int IntKind.i16 a11]],
  HObj.tre (Sh.agg [Sh.int IntKind.i16, Sh.int IntKind.i16]) [Tree.agg [Tree.int IntKind.i16 a20, Tree.int IntKind.i16 a21]], HObj.tre (Sh.agg [Sh.int IntKind.i64, Sh.int
  IntKind.i64]) [Tree.agg [I (Int.tmod (IntKind.wrap IntKind.i64 a00) 1000), I (gate (Int.tmod (IntKind.wrap IntKind.i64 a01) 1000) (gate 1 (IntKind.wrap IntKind.i64 ↑(BitVec.toNat
  (BitVec.ofInt 64 (Int.tmod (IntKind.wrap IntKind.i64 a01) 1000) ||| BitVec.ofInt 64 1)))))]], HObj.tre (Sh.agg [Sh.int IntKind.i64, Sh.int IntKind.i64]) [Tree.agg [I (Int.tmod
  (IntKind.wrap IntKind.i64 a10) 1000), I (gate (Int.tmod (IntKind.wrap IntKind.i64 a11) 1000) (gate 1 (IntKind.wrap IntKind.i64 ↑(BitVec.toNat (BitVec.ofInt 64 (Int.tmod
  (IntKind.wrap IntKind.i64 a11) 1000) ||| BitVec.ofInt 64 1)))))]], HObj.tre (Sh.agg [Sh.int IntKind.i64, Sh.int IntKind.i64]) [Tree.agg [I (Int.tmod (IntKind.wrap IntKind.i64 a20)
  1000), I (gate (Int.tmod (IntKind.wrap IntKind.i64 a21) 1000) (gate 1 (IntKind.wrap IntKind.i64 ↑(BitVec.toNat (BitVec.ofInt 64 (Int.tmod (IntKind.wrap IntKind.i64 a21) 1000) |||
  BitVec.ofInt 64 1)))))]], HObj.tre (Sh.agg [Sh.int IntKind.i64, Sh.int IntKind.i64]) [Tree.agg [I (Tree.toInt (List.headD (Tree.cs (List.headD (Tree.tupl y) (Tree.bool false)))
  (Tree.bool false))), I (Tree.toInt (List.headD (List.tail (Tree.cs (List.headD (Tree.tupl y) (Tree.bool false)))) (Tree.bool false)))]], HObj.tre (Sh.agg [Sh.int IntKind.i64,
  Sh.int IntKind.i64]) [Tree.agg [I (Tree.toInt (List.headD (Tree.cs (List.headD (Tree.tupl y_1) (Tree.bool false))) (Tree.bool false))), I (Tree.toInt (List.headD (List.tail
  (Tree.cs (List.headD (Tree.tupl y_1) (Tree.bool false)))) (Tree.bool false)))]], HObj.tre (Sh.agg [Sh.int IntKind.i64, Sh.int IntKind.i64]) [Tree.agg [I (Tree.toInt (List.headD
  (Tree.cs (List.headD (Tree.tupl y_2) (Tree.bool false))) (Tree.bool false))), I (Tree.toInt (List.headD (List.tail (Tree.cs (List.headD (Tree.tupl y_2) (Tree.bool false))))
  (Tree.bool false)))]], HObj.tre (Sh.agg [Sh.int IntKind.i64, Sh.int IntKind.i64]) [Tree.agg [I (Tree.toInt (List.headD (Tree.cs (List.headD (Tree.tupl y_3) (Tree.bool false)))
  (Tree.bool false))), I (Tree.toInt (List.headD (List.tail (Tree.cs (List.headD (Tree.tupl y_3) (Tree.bool false)))) (Tree.bool false)))]], HObj.tre (Sh.agg [Sh.int IntKind.i64,
  Sh.int IntKind.i64]) [Tree.agg [I (Tree.toInt (List.headD (Tree.cs (List.headD (Tree.tupl y_4) (Tree.bool false))) (Tree.bool false))), I (Tree.toInt (List.headD (List.tail
  (Tree.cs (List.headD (Tree.tupl y_4) (Tree.bool false)))) (Tree.bool false)))]], HObj.tre (Sh.agg [Sh.int IntKind.i64, Sh.int IntKind.i64]) [Tree.agg [I (Tree.toInt (List.headD
  (Tree.cs (List.headD (Tree.tupl y_5) (Tree.bool false))) (Tree.bool false))), I (Tree.toInt (List.headD (List.tail (Tree.cs (List.headD (Tree.tupl y_5) (Tree.bool false))))
  (Tree.bool false)))]], HObj.tre (Sh.agg [Sh.int IntKind.i64, Sh.int IntKind.i64]) [Tree.agg [I (Tree.toInt (List.headD (Tree.cs (List.headD (Tree.tupl y_6) (Tree.bool false)))
  (Tree.bool false))), I (Tree.toInt (List.headD (List.tail (Tree.cs (List.headD (Tree.tupl y_6) (Tree.bool false)))) (Tree.bool false)))]], HObj.tre (Sh.agg [Sh.int IntKind.i64,
  Sh.int IntKind.i64]) [Tree.agg [I (Tree.toInt (List.headD (Tree.cs (List.headD (Tree.tupl y_7) (Tree.bool false))) (Tree.bool false))), I (Tree.toInt (List.headD (List.tail
  (Tree.cs (List.headD (Tree.tupl y_7) (Tree.bool false)))) (Tree.bool false)))]], HObj.tre (Sh.agg [Sh.int IntKind.i64, Sh.int IntKind.i64]) [Tree.agg [I (Tree.toInt (List.headD
  (Tree.cs (List.headD (Tree.tupl y_8) (Tree.bool false))) (Tree.bool false))), I (Tree.toInt (List.headD (List.tail (Tree.cs (List.headD (Tree.tupl y_8) (Tree.bool false))))
  (Tree.bool false)))]]]) else K IExit.normal (St.mk [AV.t (Tree.agg [Tree.int IntKind.i16 a00, Tree.int IntKind.i16 a01]), AV.t (Tree.agg [Tree.int IntKind.i16 a10, Tree.int
  IntKind.i16 a11]), AV.t (Tree.agg [Tree.int IntKind.i16 a20, Tree.int IntKind.i16 a21]), AV.href 0 0 0, AV.href 1 0 0, AV.href 2 0 0, AV.t (Tree.bool false), AV.href 3 0 0,
  AV.href 4 0 0, AV.href 5 0 0, AV.href 6 0 0, AV.t (I (Tree.toInt (List.headD (List.tail (Tree.tupl y_5)) (Tree.bool false)))), AV.href 7 0 0, AV.t (I (Tree.toInt (List.headD
  (List.tail (Tree.tupl y_6)) (Tree.bool false)))), AV.href 8 0 0, AV.t (I (Tree.toInt (List.headD (List.tail (Tree.tupl y_7)) (Tree.bool false)))), AV.href 9 0 0, AV.t (I
  (Tree.toInt (List.headD (List.tail (Tree.tupl y_8)) (Tree.bool false)))), AV.href 10 0 0, AV.t (I (Tree.toInt (List.headD (List.tail (Tree.tupl y_4)) (Tree.bool false)))), AV.href
  11 0 0, AV.href 12 0 0, AV.href 13 0 0, AV.href 14 0 0, AV.undef, AV.undef, AV.undef, AV.undef, AV.undef, AV.undef, AV.undef, AV.undef, AV.undef, AV.undef, AV.undef, AV.undef,
  AV.href 0 0 0, AV.t (Tree.int IntKind.i16 a00), AV.t (I (IntKind.wrap IntKind.i64 a00)), AV.t (I (Int.tmod (IntKind.wrap IntKind.i64 a00) 1000)), AV.href 0 0 1, AV.t (Tree.int
  IntKind.i16 a01), AV.t (I (IntKind.wrap IntKind.i64 a01)), AV.t (I (Int.tmod (IntKind.wrap IntKind.i64 a01) 1000)), AV.t (I (gate (Int.tmod (IntKind.wrap IntKind.i64 a01) 1000)
  (gate 1 (IntKind.wrap IntKind.i64 ↑(BitVec.toNat (BitVec.ofInt 64 (Int.tmod (IntKind.wrap IntKind.i64 a01) 1000) ||| BitVec.ofInt 64 1)))))), AV.t (Tree.agg [I (Int.tmod
  (IntKind.wrap IntKind.i64 a00) 1000), I (gate (Int.tmod (IntKind.wrap IntKind.i64 a01) 1000) (gate 1 (IntKind.wrap IntKind.i64 ↑(BitVec.toNat (BitVec.ofInt 64 (Int.tmod
  (IntKind.wrap IntKind.i64 a01) 1000) ||| BitVec.ofInt 64 1)))))]), AV.href 1 0 0, AV.t (Tree.int IntKind.i16 a10), AV.t (I (IntKind.wrap IntKind.i64 a10)), AV.t (I (Int.tmod
  (IntKind.wrap IntKind.i64 a10) 1000)), AV.href 1 0 1, AV.t (Tree.int IntKind.i16 a11), AV.t (I (IntKind.wrap IntKind.i64 a11)), AV.t (I (Int.tmod (IntKind.wrap IntKind.i64 a11)
  1000)), AV.t (I (gate (Int.tmod (IntKind.wrap IntKind.i64 a11) 1000) (gate 1 (IntKind.wrap IntKind.i64 ↑(BitVec.toNat (BitVec.ofInt 64 (Int.tmod (IntKind.wrap IntKind.i64 a11)
  1000) ||| BitVec.ofInt 64 1)))))), AV.t (Tree.agg [I (Int.tmod (IntKind.wrap IntKind.i64 a10) 1000), I (gate (Int.tmod (IntKind.wrap IntKind.i64 a11) 1000) (gate 1 (IntKind.wrap
  IntKind.i64 ↑(BitVec.toNat (BitVec.ofInt 64 (Int.tmod (IntKind.wrap IntKind.i64 a11) 1000) ||| BitVec.ofInt 64 1)))))]), AV.href 2 0 0, AV.t (Tree.int IntKind.i16 a20), AV.t (I
  (IntKind.wrap IntKind.i64 a20)), AV.t (I (Int.tmod (IntKind.wrap IntKind.i64 a20) 1000)), AV.href 2 0 1, AV.t (Tree.int IntKind.i16 a21), AV.t (I (IntKind.wrap IntKind.i64 a21)),
  AV.t (I (Int.tmod (IntKind.wrap IntKind.i64 a21) 1000)), AV.t (I (gate (Int.tmod (IntKind.wrap IntKind.i64 a21) 1000) (gate 1 (IntKind.wrap IntKind.i64 ↑(BitVec.toNat
  (BitVec.ofInt 64 (Int.tmod (IntKind.wrap IntKind.i64 a21) 1000) ||| BitVec.ofInt 64 1)))))), AV.t (Tree.agg [I (Int.tmod (IntKind.wrap IntKind.i64 a20) 1000), I (gate (Int.tmod
  (IntKind.wrap IntKind.i64 a21) 1000) (gate 1 (IntKind.wrap IntKind.i64 ↑(BitVec.toNat (BitVec.ofInt 64 (Int.tmod (IntKind.wrap IntKind.i64 a21) 1000) ||| BitVec.ofInt 64 1)))))]),
  AV.t (Tree.tup [Tree.agg [I (Tree.toInt (List.headD (Tree.cs (List.headD (Tree.tupl y) (Tree.bool false))) (Tree.bool false))), I (Tree.toInt (List.headD (List.tail (Tree.cs
  (List.headD (Tree.tupl y) (Tree.bool false)))) (Tree.bool false)))], I (Tree.toInt (List.headD (List.tail (Tree.tupl y)) (Tree.bool false)))]), AV.t (Tree.agg [I (Int.tmod
  (IntKind.wrap IntKind.i64 a00) 1000), I (gate (Int.tmod (IntKind.wrap IntKind.i64 a01) 1000) (gate 1 (IntKind.wrap IntKind.i64 ↑(BitVec.toNat (BitVec.ofInt 64 (Int.tmod
  (IntKind.wrap IntKind.i64 a01) 1000) ||| BitVec.ofInt 64 1)))))]), AV.t (Tree.agg [I (Int.tmod (IntKind.wrap IntKind.i64 a10) 1000), I (gate (Int.tmod (IntKind.wrap IntKind.i64
  a11) 1000) (gate 1 (IntKind.wrap IntKind.i64 ↑(BitVec.toNat (BitVec.ofInt 64 (Int.tmod (IntKind.wrap IntKind.i64 a11) 1000) ||| BitVec.ofInt 64 1)))))]), AV.t (Tree.tup [Tree.agg
  [I (Tree.toInt (List.headD (Tree.cs (List.headD (Tree.tupl y) (Tree.bool false))) (Tree.bool false))), I (Tree.toInt (List.headD (List.tail (Tree.cs (List.headD (Tree.tupl y)
  (Tree.bool false)))) (Tree.bool false)))], I (Tree.toInt (List.headD (List.tail (Tree.tupl y)) (Tree.bool false)))]), AV.t (Tree.agg [I (Tree.toInt (List.headD (Tree.cs
  (List.headD (Tree.tupl y) (Tree.bool false))) (Tree.bool false))), I (Tree.toInt (List.headD (List.tail (Tree.cs (List.headD (Tree.tupl y) (Tree.bool false)))) (Tree.bool
  false)))]), AV.t (I (Tree.toInt (List.headD (List.tail (Tree.tupl y)) (Tree.bool false)))), AV.t (Tree.tup [Tree.agg [I (Tree.toInt (List.headD (Tree.cs (List.headD (Tree.tupl
  y_1) (Tree.bool false))) (Tree.bool false))), I (Tree.toInt (List.headD (List.tail (Tree.cs (List.headD (Tree.tupl y_1) (Tree.bool false)))) (Tree.bool false)))], I (Tree.toInt
  (List.headD (List.tail (Tree.tupl y_1)) (Tree.bool false)))]), AV.t (Tree.agg [I (Int.tmod (IntKind.wrap IntKind.i64 a10) 1000), I (gate (Int.tmod (IntKind.wrap IntKind.i64 a11)
  1000) (gate 1 (IntKind.wrap IntKind.i64 ↑(BitVec.toNat (BitVec.ofInt 64 (Int.tmod (IntKind.wrap IntKind.i64 a11) 1000) ||| BitVec.ofInt 64 1)))))]), AV.t (Tree.agg [I (Int.tmod
  (IntKind.wrap IntKind.i64 a00) 1000), I (gate (Int.tmod (IntKind.wrap IntKind.i64 a01) 1000) (gate 1 (IntKind.wrap IntKind.i64 ↑(BitVec.toNat (BitVec.ofInt 64 (Int.tmod
  (IntKind.wrap IntKind.i64 a01) 1000) ||| BitVec.ofInt 64 1)))))]), AV.t (Tree.tup [Tree.agg [I (Tree.toInt (List.headD (Tree.cs (List.headD (Tree.tupl y_1) (Tree.bool false)))
  (Tree.bool false))), I (Tree.toInt (List.headD (List.tail (Tree.cs (List.headD (Tree.tupl y_1) (Tree.bool false)))) (Tree.bool false)))], I (Tree.toInt (List.headD (List.tail
  (Tree.tupl y_1)) (Tree.bool false)))]), AV.t (Tree.agg [I (Tree.toInt (List.headD (Tree.cs (List.headD (Tree.tupl y_1) (Tree.bool false))) (Tree.bool false))), I (Tree.toInt
  (List.headD (List.tail (Tree.cs (List.headD (Tree.tupl y_1) (Tree.bool false)))) (Tree.bool false)))]), AV.t (I (Tree.toInt (List.headD (List.tail (Tree.tupl y_1)) (Tree.bool
  false)))), AV.t (Tree.tup [Tree.agg [I (Tree.toInt (List.headD (Tree.cs (List.headD (Tree.tupl y_2) (Tree.bool false))) (Tree.bool false))), I (Tree.toInt (List.headD (List.tail
  (Tree.cs (List.headD (Tree.tupl y_2) (Tree.bool false)))) (Tree.bool false)))], I (Tree.toInt (List.headD (List.tail (Tree.tupl y_2)) (Tree.bool false)))]), AV.t (Tree.agg [I
  (Int.tmod (IntKind.wrap IntKind.i64 a10) 1000), I (gate (Int.tmod (IntKind.wrap IntKind.i64 a11) 1000) (gate 1 (IntKind.wrap IntKind.i64 ↑(BitVec.toNat (BitVec.ofInt 64 (Int.tmod
  (IntKind.wrap IntKind.i64 a11) 1000) ||| BitVec.ofInt 64 1)))))]), AV.t (Tree.agg [I (Int.tmod (IntKind.wrap IntKind.i64 a20) 1000), I (gate (Int.tmod (IntKind.wrap IntKind.i64
  a21) 1000) (gate 1 (IntKind.wrap IntKind.i64 ↑(BitVec.toNat (BitVec.ofInt 64 (Int.tmod (IntKind.wrap IntKind.i64 a21) 1000) ||| BitVec.ofInt 64 1)))))]), AV.t (Tree.tup [Tree.agg
  [I (Tree.toInt (List.headD (Tree.cs (List.headD (Tree.tupl y_2) (Tree.bool false))) (Tree.bool false))), I (Tree.toInt (List.headD (List.tail (Tree.cs (List.headD (Tree.tupl y_2)
  (Tree.bool false)))) (Tree.bool false)))], I (Tree.toInt (List.headD (List.tail (Tree.tupl y_2)) (Tree.bool false)))]), AV.t (Tree.agg [I (Tree.toInt (List.headD (Tree.cs
  (List.headD (Tree.tupl y_2) (Tree.bool false))) (Tree.bool false))), I (Tree.toInt (List.headD (List.tail (Tree.cs (List.headD (Tree.tupl y_2) (Tree.bool false)))) (Tree.bool
  false)))]), AV.t (I (Tree.toInt (List.headD (List.tail (Tree.tupl y_2)) (Tree.bool false)))), AV.t (Tree.tup [Tree.agg [I (Tree.toInt (List.headD (Tree.cs (List.headD (Tree.tupl
  y_3) (Tree.bool false))) (Tree.bool false))), I (Tree.toInt (List.headD (List.tail (Tree.cs (List.headD (Tree.tupl y_3) (Tree.bool false)))) (Tree.bool false)))], I (Tree.toInt
  (List.headD (List.tail (Tree.tupl y_3)) (Tree.bool false)))]), AV.t (Tree.agg [I (Tree.toInt (List.headD (Tree.cs (List.headD (Tree.tupl y) (Tree.bool false))) (Tree.bool
  false))), I (Tree.toInt (List.headD (List.tail (Tree.cs (List.headD (Tree.tupl y) (Tree.bool false)))) (Tree.bool false)))]), AV.t (Tree.agg [I (Int.tmod (IntKind.wrap IntKind.i64
  a20) 1000), I (gate (Int.tmod (IntKind.wrap IntKind.i64 a21) 1000) (gate 1 (IntKind.wrap IntKind.i64 ↑(BitVec.toNat (BitVec.ofInt 64 (Int.tmod (IntKind.wrap IntKind.i64 a21) 1000)
  ||| BitVec.ofInt 64 1)))))]), AV.t (Tree.tup [Tree.agg [I (Tree.toInt (List.headD (Tree.cs (List.headD (Tree.tupl y_3) (Tree.bool false))) (Tree.bool false))), I (Tree.toInt
  (List.headD (List.tail (Tree.cs (List.headD (Tree.tupl y_3) (Tree.bool false)))) (Tree.bool false)))], I (Tree.toInt (List.headD (List.tail (Tree.tupl y_3)) (Tree.bool false)))]),
  AV.t (Tree.agg [I (Tree.toInt (List.headD (Tree.cs (List.headD (Tree.tupl y_3) (Tree.bool false))) (Tree.bool false))), I (Tree.toInt (List.headD (List.tail (Tree.cs (List.headD
  (Tree.tupl y_3) (Tree.bool false)))) (Tree.bool false)))]), AV.t (I (Tree.toInt (List.headD (List.tail (Tree.tupl y_3)) (Tree.bool false)))), AV.t (Tree.tup [Tree.agg [I
  (Tree.toInt (List.headD (Tree.cs (List.headD (Tree.tupl y_4) (Tree.bool false))) (Tree.bool false))), I (Tree.toInt (List.headD (List.tail (Tree.cs (List.headD (Tree.tupl y_4)
  (Tree.bool false)))) (Tree.bool false)))], I (Tree.toInt (List.headD (List.tail (Tree.tupl y_4)) (Tree.bool false)))]), AV.t (Tree.agg [I (Int.tmod (IntKind.wrap IntKind.i64 a00)
  1000), I (gate (Int.tmod (IntKind.wrap IntKind.i64 a01) 1000) (gate 1 (IntKind.wrap IntKind.i64 ↑(BitVec.toNat (BitVec.ofInt 64 (Int.tmod (IntKind.wrap IntKind.i64 a01) 1000) |||
  BitVec.ofInt 64 1)))))]), AV.t (Tree.agg [I (Tree.toInt (List.headD (Tree.cs (List.headD (Tree.tupl y_2) (Tree.bool false))) (Tree.bool false))), I (Tree.toInt (List.headD
  (List.tail (Tree.cs (List.headD (Tree.tupl y_2) (Tree.bool false)))) (Tree.bool false)))]), AV.t (Tree.tup [Tree.agg [I (Tree.toInt (List.headD (Tree.cs (List.headD (Tree.tupl
  y_4) (Tree.bool false))) (Tree.bool false))), I (Tree.toInt (List.headD (List.tail (Tree.cs (List.headD (Tree.tupl y_4) (Tree.bool false)))) (Tree.bool false)))], I (Tree.toInt
  (List.headD (List.tail (Tree.tupl y_4)) (Tree.bool false)))]), AV.t (Tree.agg [I (Tree.toInt (List.headD (Tree.cs (List.headD (Tree.tupl y_4) (Tree.bool false))) (Tree.bool
  false))), I (Tree.toInt (List.headD (List.tail (Tree.cs (List.headD (Tree.tupl y_4) (Tree.bool false)))) (Tree.bool false)))]), AV.t (I (Tree.toInt (List.headD (List.tail
  (Tree.tupl y_4)) (Tree.bool false)))), AV.t (I (Tree.toInt (List.headD (List.tail (Tree.tupl y)) (Tree.bool false)))), AV.t (Tree.bool (Tree.toInt (List.headD (List.tail
  (Tree.tupl y)) (Tree.bool false)) != 0)), AV.t (Tree.bool false), AV.t (I (Tree.toInt (List.headD (List.tail (Tree.tupl y_1)) (Tree.bool false)))), AV.t (Tree.bool (Tree.toInt
  (List.headD (List.tail (Tree.tupl y_1)) (Tree.bool false)) != 0)), AV.t (Tree.bool (Tree.toInt (List.headD (List.tail (Tree.tupl y_1)) (Tree.bool false)) != 0)), AV.t (Tree.bool
  false), AV.t (I (Tree.toInt (List.headD (List.tail (Tree.tupl y_2)) (Tree.bool false)))), AV.t (Tree.bool (Tree.toInt (List.headD (List.tail (Tree.tupl y_2)) (Tree.bool false)) !=
  0)), AV.t (Tree.bool (Tree.toInt (List.headD (List.tail (Tree.tupl y_2)) (Tree.bool false)) != 0)), AV.t (Tree.bool false), AV.t (I (Tree.toInt (List.headD (List.tail (Tree.tupl
  y_3)) (Tree.bool false)))), AV.t (Tree.bool (Tree.toInt (List.headD (List.tail (Tree.tupl y_3)) (Tree.bool false)) != 0)), AV.t (Tree.bool (Tree.toInt (List.headD (List.tail
  (Tree.tupl y_3)) (Tree.bool false)) != 0)), AV.t (Tree.bool false), AV.t (I (Tree.toInt (List.headD (List.tail (Tree.tupl y_4)) (Tree.bool false)))), AV.t (Tree.bool (Tree.toInt
  (List.headD (List.tail (Tree.tupl y_4)) (Tree.bool false)) != 0)), AV.t (Tree.bool (Tree.toInt (List.headD (List.tail (Tree.tupl y_4)) (Tree.bool false)) != 0)), AV.t (Tree.bool
  false), AV.t (Tree.agg [I (Tree.toInt (List.headD (Tree.cs (List.headD (Tree.tupl y) (Tree.bool false))) (Tree.bool false))), I (Tree.toInt (List.headD (List.tail (Tree.cs
  (List.headD (Tree.tupl y) (Tree.bool false)))) (Tree.bool false)))]), AV.t (Tree.agg [I (Tree.toInt (List.headD (Tree.cs (List.headD (Tree.tupl y_1) (Tree.bool false))) (Tree.bool
  false))), I (Tree.toInt (List.headD (List.tail (Tree.cs (List.headD (Tree.tupl y_1) (Tree.bool false)))) (Tree.bool false)))]), AV.t (Tree.bool !(Tree.toInt (List.headD (Tree.cs
  (List.headD (Tree.tupl y) (Tree.bool false))) (Tree.bool false)) == Tree.toInt (List.headD (Tree.cs (List.headD (Tree.tupl y_1) (Tree.bool false))) (Tree.bool false)) &&
  (Tree.toInt (List.headD (List.tail (Tree.cs (List.headD (Tree.tupl y) (Tree.bool false)))) (Tree.bool false)) == Tree.toInt (List.headD (List.tail (Tree.cs (List.headD (Tree.tupl
  y_1) (Tree.bool false)))) (Tree.bool false)) && true))), AV.t (Tree.bool !(Tree.toInt (List.headD (Tree.cs (List.headD (Tree.tupl y) (Tree.bool false))) (Tree.bool false)) ==
  Tree.toInt (List.headD (Tree.cs (List.headD (Tree.tupl y_1) (Tree.bool false))) (Tree.bool false)) && (Tree.toInt (List.headD (List.tail (Tree.cs (List.headD (Tree.tupl y)
  (Tree.bool false)))) (Tree.bool false)) == Tree.toInt (List.headD (List.tail (Tree.cs (List.headD (Tree.tupl y_1) (Tree.bool false)))) (Tree.bool false)) && true))), AV.t
  (Tree.bool false), AV.t (Tree.agg [I (Tree.toInt (List.headD (Tree.cs (List.headD (Tree.tupl y_3) (Tree.bool false))) (Tree.bool false))), I (Tree.toInt (List.headD (List.tail
  (Tree.cs (List.headD (Tree.tupl y_3) (Tree.bool false)))) (Tree.bool false)))]), AV.t (Tree.agg [I (Tree.toInt (List.headD (Tree.cs (List.headD (Tree.tupl y_4) (Tree.bool false)))
  (Tree.bool false))), I (Tree.toInt (List.headD (List.tail (Tree.cs (List.headD (Tree.tupl y_4) (Tree.bool false)))) (Tree.bool false)))]), AV.t (Tree.bool !(Tree.toInt (List.headD
  (Tree.cs (List.headD (Tree.tupl y_3) (Tree.bool false))) (Tree.bool false)) == Tree.toInt (List.headD (Tree.cs (List.headD (Tree.tupl y_4) (Tree.bool false))) (Tree.bool false))
  && (Tree.toInt (List.headD (List.tail (Tree.cs (List.headD (Tree.tupl y_3) (Tree.bool false)))) (Tree.bool false)) == Tree.toInt (List.headD (List.tail (Tree.cs (List.headD
  (Tree.tupl y_4) (Tree.bool false)))) (Tree.bool false)) && true))), AV.t (Tree.bool false), AV.t (Tree.tup [Tree.agg [I (Tree.toInt (List.headD (Tree.cs (List.headD (Tree.tupl
  y_5) (Tree.bool false))) (Tree.bool false))), I (Tree.toInt (List.headD (List.tail (Tree.cs (List.headD (Tree.tupl y_5) (Tree.bool false)))) (Tree.bool false)))], I (Tree.toInt
  (List.headD (List.tail (Tree.tupl y_5)) (Tree.bool false)))]), AV.t (Tree.agg [I (Int.tmod (IntKind.wrap IntKind.i64 a00) 1000), I (gate (Int.tmod (IntKind.wrap IntKind.i64 a01)
  1000) (gate 1 (IntKind.wrap IntKind.i64 ↑(BitVec.toNat (BitVec.ofInt 64 (Int.tmod (IntKind.wrap IntKind.i64 a01) 1000) ||| BitVec.ofInt 64 1)))))]), AV.t (Tree.agg [I (Int.tmod
  (IntKind.wrap IntKind.i64 a20) 1000), I (gate (Int.tmod (IntKind.wrap IntKind.i64 a21) 1000) (gate 1 (IntKind.wrap IntKind.i64 ↑(BitVec.toNat (BitVec.ofInt 64 (Int.tmod
  (IntKind.wrap IntKind.i64 a21) 1000) ||| BitVec.ofInt 64 1)))))]), AV.t (Tree.tup [Tree.agg [I (Tree.toInt (List.headD (Tree.cs (List.headD (Tree.tupl y_5) (Tree.bool false)))
  (Tree.bool false))), I (Tree.toInt (List.headD (List.tail (Tree.cs (List.headD (Tree.tupl y_5) (Tree.bool false)))) (Tree.bool false)))], I (Tree.toInt (List.headD (List.tail
  (Tree.tupl y_5)) (Tree.bool false)))]), AV.t (Tree.agg [I (Tree.toInt (List.headD (Tree.cs (List.headD (Tree.tupl y_5) (Tree.bool false))) (Tree.bool false))), I (Tree.toInt
  (List.headD (List.tail (Tree.cs (List.headD (Tree.tupl y_5) (Tree.bool false)))) (Tree.bool false)))]), AV.t (I (Tree.toInt (List.headD (List.tail (Tree.tupl y_5)) (Tree.bool
  false)))), AV.t (Tree.tup [Tree.agg [I (Tree.toInt (List.headD (Tree.cs (List.headD (Tree.tupl y_6) (Tree.bool false))) (Tree.bool false))), I (Tree.toInt (List.headD (List.tail
  (Tree.cs (List.headD (Tree.tupl y_6) (Tree.bool false)))) (Tree.bool false)))], I (Tree.toInt (List.headD (List.tail (Tree.tupl y_6)) (Tree.bool false)))]), AV.t (Tree.agg [I
  (Int.tmod (IntKind.wrap IntKind.i64 a10) 1000), I (gate (Int.tmod (IntKind.wrap IntKind.i64 a11) 1000) (gate 1 (IntKind.wrap IntKind.i64 ↑(BitVec.toNat (BitVec.ofInt 64 (Int.tmod
  (IntKind.wrap IntKind.i64 a11) 1000) ||| BitVec.ofInt 64 1)))))]), AV.t (Tree.agg [I (Int.tmod (IntKind.wrap IntKind.i64 a20) 1000), I (gate (Int.tmod (IntKind.wrap IntKind.i64
  a21) 1000) (gate 1 (IntKind.wrap IntKind.i64 ↑(BitVec.toNat (BitVec.ofInt 64 (Int.tmod (IntKind.wrap IntKind.i64 a21) 1000) ||| BitVec.ofInt 64 1)))))]), AV.t (Tree.tup [Tree.agg
  [I (Tree.toInt (List.headD (Tree.cs (List.headD (Tree.tupl y_6) (Tree.bool false))) (Tree.bool false))), I (Tree.toInt (List.headD (List.tail (Tree.cs (List.headD (Tree.tupl y_6)
  (Tree.bool false)))) (Tree.bool false)))], I (Tree.toInt (List.headD (List.tail (Tree.tupl y_6)) (Tree.bool false)))]), AV.t (Tree.agg [I (Tree.toInt (List.headD (Tree.cs
  (List.headD (Tree.tupl y_6) (Tree.bool false))) (Tree.bool false))), I (Tree.toInt (List.headD (List.tail (Tree.cs (List.headD (Tree.tupl y_6) (Tree.bool false)))) (Tree.bool
  false)))]), AV.t (I (Tree.toInt (List.headD (List.tail (Tree.tupl y_6)) (Tree.bool false)))), AV.t (Tree.tup [Tree.agg [I (Tree.toInt (List.headD (Tree.cs (List.headD (Tree.tupl
  y_7) (Tree.bool false))) (Tree.bool false))), I (Tree.toInt (List.headD (List.tail (Tree.cs (List.headD (Tree.tupl y_7) (Tree.bool false)))) (Tree.bool false)))], I (Tree.toInt
  (List.headD (List.tail (Tree.tupl y_7)) (Tree.bool false)))]), AV.t (Tree.agg [I (Tree.toInt (List.headD (Tree.cs (List.headD (Tree.tupl y_5) (Tree.bool false))) (Tree.bool
  false))), I (Tree.toInt (List.headD (List.tail (Tree.cs (List.headD (Tree.tupl y_5) (Tree.bool false)))) (Tree.bool false)))]), AV.t (Tree.agg [I (Tree.toInt (List.headD (Tree.cs
  (List.headD (Tree.tupl y_6) (Tree.bool false))) (Tree.bool false))), I (Tree.toInt (List.headD (List.tail (Tree.cs (List.headD (Tree.tupl y_6) (Tree.bool false)))) (Tree.bool
  false)))]), AV.t (Tree.tup [Tree.agg [I (Tree.toInt (List.headD (Tree.cs (List.headD (Tree.tupl y_7) (Tree.bool false))) (Tree.bool false))), I (Tree.toInt (List.headD (List.tail
  (Tree.cs (List.headD (Tree.tupl y_7) (Tree.bool false)))) (Tree.bool false)))], I (Tree.toInt (List.headD (List.tail (Tree.tupl y_7)) (Tree.bool false)))]), AV.t (Tree.agg [I
  (Tree.toInt (List.headD (Tree.cs (List.headD (Tree.tupl y_7) (Tree.bool false))) (Tree.bool false))), I (Tree.toInt (List.headD (List.tail (Tree.cs (List.headD (Tree.tupl y_7)
  (Tree.bool false)))) (Tree.bool false)))]), AV.t (I (Tree.toInt (List.headD (List.tail (Tree.tupl y_7)) (Tree.bool false)))), AV.t (Tree.tup [Tree.agg [I (Tree.toInt (List.headD
  (Tree.cs (List.headD (Tree.tupl y_8) (Tree.bool false))) (Tree.bool false))), I (Tree.toInt (List.headD (List.tail (Tree.cs (List.headD (Tree.tupl y_8) (Tree.bool false))))
  (Tree.bool false)))], I (Tree.toInt (List.headD (List.tail (Tree.tupl y_8)) (Tree.bool false)))]), AV.t (Tree.agg [I (Tree.toInt (List.headD (Tree.cs (List.headD (Tree.tupl y)
  (Tree.bool false))) (Tree.bool false))), I (Tree.toInt (List.headD (List.tail (Tree.cs (List.headD (Tree.tupl y) (Tree.bool false)))) (Tree.bool false)))]), AV.t (Tree.agg [I
  (Int.tmod (IntKind.wrap IntKind.i64 a20) 1000), I (gate (Int.tmod (IntKind.wrap IntKind.i64 a21) 1000) (gate 1 (IntKind.wrap IntKind.i64 ↑(BitVec.toNat (BitVec.ofInt 64 (Int.tmod
  (IntKind.wrap IntKind.i64 a21) 1000) ||| BitVec.ofInt 64 1)))))]), AV.t (Tree.tup [Tree.agg [I (Tree.toInt (List.headD (Tree.cs (List.headD (Tree.tupl y_8) (Tree.bool false)))
  (Tree.bool false))), I (Tree.toInt (List.headD (List.tail (Tree.cs (List.headD (Tree.tupl y_8) (Tree.bool false)))) (Tree.bool false)))], I (Tree.toInt (List.headD (List.tail
  (Tree.tupl y_8)) (Tree.bool false)))]), AV.t (Tree.agg [I (Tree.toInt (List.headD (Tree.cs (List.headD (Tree.tupl y_8) (Tree.bool false))) (Tree.bool false))), I (Tree.toInt
  (List.headD (List.tail (Tree.cs (List.headD (Tree.tupl y_8) (Tree.bool false)))) (Tree.bool false)))]), AV.t (I (Tree.toInt (List.headD (List.tail (Tree.tupl y_8)) (Tree.bool
  false)))), AV.t (I (Tree.toInt (List.headD (List.tail (Tree.tupl y_5)) (Tree.bool false)))), AV.t (Tree.bool (Tree.toInt (List.headD (List.tail (Tree.tupl y_5)) (Tree.bool false))
  == 0)), AV.t (Tree.bool true), AV.t (I (Tree.toInt (List.headD (List.tail (Tree.tupl y_6)) (Tree.bool false)))), AV.t (Tree.bool (Tree.toInt (List.headD (List.tail (Tree.tupl
  y_6)) (Tree.bool false)) == 0)), AV.t (Tree.bool (Tree.toInt (List.headD (List.tail (Tree.tupl y_6)) (Tree.bool false)) == 0)), AV.t (Tree.bool false), AV.undef, AV.undef, AV.t
  (Tree.bool false), AV.t (Tree.bool false), AV.undef, AV.undef, AV.t (Tree.bool false), AV.t (Tree.bool false), AV.undef, AV.undef, AV.undef, AV.t (Tree.bool false), AV.undef,
  AV.undef, AV.undef, AV.undef, AV.undef, AV.undef, AV.undef, AV.undef, AV.undef, AV.undef, AV.undef, AV.undef, AV.undef, AV.undef, AV.undef, AV.undef, AV.undef, AV.undef, AV.undef,
  AV.undef, AV.undef, AV.undef, AV.undef, AV.undef, AV.undef, AV.undef, AV.undef, AV.undef, AV.undef, AV.undef, AV.undef, AV.undef, AV.undef, AV.undef, AV.undef, AV.undef, AV.undef,
  AV.undef, AV.undef, AV.undef, AV.undef, AV.undef, AV.undef, AV.undef, AV.undef, AV.undef, AV.undef, AV.undef, AV.undef, AV.undef, AV.undef, AV.undef, AV.undef, AV.undef, AV.undef,
  AV.undef, AV.undef, AV.undef, AV.undef, AV.undef, AV.undef, AV.undef, AV.undef, AV.undef, AV.undef] [HObj.tre (Sh.agg [Sh.int IntKind.i16, Sh.int IntKind.i16]) [Tree.agg [Tree.int
  IntKind.i16 a00, Tree.int IntKind.i16 a01]], HObj.tre (Sh.agg [Sh.int IntKind.i16, Sh.int IntKind.i16]) [Tree.agg [Tree.int IntKind.i16 a10, Tree.int IntKind.i16 a11]], HObj.tre
  (Sh.agg [Sh.int IntKind.i16, Sh.int IntKind.i16]) [Tree.agg [Tree.int IntKind.i16 a20, Tree.int IntKind.i16 a21]], HObj.tre (Sh.agg [Sh.int IntKind.i64, Sh.int IntKind.i64])
  [Tree.agg [I (Int.tmod (IntKind.wrap IntKind.i64 a00) 1000), I (gate (Int.tmod (IntKind.wrap IntKind.i64 a01) 1000) (gate 1 (IntKind.wrap IntKind.i64 ↑(BitVec.toNat (BitVec.ofInt
  64 (Int.tmod (IntKind.wrap IntKind.i64 a01) 1000) ||| BitVec.ofInt 64 1)))))]], HObj.tre (Sh.agg [Sh.int IntKind.i64, Sh.int IntKind.i64]) [Tree.agg [I (Int.tmod (IntKind.wrap
  IntKind.i64 a10) 1000), I (gate (Int.tmod (IntKind.wrap IntKind.i64 a11) 1000) (gate 1 (IntKind.wrap IntKind.i64 ↑(BitVec.toNat (BitVec.ofInt 64 (Int.tmod (IntKind.wrap
  IntKind.i64 a11) 1000) ||| BitVec.ofInt 64 1)))))]], HObj.tre (Sh.agg [Sh.int IntKind.i64, Sh.int IntKind.i64]) [Tree.agg [I (Int.tmod (IntKind.wrap IntKind.i64 a20) 1000), I
  (gate (Int.tmod (IntKind.wrap IntKind.i64 a21) 1000) (gate 1 (IntKind.wrap IntKind.i64 ↑(BitVec.toNat (BitVec.ofInt 64 (Int.tmod (IntKind.wrap IntKind.i64 a21) 1000) |||
  BitVec.ofInt 64 1)))))]], HObj.tre (Sh.agg [Sh.int IntKind.i64, Sh.int IntKind.i64]) [Tree.agg [I (Tree.toInt (List.headD (Tree.cs (List.headD (Tree.tupl y) (Tree.bool false)))
  (Tree.bool false))), I (Tree.toInt (List.headD (List.tail (Tree.cs (List.headD (Tree.tupl y) (Tree.bool false)))) (Tree.bool false)))]], HObj.tre (Sh.agg [Sh.int IntKind.i64,
  Sh.int IntKind.i64]) [Tree.agg [I (Tree.toInt (List.headD (Tree.cs (List.headD (Tree.tupl y_1) (Tree.bool false))) (Tree.bool false))), I (Tree.toInt (List.headD (List.tail
  (Tree.cs (List.headD (Tree.tupl y_1) (Tree.bool false)))) (Tree.bool false)))]], HObj.tre (Sh.agg [Sh.int IntKind.i64, Sh.int IntKind.i64]) [Tree.agg [I (Tree.toInt (List.headD
  (Tree.cs (List.headD (Tree.tupl y_2) (Tree.bool false))) (Tree.bool false))), I (Tree.toInt (List.headD (List.tail (Tree.cs (List.headD (Tree.tupl y_2) (Tree.bool false))))
  (Tree.bool false)))]], HObj.tre (Sh.agg [Sh.int IntKind.i64, Sh.int IntKind.i64]) [Tree.agg [I (Tree.toInt (List.headD (Tree.cs (List.headD (Tree.tupl y_3) (Tree.bool false)))
  (Tree.bool false))), I (Tree.toInt (List.headD (List.tail (Tree.cs (List.headD (Tree.tupl y_3) (Tree.bool false)))) (Tree.bool false)))]], HObj.tre (Sh.agg [Sh.int IntKind.i64,
  Sh.int IntKind.i64]) [Tree.agg [I (Tree.toInt (List.headD (Tree.cs (List.headD (Tree.tupl y_4) (Tree.bool false))) (Tree.bool false))), I (Tree.toInt (List.headD (List.tail
  (Tree.cs (List.headD (Tree.tupl y_4) (Tree.bool false)))) (Tree.bool false)))]], HObj.tre (Sh.agg [Sh.int IntKind.i64, Sh.int IntKind.i64]) [Tree.agg [I (Tree.toInt (List.headD
  (Tree.cs (List.headD (Tree.tupl y_5) (Tree.bool false))) (Tree.bool false))), I (Tree.toInt (List.headD (List.tail (Tree.cs (List.headD (Tree.tupl y_5) (Tree.bool false))))
  (Tree.bool false)))]], HObj.tre (Sh.agg [Sh.int IntKind.i64, Sh.int IntKind.i64]) [Tree.agg [I (Tree.toInt (List.headD (Tree.cs (List.headD (Tree.tupl y_6) (Tree.bool false)))
  (Tree.bool false))), I (Tree.toInt (List.headD (List.tail (Tree.cs (List.headD (Tree.tupl y_6) (Tree.bool false)))) (Tree.bool false)))]], HObj.tre (Sh.agg [Sh.int IntKind.i64,
  Sh.int IntKind.i64]) [Tree.agg [I (Tree.toInt (List.headD (Tree.cs (List.headD (Tree.tupl y_7) (Tree.bool false))) (Tree.bool false))), I (Tree.toInt (List.headD (List.tail
  (Tree.cs (List.headD (Tree.tupl y_7) (Tree.bool false)))) (Tree.bool false)))]], HObj.tre (Sh.agg [Sh.int IntKind.i64, Sh.int IntKind.i64]) [Tree.agg [I (Tree.toInt (List.headD
  (Tree.cs (List.headD (Tree.tupl y_8) (Tree.bool false))) (Tree.bool false))), I (Tree.toInt (List.headD (List.tail (Tree.cs (List.headD (Tree.tupl y_8) (Tree.bool false))))
  (Tree.bool false)))]]]) else K IExit.normal (St.mk [AV.t (Tree.agg [Tree.int IntKind.i16 a00, Tree.int IntKind.i16 a01]), AV.t (Tree.agg [Tree.int IntKind.i16 a10, Tree.int
  IntKind.i16 a11]), AV.t (Tree.agg [Tree.int IntKind.i16 a20, Tree.int IntKind.i16 a21]), AV.href 0 0 0, AV.href 1 0 0, AV.href 2 0 0, AV.t (Tree.bool false), AV.href 3 0 0,
  AV.href 4 0 0, AV.href 5 0 0, AV.href 6 0 0, AV.t (I (Tree.toInt (List.headD (List.tail (Tree.tupl y_5)) (Tree.bool false)))), AV.href 7 0 0, AV.t (I (Tree.toInt (List.headD
  (List.tail (Tree.tupl y_6)) (Tree.bool false)))), AV.href 8 0 0, AV.t (I (Tree.toInt (List.headD (List.tail (Tree.tupl y_7)) (Tree.bool false)))), AV.href 9 0 0, AV.t (I
  (Tree.toInt (List.headD (List.tail (Tree.tupl y_8)) (Tree.bool false)))), AV.href 10 0 0, AV.t (I (Tree.toInt (List.headD (List.tail (Tree.tupl y_4)) (Tree.bool false)))), AV.href
  11 0 0, AV.href 12 0 0, AV.href 13 0 0, AV.href 14 0 0, AV.undef, AV.undef, AV.undef, AV.undef, AV.undef, AV.undef, AV.undef, AV.undef, AV.undef, AV.undef, AV.undef, AV.undef,
  AV.href 0 0 0, AV.t (Tree.int IntKind.i16 a00), AV.t (I (IntKind.wrap IntKind.i64 a00)), AV.t (I (Int.tmod (IntKind.wrap IntKind.i64 a00) 1000)), AV.href 0 0 1, AV.t (Tree.int
  IntKind.i16 a01), AV.t (I (IntKind.wrap IntKind.i64 a01)), AV.t (I (Int.tmod (IntKind.wrap IntKind.i64 a01) 1000)), AV.t (I (gate (Int.tmod (IntKind.wrap IntKind.i64 a01) 1000)
  (gate 1 (IntKind.wrap IntKind.i64 ↑(BitVec.toNat (BitVec.ofInt 64 (Int.tmod (IntKind.wrap IntKind.i64 a01) 1000) ||| BitVec.ofInt 64 1)))))), AV.t (Tree.agg [I (Int.tmod
  (IntKind.wrap IntKind.i64 a00) 1000), I (gate (Int.tmod (IntKind.wrap IntKind.i64 a01) 1000) (gate 1 (IntKind.wrap IntKind.i64 ↑(BitVec.toNat (BitVec.ofInt 64 (Int.tmod
  (IntKind.wrap IntKind.i64 a01) 1000) ||| BitVec.ofInt 64 1)))))]), AV.href 1 0 0, AV.t (Tree.int IntKind.i16 a10), AV.t (I (IntKind.wrap IntKind.i64 a10)), AV.t (I (Int.tmod
  (IntKind.wrap IntKind.i64 a10) 1000)), AV.href 1 0 1, AV.t (Tree.int IntKind.i16 a11), AV.t (I (IntKind.wrap IntKind.i64 a11)), AV.t (I (Int.tmod (IntKind.wrap IntKind.i64 a11)
  1000)), AV.t (I (gate (Int.tmod (IntKind.wrap IntKind.i64 a11) 1000) (gate 1 (IntKind.wrap IntKind.i64 ↑(BitVec.toNat (BitVec.ofInt 64 (Int.tmod (IntKind.wrap IntKind.i64 a11)
  1000) ||| BitVec.ofInt 64 1)))))), AV.t (Tree.agg [I (Int.tmod (IntKind.wrap IntKind.i64 a10) 1000), I (gate (Int.tmod (IntKind.wrap IntKind.i64 a11) 1000) (gate 1 (IntKind.wrap
  IntKind.i64 ↑(BitVec.toNat (BitVec.ofInt 64 (Int.tmod (IntKind.wrap IntKind.i64 a11) 1000) ||| BitVec.ofInt 64 1)))))]), AV.href 2 0 0, AV.t (Tree.int IntKind.i16 a20), AV.t (I
  (IntKind.wrap IntKind.i64 a20)), AV.t (I (Int.tmod (IntKind.wrap IntKind.i64 a20) 1000)), AV.href 2 0 1, AV.t (Tree.int IntKind.i16 a21), AV.t (I (IntKind.wrap IntKind.i64 a21)),
  AV.t (I (Int.tmod (IntKind.wrap IntKind.i64 a21) 1000)), AV.t (I (gate (Int.tmod (IntKind.wrap IntKind.i64 a21) 1000) (gate 1 (IntKind.wrap IntKind.i64 ↑(BitVec.toNat
  (BitVec.ofInt 64 (Int.tmod (IntKind.wrap IntKind.i64 a21) 1000) ||| BitVec.ofInt 64 1)))))), AV.t (Tree.agg [I (Int.tmod (IntKind.wrap IntKind.i64 a20) 1000), I (gate (Int.tmod
  (IntKind.wrap IntKind.i64 a21) 1000) (gate 1 (IntKind.wrap IntKind.i64 ↑(BitVec.toNat (BitVec.ofInt 64 (Int.tmod (IntKind.wrap IntKind.i64 a21) 1000) ||| BitVec.ofInt 64 1)))))]),
  AV.t (Tree.tup [Tree.agg [I (Tree.toInt (List.headD (Tree.cs (List.headD (Tree.tupl y) (Tree.bool false))) (Tree.bool false))), I (Tree.toInt (List.headD (List.tail (Tree.cs
  (List.headD (Tree.tupl y) (Tree.bool false)))) (Tree.bool false)))], I (Tree.toInt (List.headD (List.tail (Tree.tupl y)) (Tree.bool false)))]), AV.t (Tree.agg [I (Int.tmod
  (IntKind.wrap IntKind.i64 a00) 1000), I (gate (Int.tmod (IntKind.wrap IntKind.i64 a01) 1000) (gate 1 (IntKind.wrap IntKind.i64 ↑(BitVec.toNat (BitVec.ofInt 64 (Int.tmod
  (IntKind.wrap IntKind.i64 a01) 1000) ||| BitVec.ofInt 64 1)))))]), AV.t (Tree.agg [I (Int.tmod (IntKind.wrap IntKind.i64 a10) 1000), I (gate (Int.tmod (IntKind.wrap IntKind.i64
  a11) 1000) (gate 1 (IntKind.wrap IntKind.i64 ↑(BitVec.toNat (BitVec.ofInt 64 (Int.tmod (IntKind.wrap IntKind.i64 a11) 1000) ||| BitVec.ofInt 64 1)))))]), AV.t (Tree.tup [Tree.agg
  [I (Tree.toInt (List.headD (Tree.cs (List.headD (Tree.tupl y) (Tree.bool false))) (Tree.bool false))), I (Tree.toInt (List.headD (List.tail (Tree.cs (List.headD (Tree.tupl y)
  (Tree.bool false)))) (Tree.bool false)))], I (Tree.toInt (List.headD (List.tail (Tree.tupl y)) (Tree.bool false)))]), AV.t (Tree.agg [I (Tree.toInt (List.headD (Tree.cs
  (List.headD (Tree.tupl y) (Tree.bool false))) (Tree.bool false))), I (Tree.toInt (List.headD (List.tail (Tree.cs (List.headD (Tree.tupl y) (Tree.bool false)))) (Tree.bool
  false)))]), AV.t (I (Tree.toInt (List.headD (List.tail (Tree.tupl y)) (Tree.bool false)))), AV.t (Tree.tup [Tree.agg [I (Tree.toInt (List.headD (Tree.cs (List.headD (Tree.tupl
  y_1) (Tree.bool false))) (Tree.bool false))), I (Tree.toInt (List.headD (List.tail (Tree.cs (List.headD (Tree.tupl y_1) (Tree.bool false)))) (Tree.bool false)))], I (Tree.toInt
  (List.headD (List.tail (Tree.tupl y_1)) (Tree.bool false)))]), AV.t (Tree.agg [I (Int.tmod (IntKind.wrap IntKind.i64 a10) 1000), I (gate (Int.tmod (IntKind.wrap IntKind.i64 a11)
  1000) (gate 1 (IntKind.wrap IntKind.i64 ↑(BitVec.toNat (BitVec.ofInt 64 (Int.tmod (IntKind.wrap IntKind.i64 a11) 1000) ||| BitVec.ofInt 64 1)))))]), AV.t (Tree.agg [I (Int.tmod
  (IntKind.wrap IntKind.i64 a00) 1000), I (gate (Int.tmod (IntKind.wrap IntKind.i64 a01) 1000) (gate 1 (IntKind.wrap IntKind.i64 ↑(BitVec.toNat (BitVec.ofInt 64 (Int.tmod
  (IntKind.wrap IntKind.i64 a01) 1000) ||| BitVec.ofInt 64 1)))))]), AV.t (Tree.tup [Tree.agg [I (Tree.toInt (List.headD (Tree.cs (List.headD (Tree.tupl y_1) (Tree.bool false)))
  (Tree.bool false))), I (Tree.toInt (List.headD (List.tail (Tree.cs (List.headD (Tree.tupl y_1) (Tree.bool false)))) (Tree.bool false)))], I (Tree.toInt (List.headD (List.tail
  (Tree.tupl y_1)) (Tree.bool false)))]), AV.t (Tree.agg [I (Tree.toInt (List.headD (Tree.cs (List.headD (Tree.tupl y_1) (Tree.bool false))) (Tree.bool false))), I (Tree.toInt
  (List.headD (List.tail (Tree.cs (List.headD (Tree.tupl y_1) (Tree.bool false)))) (Tree.bool false)))]), AV.t (I (Tree.toInt (List.headD (List.tail (Tree.tupl y_1)) (Tree.bool
  false)))), AV.t (Tree.tup [Tree.agg [I (Tree.toInt (List.headD (Tree.cs (List.headD (Tree.tupl y_2) (Tree.bool false))) (Tree.bool false))), I (Tree.toInt (List.headD (List.tail
  (Tree.cs (List.headD (Tree.tupl y_2) (Tree.bool false)))) (Tree.bool false)))], I (Tree.toInt (List.headD (List.tail (Tree.tupl y_2)) (Tree.bool false)))]), AV.t (Tree.agg [I
  (Int.tmod (IntKind.wrap IntKind.i64 a10) 1000), I (gate (Int.tmod (IntKind.wrap IntKind.i64 a11) 1000) (gate 1 (IntKind.wrap IntKind.i64 ↑(BitVec.toNat (BitVec.ofInt 64 (Int.tmod
  (IntKind.wrap IntKind.i64 a11) 1000) ||| BitVec.ofInt 64 1)))))]), AV.t (Tree.agg [I (Int.tmod (IntKind.wrap IntKind.i64 a20) 1000), I (gate (Int.tmod (IntKind.wrap IntKind.i64
  a21) 1000) (gate 1 (IntKind.wrap IntKind.i64 ↑(BitVec.toNat (BitVec.ofInt 64 (Int.tmod (IntKind.wrap IntKind.i64 a21) 1000) ||| BitVec.ofInt 64 1)))))]), AV.t (Tree.tup [Tree.agg
  [I (Tree.toInt (List.headD (Tree.cs (List.headD (Tree.tupl y_2) (Tree.bool false))) (Tree.bool false))), I (Tree.toInt (List.headD (List.tail (Tree.cs (List.headD (Tree.tupl y_2)
  (Tree.bool false)))) (Tree.bool false)))], I (Tree.toInt (List.headD (List.tail (Tree.tupl y_2)) (Tree.bool false)))]), AV.t (Tree.agg [I (Tree.toInt (List.headD (Tree.cs
  (List.headD (Tree.tupl y_2) (Tree.bool false))) (Tree.bool false))), I (Tree.toInt (List.headD (List.tail (Tree.cs (List.headD (Tree.tupl y_2) (Tree.bool false)))) (Tree.bool
  false)))]), AV.t (I (Tree.toInt (List.headD (List.tail (Tree.tupl y_2)) (Tree.bool false)))), AV.t (Tree.tup [Tree.agg [I (Tree.toInt (List.headD (Tree.cs (List.headD (Tree.tupl
  y_3) (Tree.bool false))) (Tree.bool false))), I (Tree.toInt (List.headD (List.tail (Tree.cs (List.headD (Tree.tupl y_3) (Tree.bool false)))) (Tree.bool false)))], I (Tree.toInt
  (List.headD (List.tail (Tree.tupl y_3)) (Tree.bool false)))]), AV.t (Tree.agg [I (Tree.toInt (List.headD (Tree.cs (List.headD (Tree.tupl y) (Tree.bool false))) (Tree.bool
  false))), I (Tree.toInt (List.headD (List.tail (Tree.cs (List.headD (Tree.tupl y) (Tree.bool false)))) (Tree.bool false)))]), AV.t (Tree.agg [I (Int.tmod (IntKind.wrap IntKind.i64
  a20) 1000), I (gate (Int.tmod (IntKind.wrap IntKind.i64 a21) 1000) (gate 1 (IntKind.wrap IntKind.i64 ↑(BitVec.toNat (BitVec.ofInt 64 (Int.tmod (IntKind.wrap IntKind.i64 a21) 1000)
  ||| BitVec.ofInt 64 1)))))]), AV.t (Tree.tup [Tree.agg [I (Tree.toInt (List.headD (Tree.cs (List.headD (Tree.tupl y_3) (Tree.bool false))) (Tree.bool false))), I (Tree.toInt
  (List.headD (List.tail (Tree.cs (List.headD (Tree.tupl y_3) (Tree.bool false)))) (Tree.bool false)))], I (Tree.toInt (List.headD (List.tail (Tree.tupl y_3)) (Tree.bool false)))]),
  AV.t (Tree.agg [I (Tree.toInt (List.headD (Tree.cs (List.headD (Tree.tupl y_3) (Tree.bool false))) (Tree.bool false))), I (Tree.toInt (List.headD (List.tail (Tree.cs (List.headD
  (Tree.tupl y_3) (Tree.bool false)))) (Tree.bool false)))]), AV.t (I (Tree.toInt (List.headD (List.tail (Tree.tupl y_3)) (Tree.bool false)))), AV.t (Tree.tup [Tree.agg [I
  (Tree.toInt (List.headD (Tree.cs (List.headD (Tree.tupl y_4) (Tree.bool false))) (Tree.bool false))), I (Tree.toInt (List.headD (List.tail (Tree.cs (List.headD (Tree.tupl y_4)
  (Tree.bool false)))) (Tree.bool false)))], I (Tree.toInt (List.headD (List.tail (Tree.tupl y_4)) (Tree.bool false)))]), AV.t (Tree.agg [I (Int.tmod (IntKind.wrap IntKind.i64 a00)
  1000), I (gate (Int.tmod (IntKind.wrap IntKind.i64 a01) 1000) (gate 1 (IntKind.wrap IntKind.i64 ↑(BitVec.toNat (BitVec.ofInt 64 (Int.tmod (IntKind.wrap IntKind.i64 a01) 1000) |||
  BitVec.ofInt 64 1)))))]), AV.t (Tree.agg [I (Tree.toInt (List.headD (Tree.cs (List.headD (Tree.tupl y_2) (Tree.bool false))) (Tree.bool false))), I (Tree.toInt (List.headD
  (List.tail (Tree.cs (List.headD (Tree.tupl y_2) (Tree.bool false)))) (Tree.bool false)))]), AV.t (Tree.tup [Tree.agg [I (Tree.toInt (List.headD (Tree.cs (List.headD (Tree.tupl
  y_4) (Tree.bool false))) (Tree.bool false))), I (Tree.toInt (List.headD (List.tail (Tree.cs (List.headD (Tree.tupl y_4) (Tree.bool false)))) (Tree.bool false)))], I (Tree.toInt
  (List.headD (List.tail (Tree.tupl y_4)) (Tree.bool false)))]), AV.t (Tree.agg [I (Tree.toInt (List.headD (Tree.cs (List.headD (Tree.tupl y_4) (Tree.bool false))) (Tree.bool
  false))), I (Tree.toInt (List.headD (List.tail (Tree.cs (List.headD (Tree.tupl y_4) (Tree.bool false)))) (Tree.bool false)))]), AV.t (I (Tree.toInt (List.headD (List.tail
  (Tree.tupl y_4)) (Tree.bool false)))), AV.t (I (Tree.toInt (List.headD (List.tail (Tree.tupl y)) (Tree.bool false)))), AV.t (Tree.bool (Tree.toInt (List.headD (List.tail
  (Tree.tupl y)) (Tree.bool false)) != 0)), AV.t (Tree.bool false), AV.t (I (Tree.toInt (List.headD (List.tail (Tree.tupl y_1)) (Tree.bool false)))), AV.t (Tree.bool (Tree.toInt
  (List.headD (List.tail (Tree.tupl y_1)) (Tree.bool false)) != 0)), AV.t (Tree.bool (Tree.toInt (List.headD (List.tail (Tree.tupl y_1)) (Tree.bool false)) != 0)), AV.t (Tree.bool
  false), AV.t (I (Tree.toInt (List.headD (List.tail (Tree.tupl y_2)) (Tree.bool false)))), AV.t (Tree.bool (Tree.toInt (List.headD (List.tail (Tree.tupl y_2)) (Tree.bool false)) !=
  0)), AV.t (Tree.bool (Tree.toInt (List.headD (List.tail (Tree.tupl y_2)) (Tree.bool false)) != 0)), AV.t (Tree.bool false), AV.t (I (Tree.toInt (List.headD (List.tail (Tree.tupl
  y_3)) (Tree.bool false)))), AV.t (Tree.bool (Tree.toInt (List.headD (List.tail (Tree.tupl y_3)) (Tree.bool false)) != 0)), AV.t (Tree.bool (Tree.toInt (List.headD (List.tail
  (Tree.tupl y_3)) (Tree.bool false)) != 0)), AV.t (Tree.bool false), AV.t (I (Tree.toInt (List.headD (List.tail (Tree.tupl y_4)) (Tree.bool false)))), AV.t (Tree.bool (Tree.toInt
  (List.headD (List.tail (Tree.tupl y_4)) (Tree.bool false)) != 0)), AV.t (Tree.bool (Tree.toInt (List.headD (List.tail (Tree.tupl y_4)) (Tree.bool false)) != 0)), AV.t (Tree.bool
  false), AV.t (Tree.agg [I (Tree.toInt (List.headD (Tree.cs (List.headD (Tree.tupl y) (Tree.bool false))) (Tree.bool false))), I (Tree.toInt (List.headD (List.tail (Tree.cs
  (List.headD (Tree.tupl y) (Tree.bool false)))) (Tree.bool false)))]), AV.t (Tree.agg [I (Tree.toInt (List.headD (Tree.cs (List.headD (Tree.tupl y_1) (Tree.bool false))) (Tree.bool
  false))), I (Tree.toInt (List.headD (List.tail (Tree.cs (List.headD (Tree.tupl y_1) (Tree.bool false)))) (Tree.bool false)))]), AV.t (Tree.bool !(Tree.toInt (List.headD (Tree.cs
  (List.headD (Tree.tupl y) (Tree.bool false))) (Tree.bool false)) == Tree.toInt (List.headD (Tree.cs (List.headD (Tree.tupl y_1) (Tree.bool false))) (Tree.bool false)) &&
  (Tree.toInt (List.headD (List.tail (Tree.cs (List.headD (Tree.tupl y) (Tree.bool false)))) (Tree.bool false)) == Tree.toInt (List.headD (List.tail (Tree.cs (List.headD (Tree.tupl
  y_1) (Tree.bool false)))) (Tree.bool false)) && true))), AV.t (Tree.bool !(Tree.toInt (List.headD (Tree.cs (List.headD (Tree.tupl y) (Tree.bool false))) (Tree.bool false)) ==
  Tree.toInt (List.headD (Tree.cs (List.headD (Tree.tupl y_1) (Tree.bool false))) (Tree.bool false)) && (Tree.toInt (List.headD (List.tail (Tree.cs (List.headD (Tree.tupl y)
  (Tree.bool false)))) (Tree.bool false)) == Tree.toInt (List.headD (List.tail (Tree.cs (List.headD (Tree.tupl y_1) (Tree.bool false)))) (Tree.bool false)) && true))), AV.t
  (Tree.bool false), AV.t (Tree.agg [I (Tree.toInt (List.headD (Tree.cs (List.headD (Tree.tupl y_3) (Tree.bool false))) (Tree.bool false))), I (Tree.toInt (List.headD (List.tail
  (Tree.cs (List.headD (Tree.tupl y_3) (Tree.bool false)))) (Tree.bool false)))]), AV.t (Tree.agg [I (Tree.toInt (List.headD (Tree.cs (List.headD (Tree.tupl y_4) (Tree.bool false)))
  (Tree.bool false))), I (Tree.toInt (List.headD (List.tail (Tree.cs (List.headD (Tree.tupl y_4) (Tree.bool false)))) (Tree.bool false)))]), AV.t (Tree.bool !(Tree.toInt (List.headD
  (Tree.cs (List.headD (Tree.tupl y_3) (Tree.bool false))) (Tree.bool false)) == Tree.toInt (List.headD (Tree.cs (List.headD (Tree.tupl y_4) (Tree.bool false))) (Tree.bool false))
  && (Tree.toInt (List.headD (List.tail (Tree.cs (List.headD (Tree.tupl y_3) (Tree.bool false)))) (Tree.bool false)) == Tree.toInt (List.headD (List.tail (Tree.cs (List.headD
  (Tree.tupl y_4) (Tree.bool false)))) (Tree.bool false)) && true))), AV.t (Tree.bool false), AV.t (Tree.tup [Tree.agg [I (Tree.toInt (List.headD (Tree.cs (List.headD (Tree.tupl
  y_5) (Tree.bool false))) (Tree.bool false))), I (Tree.toInt (List.headD (List.tail (Tree.cs (List.headD (Tree.tupl y_5) (Tree.bool false)))) (Tree.bool false)))], I (Tree.toInt
  (List.headD (List.tail (Tree.tupl y_5)) (Tree.bool false)))]), AV.t (Tree.agg [I (Int.tmod (IntKind.wrap IntKind.i64 a00) 1000), I (gate (Int.tmod (IntKind.wrap IntKind.i64 a01)
  1000) (gate 1 (IntKind.wrap IntKind.i64 ↑(BitVec.toNat (BitVec.ofInt 64 (Int.tmod (IntKind.wrap IntKind.i64 a01) 1000) ||| BitVec.ofInt 64 1)))))]), AV.t (Tree.agg [I (Int.tmod
  (IntKind.wrap IntKind.i64 a20) 1000), I (gate (Int.tmod (IntKind.wrap IntKind.i64 a21) 1000) (gate 1 (IntKind.wrap IntKind.i64 ↑(BitVec.toNat (BitVec.ofInt 64 (Int.tmod
  (IntKind.wrap IntKind.i64 a21) 1000) ||| BitVec.ofInt 64 1)))))]), AV.t (Tree.tup [Tree.agg [I (Tree.toInt (List.headD (Tree.cs (List.headD (Tree.tupl y_5) (Tree.bool false)))
  (Tree.bool false))), I (Tree.toInt (List.headD (List.tail (Tree.cs (List.headD (Tree.tupl y_5) (Tree.bool false)))) (Tree.bool false)))], I (Tree.toInt (List.headD (List.tail
  (Tree.tupl y_5)) (Tree.bool false)))]), AV.t (Tree.agg [I (Tree.toInt (List.headD (Tree.cs (List.headD (Tree.tupl y_5) (Tree.bool false))) (Tree.bool false))), I (Tree.toInt
  (List.headD (List.tail (Tree.cs (List.headD (Tree.tupl y_5) (Tree.bool false)))) (Tree.bool false)))]), AV.t (I (Tree.toInt (List.headD (List.tail (Tree.tupl y_5)) (Tree.bool
  false)))), AV.t (Tree.tup [Tree.agg [I (Tree.toInt (List.headD (Tree.cs (List.headD (Tree.tupl y_6) (Tree.bool false))) (Tree.bool false))), I (Tree.toInt (List.headD (List.tail
  (Tree.cs (List.headD (Tree.tupl y_6) (Tree.bool false)))) (Tree.bool false)))], I (Tree.toInt (List.headD (List.tail (Tree.tupl y_6)) (Tree.bool false)))]), AV.t (Tree.agg [I
  (Int.tmod (IntKind.wrap IntKind.i64 a10) 1000), I (gate (Int.tmod (IntKind.wrap IntKind.i64 a11) 1000) (gate 1 (IntKind.wrap IntKind.i64 ↑(BitVec.toNat (BitVec.ofInt 64 (Int.tmod
  (IntKind.wrap IntKind.i64 a11) 1000) ||| BitVec.ofInt 64 1)))))]), AV.t (Tree.agg [I (Int.tmod (IntKind.wrap IntKind.i64 a20) 1000), I (gate (Int.tmod (IntKind.wrap IntKind.i64
  a21) 1000) (gate 1 (IntKind.wrap IntKind.i64 ↑(BitVec.toNat (BitVec.ofInt 64 (Int.tmod (IntKind.wrap IntKind.i64 a21) 1000) ||| BitVec.ofInt 64 1)))))]), AV.t (Tree.tup [Tree.agg
  [I (Tree.toInt (List.headD (Tree.cs (List.headD (Tree.tupl y_6) (Tree.bool false))) (Tree.bool false))), I (Tree.toInt (List.headD (List.tail (Tree.cs (List.headD (Tree.tupl y_6)
  (Tree.bool false)))) (Tree.bool false)))], I (Tree.toInt (List.headD (List.tail (Tree.tupl y_6)) (Tree.bool false)))]), AV.t (Tree.agg [I (Tree.toInt (List.headD (Tree.cs
  (List.headD (Tree.tupl y_6) (Tree.bool false))) (Tree.bool false))), I (Tree.toInt (List.headD (List.tail (Tree.cs (List.headD (Tree.tupl y_6) (Tree.bool false)))) (Tree.bool
  false)))]), AV.t (I (Tree.toInt (List.headD (List.tail (Tree.tupl y_6)) (Tree.bool false)))), AV.t (Tree.tup [Tree.agg [I (Tree.toInt (List.headD (Tree.cs (List.headD (Tree.tupl
  y_7) (Tree.bool false))) (Tree.bool false))), I (Tree.toInt (List.headD (List.tail (Tree.cs (List.headD (Tree.tupl y_7) (Tree.bool false)))) (Tree.bool false)))], I (Tree.toInt
  (List.headD (List.tail (Tree.tupl y_7)) (Tree.bool false)))]), AV.t (Tree.agg [I (Tree.toInt (List.headD (Tree.cs (List.headD (Tree.tupl y_5) (Tree.bool false))) (Tree.bool
  false))), I (Tree.toInt (List.headD (List.tail (Tree.cs (List.headD (Tree.tupl y_5) (Tree.bool false)))) (Tree.bool false)))]), AV.t (Tree.agg [I (Tree.toInt (List.headD (Tree.cs
  (List.headD (Tree.tupl y_6) (Tree.bool false))) (Tree.bool false))), I (Tree.toInt (List.headD (List.tail (Tree.cs (List.headD (Tree.tupl y_6) (Tree.bool false)))) (Tree.bool
  false)))]), AV.t (Tree.tup [Tree.agg [I (Tree.toInt (List.headD (Tree.cs (List.headD (Tree.tupl y_7) (Tree.bool false))) (Tree.bool false))), I (Tree.toInt (List.headD (List.tail
  (Tree.cs (List.headD (Tree.tupl y_7) (Tree.bool false)))) (Tree.bool false)))], I (Tree.toInt (List.headD (List.tail (Tree.tupl y_7)) (Tree.bool false)))]), AV.t (Tree.agg [I
  (Tree.toInt (List.headD (Tree.cs (List.headD (Tree.tupl y_7) (Tree.bool false))) (Tree.bool false))), I (Tree.toInt (List.headD (List.tail (Tree.cs (List.headD (Tree.tupl y_7)
  (Tree.bool false)))) (Tree.bool false)))]), AV.t (I (Tree.toInt (List.headD (List.tail (Tree.tupl y_7)) (Tree.bool false)))), AV.t (Tree.tup [Tree.agg [I (Tree.toInt (List.headD
  (Tree.cs (List.headD (Tree.tupl y_8) (Tree.bool false))) (Tree.bool false))), I (Tree.toInt (List.headD (List.tail (Tree.cs (List.headD (Tree.tupl y_8) (Tree.bool false))))
  (Tree.bool false)))], I (Tree.toInt (List.headD (List.tail (Tree.tupl y_8)) (Tree.bool false)))]), AV.t (Tree.agg [I (Tree.toInt (List.headD (Tree.cs (List.headD (Tree.tupl y)
  (Tree.bool false))) (Tree.bool false))), I (Tree.toInt (List.headD (List.tail (Tree.cs (List.headD (Tree.tupl y) (Tree.bool false)))) (Tree.bool false)))]), AV.t (Tree.agg [I
  (Int.tmod (IntKind.wrap IntKind.i64 a20) 1000), I (gate (Int.tmod (IntKind.wrap IntKind.i64 a21) 1000) (gate 1 (IntKind.wrap IntKind.i64 ↑(BitVec.toNat (BitVec.ofInt 64 (Int.tmod
  (IntKind.wrap IntKind.i64 a21) 1000) ||| BitVec.ofInt 64 1)))))]), AV.t (Tree.tup [Tree.agg [I (Tree.toInt (List.headD (Tree.cs (List.headD (Tree.tupl y_8) (Tree.bool false)))
  (Tree.bool false))), I (Tree.toInt (List.headD (List.tail (Tree.cs (List.headD (Tree.tupl y_8) (Tree.bool false)))) (Tree.bool false)))], I (Tree.toInt (List.headD (List.tail
  (Tree.tupl y_8)) (Tree.bool false)))]), AV.t (Tree.agg [I (Tree.toInt (List.headD (Tree.cs (List.headD (Tree.tupl y_8) (Tree.bool false))) (Tree.bool false))), I (Tree.toInt
  (List.headD (List.tail (Tree.cs (List.headD (Tree.tupl y_8) (Tree.bool false)))) (Tree.bool false)))]), AV.t (I (Tree.toInt (List.headD (List.tail (Tree.tupl y_8)) (Tree.bool
  false)))), AV.t (I (Tree.toInt (List.headD (List.tail (Tree.tupl y_5)) (Tree.bool false)))), AV.t (Tree.bool (Tree.toInt (List.headD (List.tail (Tree.tupl y_5)) (Tree.bool false))
  == 0)), AV.t (Tree.bool false), AV.undef, AV.undef, AV.t (Tree.bool false), AV.t (Tree.bool false), AV.undef, AV.undef, AV.t (Tree.bool false), AV.t (Tree.bool false), AV.undef,
  AV.undef, AV.t (Tree.bool false), AV.t (Tree.bool false), AV.undef, AV.undef, AV.undef, AV.t (Tree.bool false), AV.undef, AV.undef, AV.undef, AV.undef, AV.undef, AV.undef,
  AV.undef, AV.undef, AV.undef, AV.undef, AV.undef, AV.undef, AV.undef, AV.undef, AV.undef, AV.undef, AV.undef, AV.undef, AV.undef, AV.undef, AV.undef, AV.undef, AV.undef, AV.undef,
  AV.undef, AV.undef, AV.undef, AV.undef, AV.undef, AV.undef, AV.undef, AV.undef, AV.undef, AV.undef, AV.undef, AV.undef, AV.undef, AV.undef, AV.undef, AV.undef, AV.undef, AV.undef,
  AV.undef, AV.undef, AV.undef, AV.undef, AV.undef, AV.undef, AV.undef, AV.undef, AV.undef, AV.undef, AV.undef, AV.undef, AV.undef, AV.undef, AV.undef, AV.undef, AV.undef, AV.undef,
  AV.undef, AV.undef, AV.undef, AV.undef, AV.undef] [HObj.tre (Sh.agg [Sh.int IntKind.i16, Sh.int IntKind.i16]) [Tree.agg [Tree.int IntKind.i16 a00, Tree.int IntKind.i16 a01]],
  HObj.tre (Sh.agg [Sh.int IntKind.i16, Sh.int IntKind.i16]) [Tree.agg [Tree.int IntKind.i16 a10, Tree.int IntKind.i16 a11]], HObj.tre (Sh.agg [Sh.int IntKind.i16, Sh.int
  IntKind.i16]) [Tree.agg [Tree.int IntKind.i16 a20, Tree.int IntKind.i16 a21]], HObj.tre (Sh.agg [Sh.int IntKind.i64, Sh.int IntKind.i64]) [Tree.agg [I (Int.tmod (IntKind.wrap
  IntKind.i64 a00) 1000), I (gate (Int.tmod (IntKind.wrap IntKind.i64 a01) 1000) (gate 1 (IntKind.wrap IntKind.i64 ↑(BitVec.toNat (BitVec.ofInt 64 (Int.tmod (IntKind.wrap
  IntKind.i64 a01) 1000) ||| BitVec.ofInt 64 1)))))]], HObj.tre (Sh.agg [Sh.int IntKind.i64, Sh.int IntKind.i64]) [Tree.agg [I (Int.tmod (IntKind.wrap IntKind.i64 a10) 1000), I
  (gate (Int.tmod (IntKind.wrap IntKind.i64 a11) 1000) (gate 1 (IntKind.wrap IntKind.i64 ↑(BitVec.toNat (BitVec.ofInt 64 (Int.tmod (IntKind.wrap IntKind.i64 a11) 1000) |||
  BitVec.ofInt 64 1)))))]], HObj.tre (Sh.agg [Sh.int IntKind.i64, Sh.int IntKind.i64]) [Tree.agg [I (Int.tmod (IntKind.wrap IntKind.i64 a20) 1000), I (gate (Int.tmod (IntKind.wrap
  IntKind.i64 a21) 1000) (gate 1 (IntKind.wrap IntKind.i64 ↑(BitVec.toNat (BitVec.ofInt 64 (Int.tmod (IntKind.wrap IntKind.i64 a21) 1000) ||| BitVec.ofInt 64 1)))))]], HObj.tre
  (Sh.agg [Sh.int IntKind.i64, Sh.int IntKind.i64]) [Tree.agg [I (Tree.toInt (List.headD (Tree.cs (List.headD (Tree.tupl y) (Tree.bool false))) (Tree.bool false))), I (Tree.toInt
  (List.headD (List.tail (Tree.cs (List.headD (Tree.tupl y) (Tree.bool false)))) (Tree.bool false)))]], HObj.tre (Sh.agg [Sh.int IntKind.i64, Sh.int IntKind.i64]) [Tree.agg [I
  (Tree.toInt (List.headD (Tree.cs (List.headD (Tree.tupl y_1) (Tree.bool false))) (Tree.bool false))), I (Tree.toInt (List.headD (List.tail (Tree.cs (List.headD (Tree.tupl y_1)
  (Tree.bool false)))) (Tree.bool false)))]], HObj.tre (Sh.agg [Sh.int IntKind.i64, Sh.int IntKind.i64]) [Tree.agg [I (Tree.toInt (List.headD (Tree.cs (List.headD (Tree.tupl y_2)
  (Tree.bool false))) (Tree.bool false))), I (Tree.toInt (List.headD (List.tail (Tree.cs (List.headD (Tree.tupl y_2) (Tree.bool false)))) (Tree.bool false)))]], HObj.tre (Sh.agg
  [Sh.int IntKind.i64, Sh.int IntKind.i64]) [Tree.agg [I (Tree.toInt (List.headD (Tree.cs (List.headD (Tree.tupl y_3) (Tree.bool false))) (Tree.bool false))), I (Tree.toInt
  (List.headD (List.tail (Tree.cs (List.headD (Tree.tupl y_3) (Tree.bool false)))) (Tree.bool false)))]], HObj.tre (Sh.agg [Sh.int IntKind.i64, Sh.int IntKind.i64]) [Tree.agg [I
  (Tree.toInt (List.headD (Tree.cs (List.headD (Tree.tupl y_4) (Tree.bool false))) (Tree.bool false))), I (Tree.toInt (List.headD (List.tail (Tree.cs (List.headD (Tree.tupl y_4)
  (Tree.bool false)))) (Tree.bool false)))]], HObj.tre (Sh.agg [Sh.int IntKind.i64, Sh.int IntKind.i64]) [Tree.agg [I (Tree.toInt (List.headD (Tree.cs (List.headD (Tree.tupl y_5)
  (Tree.bool false))) (Tree.bool false))), I (Tree.toInt (List.headD (List.tail (Tree.cs (List.headD (Tree.tupl y_5) (Tree.bool false)))) (Tree.bool false)))]], HObj.tre (Sh.agg
  [Sh.int IntKind.i64, Sh.int IntKind.i64]) [Tree.agg [I (Tree.toInt (List.headD (Tree.cs (List.headD (Tree.tupl y_6) (Tree.bool false))) (Tree.bool false))), I (Tree.toInt
  (List.headD (List.tail (Tree.cs (List.headD (Tree.tupl y_6) (Tree.bool false)))) (Tree.bool false)))]], HObj.tre (Sh.agg [Sh.int IntKind.i64, Sh.int IntKind.i64]) [Tree.agg [I
  (Tree.toInt (List.headD (Tree.cs (List.headD (Tree.tupl y_7) (Tree.bool false))) (Tree.bool false))), I (Tree.toInt (List.headD (List.tail (Tree.cs (List.headD (Tree.tupl y_7)
  (Tree.bool false)))) (Tree.bool false)))]], HObj.tre (Sh.agg [Sh.int IntKind.i64, Sh.int IntKind.i64]) [Tree.agg [I (Tree.toInt (List.headD (Tree.cs (List.headD (Tree.tupl y_8)
  (Tree.bool false))) (Tree.bool false))), I (Tree.toInt (List.headD (List.tail (Tree.cs (List.headD (Tree.tupl y_8) (Tree.bool false)))) (Tree.bool false)))]]]) else none else none
  else none else none else none else none else none else none else none := by kernel_rfl

end Go.Proofs.Aw.Qa
