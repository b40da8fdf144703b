/-
  EQUATIONS of the reckoned code: printed by program.
-/
import Derived.Test.YtkfcancichadgaaSaTab
import Derived.Test.YtkfcancichadgaaAw4
set_option linter.unusedSimpArgs false
set_option linter.unusedVariables false
set_option maxRecDepth 100000
namespace Go.Proofs.Aw.Sa
open Go.Proofs

def L43_0y (n q : Nat) (s1 : Int) (s2c_0 : Int) (s2c_1_0 : Int) (s2c_1_1 : Int) (s2c_1_2 : List UInt8) (s2c_1_3 : List Tree) (s2c_1_4 : List Tree) (s7 : Int) (s24 : Int) (s25 : Int) (h0_0_0 : Int) (h0_0_1 : Int) (h0_0_2 : List UInt8) (h0_0_3 : List Tree) (h1 : List Tree) (h2_0_0 : Int) (h2_0_1 : Int) (h2_0_2 : List UInt8) : Option Tree :=
  evL (Tab.env tab) n 43 [1, 1, 1, 1, 1, 0, 1, 0] [q] { ts := [AV.any, AV.t (Tree.int IntKind.i64 s1), AV.t (Tree.fn 44 [] [Tree.ptr (Tree.int IntKind.i64 s2c_0) 0, Tree.ptr (Tree.agg [Tree.int IntKind.i64 s2c_1_0, Tree.int IntKind.i64 s2c_1_1, Tree.str s2c_1_2, Tree.slc s2c_1_3, Tree.slc s2c_1_4]) 0]), AV.href 0 0 0, AV.any, AV.any, AV.href 2 0 0, AV.t (Tree.int IntKind.i64 s7), AV.any, AV.any, AV.any, AV.any, AV.any, AV.any, AV.any, AV.any, AV.any, AV.any, AV.any, AV.any, AV.any, AV.any, AV.any, AV.any, AV.t (Tree.int IntKind.i64 s24), AV.t (Tree.int IntKind.i64 s25), AV.any, AV.any, AV.any, AV.any, AV.any, AV.any, AV.any, AV.any, AV.any, AV.any, AV.any, AV.any, AV.any, AV.any, AV.any, AV.any, AV.any, AV.any, AV.any, AV.any, AV.any, AV.any, AV.any, AV.any, AV.any, AV.any, AV.any, AV.any, AV.any, AV.any, AV.any, AV.any, AV.any], H := [HObj.mix (Sh.agg [Sh.int IntKind.i64, Sh.int IntKind.i64, Sh.str, Sh.slc, Sh.slc]) [AV.agg [AV.t (Tree.int IntKind.i64 h0_0_0), AV.t (Tree.int IntKind.i64 h0_0_1), AV.t (Tree.str h0_0_2), AV.t (Tree.slc h0_0_3), AV.hsl 1 none]], HObj.tre (Sh.agg [Sh.int IntKind.i64, Sh.int IntKind.i64, Sh.str, Sh.slc, Sh.slc]) h1, HObj.mix (Sh.agg [Sh.int IntKind.i64, Sh.int IntKind.i64, Sh.str, Sh.slc, Sh.slc]) [AV.agg [AV.t (Tree.int IntKind.i64 h2_0_0), AV.t (Tree.int IntKind.i64 h2_0_1), AV.t (Tree.str h2_0_2), AV.nilS, AV.nilS]]] }

def L21_0 (n q : Nat) (s7 : Int) (h0_0_0 : Int) (h0_0_1 : Int) (h0_0_2 : List UInt8) (h0_0_3 : List Tree) (h0_0_4 : List Tree) (h1_0_0 : Int) (h1_0_1 : Int) (h1_0_2 : List UInt8) : Option Tree :=
  evL (Tab.env tab) n 21 [1, 1, 0, 1, 0] [q] { ts := [AV.any, AV.href 0 0 0, AV.href 1 0 0, AV.any, AV.any, AV.any, AV.any, AV.t (Tree.int IntKind.i64 s7), AV.any, AV.any, AV.any, AV.any, AV.any, AV.any, AV.any, AV.any, AV.any, AV.any, AV.any, AV.any, AV.any, AV.any, AV.any, AV.any, AV.any, AV.any, AV.any, AV.any, AV.any, AV.any, AV.any, AV.any, AV.any, AV.any, AV.any, AV.any, AV.any, AV.any, AV.any, AV.any, AV.any, AV.any, AV.any, AV.any, AV.any, AV.any, AV.any, AV.any, AV.any, AV.any, AV.any], H := [HObj.tre (Sh.agg [Sh.int IntKind.i64, Sh.int IntKind.i64, Sh.str, Sh.slc, Sh.slc]) [Tree.agg [Tree.int IntKind.i64 h0_0_0, Tree.int IntKind.i64 h0_0_1, Tree.str h0_0_2, Tree.slc h0_0_3, Tree.slc h0_0_4]], HObj.mix (Sh.agg [Sh.int IntKind.i64, Sh.int IntKind.i64, Sh.str, Sh.slc, Sh.slc]) [AV.agg [AV.t (Tree.int IntKind.i64 h1_0_0), AV.t (Tree.int IntKind.i64 h1_0_1), AV.t (Tree.str h1_0_2), AV.nilS, AV.nilS]]] }

theorem e52x (n : Nat) (a00 : Int) (a01 : Int) (a02 : List UInt8) (a03 : List Tree) (a04 : List Tree) (a1 : Int) (fr : Int) (by_ : Int) : evQ (Tab.env tab) n 52 [Tree.agg
 [Tree.int IntKind.i64 a00, Tree.int IntKind.i64 a01, Tree.str a02, Tree.slc a03, Tree.slc a04], Tree.int IntKind.i64 a1, Tree.ptr (Tree.int IntKind.i64 fr) 0, Tree.ptr
 (Tree.int IntKind.i64 by_) 0] = bif decide (IntKind.wrap IntKind.i64 (a01 - a1) ≥ fr) then bif decide (IntKind.wrap IntKind.i64 (IntKind.wrap IntKind.i64 (a01 - a1) +
 by_) ≥ fr) then bif decide (IntKind.wrap IntKind.i64 (a01 + by_) ≥ 0) then Option.bind (evP (Tab.env tab) n 42 [Tree.agg [Tree.int IntKind.i64 a00, Tree.int IntKind.i64
 (IntKind.wrap IntKind.i64 (a01 + by_)), Tree.str a02, Tree.slc a03, Tree.slc a04]]) fun y => bif Sh.ok (Sh.agg [Sh.int IntKind.i64, Sh.int IntKind.i64, Sh.str, Sh.slc,
 Sh.slc]) y then some (Tree.agg [Tree.int IntKind.i64 (Tree.toInt (List.headD (Tree.cs y) (Tree.bool false))), Tree.int IntKind.i64 (Tree.toInt (List.headD (List.tail
 (Tree.cs y)) (Tree.bool false))), Tree.str (Tree.toStr (List.headD (List.tail (List.tail (Tree.cs y))) (Tree.bool false))), Tree.slc (Tree.elems (List.headD (List.tail
 (List.tail (List.tail (Tree.cs y)))) (Tree.bool false))), Tree.slc (Tree.elems (List.headD (List.tail (List.tail (List.tail (List.tail (Tree.cs y))))) (Tree.bool
 false)))]) else none else Option.bind (evP (Tab.env tab) n 42 [Tree.agg [Tree.int IntKind.i64 a00, Tree.int IntKind.i64 a01, Tree.str a02, Tree.slc a03, Tree.slc a04]])
 fun y => bif Sh.ok (Sh.agg [Sh.int IntKind.i64, Sh.int IntKind.i64, Sh.str, Sh.slc, Sh.slc]) y then some (Tree.agg [Tree.int IntKind.i64 (Tree.toInt (List.headD (Tree.cs
 y) (Tree.bool false))), Tree.int IntKind.i64 (Tree.toInt (List.headD (List.tail (Tree.cs y)) (Tree.bool false))), Tree.str (Tree.toStr (List.headD (List.tail (List.tail
 (Tree.cs y))) (Tree.bool false))), Tree.slc (Tree.elems (List.headD (List.tail (List.tail (List.tail (Tree.cs y)))) (Tree.bool false))), Tree.slc (Tree.elems (List.headD
 (List.tail (List.tail (List.tail (List.tail (Tree.cs y))))) (Tree.bool false)))]) else none else Option.bind (evP (Tab.env tab) n 42 [Tree.agg [Tree.int IntKind.i64 a00,
 Tree.int IntKind.i64 a01, Tree.str a02, Tree.slc a03, Tree.slc a04]]) fun y => bif Sh.ok (Sh.agg [Sh.int IntKind.i64, Sh.int IntKind.i64, Sh.str, Sh.slc, Sh.slc]) y then
 some (Tree.agg [Tree.int IntKind.i64 (Tree.toInt (List.headD (Tree.cs y) (Tree.bool false))), Tree.int IntKind.i64 (Tree.toInt (List.headD (List.tail (Tree.cs y))
 (Tree.bool false))), Tree.str (Tree.toStr (List.headD (List.tail (List.tail (Tree.cs y))) (Tree.bool false))), Tree.slc (Tree.elems (List.headD (List.tail (List.tail
 (List.tail (Tree.cs y)))) (Tree.bool false))), Tree.slc (Tree.elems (List.headD (List.tail (List.tail (List.tail (List.tail (Tree.cs y))))) (Tree.bool false)))]) else
 none else Option.bind (evP (Tab.env tab) n 42 [Tree.agg [Tree.int IntKind.i64 a00, Tree.int IntKind.i64 a01, Tree.str a02, Tree.slc a03, Tree.slc a04]]) fun y => bif
 Sh.ok (Sh.agg [Sh.int IntKind.i64, Sh.int IntKind.i64, Sh.str, Sh.slc, Sh.slc]) y then some (Tree.agg [Tree.int IntKind.i64 (Tree.toInt (List.headD (Tree.cs y) (Tree.bool
 false))), Tree.int IntKind.i64 (Tree.toInt (List.headD (List.tail (Tree.cs y)) (Tree.bool false))), Tree.str (Tree.toStr (List.headD (List.tail (List.tail (Tree.cs y)))
 (Tree.bool false))), Tree.slc (Tree.elems (List.headD (List.tail (List.tail (List.tail (Tree.cs y)))) (Tree.bool false))), Tree.slc (Tree.elems (List.headD (List.tail
 (List.tail (List.tail (List.tail (Tree.cs y))))) (Tree.bool false)))]) else none := by kernel_rfl

theorem e44x (n : Nat) (a00 : Int) (a01 : Int) (a02 : List UInt8) (a03 : List Tree) (a04 : List Tree) (a1 : Int) (at_ : Int) (s0 : Int) (s1 : Int) (s2 : List UInt8) (s3 :
 List Tree) (s4 : List Tree) : evQ (Tab.env tab) n 44 [Tree.agg [Tree.int IntKind.i64 a00, Tree.int IntKind.i64 a01, Tree.str a02, Tree.slc a03, Tree.slc a04], Tree.int
 IntKind.i64 a1, Tree.ptr (Tree.int IntKind.i64 at_) 0, Tree.ptr (Tree.agg [Tree.int IntKind.i64 s0, Tree.int IntKind.i64 s1, Tree.str s2, Tree.slc s3, Tree.slc s4]) 0] =
 bif IntKind.wrap IntKind.i64 (a01 - a1) == at_ then Option.bind (evP (Tab.env tab) n 31 [Tree.agg [Tree.int IntKind.i64 s0, Tree.int IntKind.i64 s1, Tree.str s2, Tree.slc
 s3, Tree.slc s4], Tree.int IntKind.i64 a1, Tree.int IntKind.i64 0]) fun y => bif Sh.ok (Sh.agg [Sh.int IntKind.i64, Sh.int IntKind.i64, Sh.str, Sh.slc, Sh.slc]) y then
 some (Tree.agg [Tree.int IntKind.i64 (Tree.toInt (List.headD (Tree.cs y) (Tree.bool false))), Tree.int IntKind.i64 (Tree.toInt (List.headD (List.tail (Tree.cs y))
 (Tree.bool false))), Tree.str (Tree.toStr (List.headD (List.tail (List.tail (Tree.cs y))) (Tree.bool false))), Tree.slc (Tree.elems (List.headD (List.tail (List.tail
 (List.tail (Tree.cs y)))) (Tree.bool false))), Tree.slc (Tree.elems (List.headD (List.tail (List.tail (List.tail (List.tail (Tree.cs y))))) (Tree.bool false)))]) else
 none else bif decide (IntKind.wrap IntKind.i64 (a01 - a1) > at_) then Option.bind (evP (Tab.env tab) n 42 [Tree.agg [Tree.int IntKind.i64 a00, Tree.int IntKind.i64
 (IntKind.wrap IntKind.i64 (a01 - 1)), Tree.str a02, Tree.slc a03, Tree.slc a04]]) fun y => bif Sh.ok (Sh.agg [Sh.int IntKind.i64, Sh.int IntKind.i64, Sh.str, Sh.slc,
 Sh.slc]) y then some (Tree.agg [Tree.int IntKind.i64 (Tree.toInt (List.headD (Tree.cs y) (Tree.bool false))), Tree.int IntKind.i64 (Tree.toInt (List.headD (List.tail
 (Tree.cs y)) (Tree.bool false))), Tree.str (Tree.toStr (List.headD (List.tail (List.tail (Tree.cs y))) (Tree.bool false))), Tree.slc (Tree.elems (List.headD (List.tail
 (List.tail (List.tail (Tree.cs y)))) (Tree.bool false))), Tree.slc (Tree.elems (List.headD (List.tail (List.tail (List.tail (List.tail (Tree.cs y))))) (Tree.bool
 false)))]) else none else Option.bind (evP (Tab.env tab) n 42 [Tree.agg [Tree.int IntKind.i64 a00, Tree.int IntKind.i64 a01, Tree.str a02, Tree.slc a03, Tree.slc a04]])
 fun y => bif Sh.ok (Sh.agg [Sh.int IntKind.i64, Sh.int IntKind.i64, Sh.str, Sh.slc, Sh.slc]) y then some (Tree.agg [Tree.int IntKind.i64 (Tree.toInt (List.headD (Tree.cs
 y) (Tree.bool false))), Tree.int IntKind.i64 (Tree.toInt (List.headD (List.tail (Tree.cs y)) (Tree.bool false))), Tree.str (Tree.toStr (List.headD (List.tail (List.tail
 (Tree.cs y))) (Tree.bool false))), Tree.slc (Tree.elems (List.headD (List.tail (List.tail (List.tail (Tree.cs y)))) (Tree.bool false))), Tree.slc (Tree.elems (List.headD
 (List.tail (List.tail (List.tail (List.tail (Tree.cs y))))) (Tree.bool false)))]) else none := by kernel_rfl

theorem e43y (n : Nat) (a00 : Int) (a01 : Int) (a02 : List UInt8) (a03 : List Tree) (a04 : List Tree) (a1 : Int) (at_ : Int) (s0 : Int) (s1 : Int) (s2 : List UInt8) (s3 :
 List Tree) (s4 : List Tree) : evQ (Tab.env tab) n 43 [Tree.agg [Tree.int IntKind.i64 a00, Tree.int IntKind.i64 a01, Tree.str a02, Tree.slc a03, Tree.slc a04], Tree.int
 IntKind.i64 a1, Tree.fn 44 [] [Tree.ptr (Tree.int IntKind.i64 at_) 0, Tree.ptr (Tree.agg [Tree.int IntKind.i64 s0, Tree.int IntKind.i64 s1, Tree.str s2, Tree.slc s3,
 Tree.slc s4]) 0]] = Option.bind (evP (Tab.env tab) n 41 [Tree.agg [Tree.str a02, Tree.slc a03]]) fun y => bif Sh.ok (Sh.agg [Sh.str, Sh.slc]) y then bif firstOk (Sh.agg
 [Sh.int IntKind.i64, Sh.int IntKind.i64, Sh.str, Sh.slc, Sh.slc]) a04 then bif Nat.ble (List.length a04 * 80) 140737488355328 then Option.bind (evP (Tab.env tab) n 64
 [Tree.agg [Tree.int IntKind.i64 a00, Tree.int IntKind.i64 a01, Tree.str (Tree.toStr (List.headD (Tree.cs y) (Tree.bool false))), Tree.slc (Tree.elems (List.headD
 (List.tail (Tree.cs y)) (Tree.bool false))), Tree.slc a04], Tree.int IntKind.i64 2]) fun y_1 => bif Sh.ok Sh.bool y_1 then bif Tree.toBool y_1 then L43_0y n n a1 at_ s0
 s1 s2 s3 s4 (IntKind.wrap IntKind.i64 (a1 + 1)) (↑(List.length a04) : Int) 0 a00 a01 (Tree.toStr (List.headD (Tree.cs y) (Tree.bool false))) (Tree.elems (List.headD
 (List.tail (Tree.cs y)) (Tree.bool false))) a04 0 0 [] else L43_0y n n a1 at_ s0 s1 s2 s3 s4 a1 (↑(List.length a04) : Int) 0 a00 a01 (Tree.toStr (List.headD (Tree.cs y)
 (Tree.bool false))) (Tree.elems (List.headD (List.tail (Tree.cs y)) (Tree.bool false))) a04 0 0 [] else none else none else none else none := by kernel_rfl

theorem l43_0y (n q : Nat) (s1 : Int) (s2c_0 : Int) (s2c_1_0 : Int) (s2c_1_1 : Int) (s2c_1_2 : List UInt8) (s2c_1_3 : List Tree) (s2c_1_4 : List Tree) (s7 : Int) (s24 :
 Int) (s25 : Int) (h0_0_0 : Int) (h0_0_1 : Int) (h0_0_2 : List UInt8) (h0_0_3 : List Tree) (h1 : List Tree) (h2_0_0 : Int) (h2_0_1 : Int) (h2_0_2 : List UInt8) : L43_0y n
 (Nat.succ q) s1 s2c_0 s2c_1_0 s2c_1_1 s2c_1_2 s2c_1_3 s2c_1_4 s7 s24 s25 h0_0_0 h0_0_1 h0_0_2 h0_0_3 h1 h2_0_0 h2_0_1 h2_0_2 = bif decide (s25 < s24) then bif decide (0 ≤
 s25) && (decide (s25 < (↑(List.length h1) : Int)) && Nat.beq (List.length [Sh.int IntKind.i64, Sh.int IntKind.i64, Sh.str, Sh.slc, Sh.slc]) (List.length [Sh.int
 IntKind.i64, Sh.int IntKind.i64, Sh.str, Sh.slc, Sh.slc])) then Option.bind (nth h1 (Int.toNat s25)) fun y => bif Sh.ok (Sh.agg [Sh.int IntKind.i64, Sh.int IntKind.i64,
 Sh.str, Sh.slc, Sh.slc]) y then Option.bind (evP (Tab.env tab) n 43 [Tree.agg [Tree.int IntKind.i64 (Tree.toInt (List.headD (Tree.cs y) (Tree.bool false))), Tree.int
 IntKind.i64 (Tree.toInt (List.headD (List.tail (Tree.cs y)) (Tree.bool false))), Tree.str (Tree.toStr (List.headD (List.tail (List.tail (Tree.cs y))) (Tree.bool false))),
 Tree.slc (Tree.elems (List.headD (List.tail (List.tail (List.tail (Tree.cs y)))) (Tree.bool false))), Tree.slc (Tree.elems (List.headD (List.tail (List.tail (List.tail
 (List.tail (Tree.cs y))))) (Tree.bool false)))], Tree.int IntKind.i64 s7, Tree.fn 44 [] [Tree.ptr (Tree.int IntKind.i64 s2c_0) 0, Tree.ptr (Tree.agg [Tree.int IntKind.i64
 s2c_1_0, Tree.int IntKind.i64 s2c_1_1, Tree.str s2c_1_2, Tree.slc s2c_1_3, Tree.slc s2c_1_4]) 0]]) fun y => bif Sh.ok (Sh.agg [Sh.int IntKind.i64, Sh.int IntKind.i64,
 Sh.str, Sh.slc, Sh.slc]) y then bif decide (0 ≤ s25) && (decide (s25 < (↑(List.length h1) : Int)) && Nat.beq (List.length [Sh.int IntKind.i64, Sh.int IntKind.i64, Sh.str,
 Sh.slc, Sh.slc]) (List.length [Sh.int IntKind.i64, Sh.int IntKind.i64, Sh.str, Sh.slc, Sh.slc])) then Option.bind (nth h1 (Int.toNat s25)) fun y_1 => bif Sh.ok (Sh.agg
 [Sh.int IntKind.i64, Sh.int IntKind.i64, Sh.str, Sh.slc, Sh.slc]) y_1 then L43_0y n q s1 s2c_0 s2c_1_0 s2c_1_1 s2c_1_2 s2c_1_3 s2c_1_4 s7 s24 (IntKind.wrap IntKind.i64
 (s25 + 1)) h0_0_0 h0_0_1 h0_0_2 h0_0_3 (setN h1 (Int.toNat s25) (Tree.agg [Tree.int IntKind.i64 (Tree.toInt (List.headD (Tree.cs y) (Tree.bool false))), Tree.int
 IntKind.i64 (Tree.toInt (List.headD (List.tail (Tree.cs y)) (Tree.bool false))), Tree.str (Tree.toStr (List.headD (List.tail (List.tail (Tree.cs y))) (Tree.bool false))),
 Tree.slc (Tree.elems (List.headD (List.tail (List.tail (List.tail (Tree.cs y)))) (Tree.bool false))), Tree.slc (Tree.elems (List.headD (List.tail (List.tail (List.tail
 (List.tail (Tree.cs y))))) (Tree.bool false)))])) h2_0_0 h2_0_1 h2_0_2 else none else none else none else none else none else bif h0_0_0 == 1 then bif decide (h0_0_1 ≥ 0)
 then bif decide (h0_0_1 ≤ 2147483648) then Option.bind (evP (Tab.env tab) n 44 [Tree.agg [Tree.int IntKind.i64 h0_0_0, Tree.int IntKind.i64 h0_0_1, Tree.str h0_0_2,
 Tree.slc h0_0_3, Tree.slc h1], Tree.int IntKind.i64 s1, Tree.ptr (Tree.int IntKind.i64 s2c_0) 0, Tree.ptr (Tree.agg [Tree.int IntKind.i64 s2c_1_0, Tree.int IntKind.i64
 s2c_1_1, Tree.str s2c_1_2, Tree.slc s2c_1_3, Tree.slc s2c_1_4]) 0]) fun y => bif Sh.ok (Sh.agg [Sh.int IntKind.i64, Sh.int IntKind.i64, Sh.str, Sh.slc, Sh.slc]) y then
 some (Tree.agg [Tree.int IntKind.i64 (Tree.toInt (List.headD (Tree.cs y) (Tree.bool false))), Tree.int IntKind.i64 (Tree.toInt (List.headD (List.tail (Tree.cs y))
 (Tree.bool false))), Tree.str (Tree.toStr (List.headD (List.tail (List.tail (Tree.cs y))) (Tree.bool false))), Tree.slc (Tree.elems (List.headD (List.tail (List.tail
 (List.tail (Tree.cs y)))) (Tree.bool false))), Tree.slc (Tree.elems (List.headD (List.tail (List.tail (List.tail (List.tail (Tree.cs y))))) (Tree.bool false)))]) else
 none else some (Tree.agg [Tree.int IntKind.i64 h0_0_0, Tree.int IntKind.i64 h0_0_1, Tree.str h0_0_2, Tree.slc h0_0_3, Tree.slc h1]) else some (Tree.agg [Tree.int
 IntKind.i64 h0_0_0, Tree.int IntKind.i64 h0_0_1, Tree.str h0_0_2, Tree.slc h0_0_3, Tree.slc h1]) else some (Tree.agg [Tree.int IntKind.i64 h0_0_0, Tree.int IntKind.i64
 h0_0_1, Tree.str h0_0_2, Tree.slc h0_0_3, Tree.slc h1]) := by kernel_rfl

theorem e32 (n : Nat) (a00 : Int) (a01 : Int) (a02 : List UInt8) (a03 : List Tree) (a04 : List Tree) (a1 : Int) (a2 : Int) : evQ (Tab.env tab) n 32 [Tree.agg [Tree.int
 IntKind.i64 a00, Tree.int IntKind.i64 a01, Tree.str a02, Tree.slc a03, Tree.slc a04], Tree.int IntKind.i64 a1, Tree.int IntKind.i64 a2] = Option.bind (runFn (Tab.env tab)
 n 53 [AV.t (Tree.agg [Sh.open (Sh.int IntKind.i64) (Tree.int IntKind.i64 a00), Sh.open (Sh.int IntKind.i64) (Tree.int IntKind.i64 a01), Sh.open Sh.str (Tree.str a02),
 Sh.open Sh.slc (Tree.slc a03), Sh.open Sh.slc (Tree.slc a04)]), AV.t (Tree.int IntKind.i64 a1), AV.t (Tree.int IntKind.i64 (imax a2 0))] []) fun y => bif rowForm (Sh.agg
 [Sh.int IntKind.i64, Sh.int IntKind.i64, Sh.str, Sh.slc, Sh.slc]) (Prod.snd y) [Sh.int IntKind.i64, Sh.int IntKind.i64, Sh.str, Sh.slc, Sh.slc] (aggCs (Prod.fst y)) then
 some (Tree.agg [Tree.int IntKind.i64 (Tree.toInt (headT (aggCs (Prod.fst y)))), Tree.int IntKind.i64 (Tree.toInt (headT (List.tail (aggCs (Prod.fst y))))), Tree.str
 (Tree.toStr (headT (List.tail (List.tail (aggCs (Prod.fst y)))))), Tree.slc (Tree.elems (headT (List.tail (List.tail (List.tail (aggCs (Prod.fst y))))))), Tree.slc (rowOf
 (Prod.snd y) (aggCs (Prod.fst y)))]) else bif nilForm [Sh.int IntKind.i64, Sh.int IntKind.i64, Sh.str, Sh.slc, Sh.slc] (aggCs (Prod.fst y)) then some (Tree.agg [Tree.int
 IntKind.i64 (Tree.toInt (headT (aggCs (Prod.fst y)))), Tree.int IntKind.i64 (Tree.toInt (headT (List.tail (aggCs (Prod.fst y))))), Tree.str (Tree.toStr (headT (List.tail
 (List.tail (aggCs (Prod.fst y)))))), Tree.slc (Tree.elems (headT (List.tail (List.tail (List.tail (aggCs (Prod.fst y))))))), Tree.slc []]) else none := by kernel_rfl

theorem e21 (n : Nat) (a00 : Int) (a01 : Int) (a02 : List UInt8) (a03 : List Tree) (a04 : List Tree) : evQ (Tab.env tab) n 21 [Tree.agg [Tree.int IntKind.i64 a00, Tree.int
 IntKind.i64 a01, Tree.str a02, Tree.slc a03, Tree.slc a04]] = Option.bind (evP (Tab.env tab) n 47 [Tree.agg [Tree.int IntKind.i64 a00, Tree.int IntKind.i64 a01, Tree.str
 a02, Tree.slc a03, Tree.slc a04]]) fun y => bif Sh.ok (Sh.tup [Sh.agg [Sh.int IntKind.i64, Sh.int IntKind.i64, Sh.str, Sh.slc, Sh.slc], Sh.bool]) y then bif Tree.toBool
 (List.headD (List.tail (Tree.tupl y)) (Tree.bool false)) then Option.bind (evP (Tab.env tab) n 32 [Tree.agg [Tree.int IntKind.i64 (Tree.toInt (List.headD (Tree.cs
 (List.headD (Tree.tupl y) (Tree.bool false))) (Tree.bool false))), Tree.int IntKind.i64 (Tree.toInt (List.headD (List.tail (Tree.cs (List.headD (Tree.tupl y) (Tree.bool
 false)))) (Tree.bool false))), Tree.str (Tree.toStr (List.headD (List.tail (List.tail (Tree.cs (List.headD (Tree.tupl y) (Tree.bool false))))) (Tree.bool false))),
 Tree.slc (Tree.elems (List.headD (List.tail (List.tail (List.tail (Tree.cs (List.headD (Tree.tupl y) (Tree.bool false)))))) (Tree.bool false))), Tree.slc (Tree.elems
 (List.headD (List.tail (List.tail (List.tail (List.tail (Tree.cs (List.headD (Tree.tupl y) (Tree.bool false))))))) (Tree.bool false)))], Tree.int IntKind.i64 0, Tree.int
 IntKind.i64 0]) fun y => bif Sh.ok (Sh.agg [Sh.int IntKind.i64, Sh.int IntKind.i64, Sh.str, Sh.slc, Sh.slc]) y then some (Tree.tup [Tree.agg [Tree.int IntKind.i64
 (Tree.toInt (List.headD (Tree.cs y) (Tree.bool false))), Tree.int IntKind.i64 (Tree.toInt (List.headD (List.tail (Tree.cs y)) (Tree.bool false))), Tree.str (Tree.toStr
 (List.headD (List.tail (List.tail (Tree.cs y))) (Tree.bool false))), Tree.slc (Tree.elems (List.headD (List.tail (List.tail (List.tail (Tree.cs y)))) (Tree.bool false))),
 Tree.slc (Tree.elems (List.headD (List.tail (List.tail (List.tail (List.tail (Tree.cs y))))) (Tree.bool false)))], Tree.slc [], Tree.bool true]) else none else L21_0 n n
 0 a00 a01 a02 a03 a04 0 0 [] else none := by kernel_rfl

theorem l21_0 (n q : Nat) (s7 : Int) (h0_0_0 : Int) (h0_0_1 : Int) (h0_0_2 : List UInt8) (h0_0_3 : List Tree) (h0_0_4 : List Tree) (h1_0_0 : Int) (h1_0_1 : Int) (h1_0_2 :
 List UInt8) : L21_0 n (Nat.succ q) s7 h0_0_0 h0_0_1 h0_0_2 h0_0_3 h0_0_4 h1_0_0 h1_0_1 h1_0_2 = bif decide (s7 < (↑(List.length h0_0_4) : Int)) then bif decide (0 ≤ s7)
 then Option.bind (nth h0_0_4 (Int.toNat s7)) fun y => bif Sh.ok (Sh.agg [Sh.int IntKind.i64, Sh.int IntKind.i64, Sh.str, Sh.slc, Sh.slc]) y then Option.bind (evP (Tab.env
 tab) n 21 [Tree.agg [Tree.int IntKind.i64 (Tree.toInt (List.headD (Tree.cs y) (Tree.bool false))), Tree.int IntKind.i64 (Tree.toInt (List.headD (List.tail (Tree.cs y))
 (Tree.bool false))), Tree.str (Tree.toStr (List.headD (List.tail (List.tail (Tree.cs y))) (Tree.bool false))), Tree.slc (Tree.elems (List.headD (List.tail (List.tail
 (List.tail (Tree.cs y)))) (Tree.bool false))), Tree.slc (Tree.elems (List.headD (List.tail (List.tail (List.tail (List.tail (Tree.cs y))))) (Tree.bool false)))]]) fun y
 => bif Sh.ok (Sh.tup [Sh.agg [Sh.int IntKind.i64, Sh.int IntKind.i64, Sh.str, Sh.slc, Sh.slc], Sh.slc, Sh.bool]) y then bif Tree.toBool (List.headD (List.tail (List.tail
 (Tree.tupl y))) (Tree.bool false)) then Option.bind (runFn (Tab.env tab) n 32 [AV.t (Tree.agg [Sh.open (Sh.int IntKind.i64) (Tree.int IntKind.i64 h0_0_0), Sh.open (Sh.int
 IntKind.i64) (Tree.int IntKind.i64 h0_0_1), Sh.open Sh.str (Tree.str h0_0_2), Sh.open Sh.slc (Tree.slc h0_0_3), Sh.open Sh.slc (Tree.slc h0_0_4)]), AV.t (Tree.int
 IntKind.i64 0), AV.t (Tree.int IntKind.i64 0)] []) fun y_1 => bif rowForm (Sh.agg [Sh.int IntKind.i64, Sh.int IntKind.i64, Sh.str, Sh.slc, Sh.slc]) (Prod.snd y_1) [Sh.int
 IntKind.i64, Sh.int IntKind.i64, Sh.str, Sh.slc, Sh.slc] (aggCs (Prod.fst y_1)) then bif decide (0 ≤ s7) && (decide (s7 < (↑(List.length (rowOf (Prod.snd y_1) (aggCs
 (Prod.fst y_1)))) : Int)) && Nat.beq (List.length [Sh.int IntKind.i64, Sh.int IntKind.i64, Sh.str, Sh.slc, Sh.slc]) (List.length [Sh.int IntKind.i64, Sh.int IntKind.i64,
 Sh.str, Sh.slc, Sh.slc])) then Option.bind (nth (rowOf (Prod.snd y_1) (aggCs (Prod.fst y_1))) (Int.toNat s7)) fun y_2 => bif Sh.ok (Sh.agg [Sh.int IntKind.i64, Sh.int
 IntKind.i64, Sh.str, Sh.slc, Sh.slc]) y_2 then bif firstOk (Sh.int IntKind.i64) (Tree.elems (List.headD (List.tail (Tree.tupl y)) (Tree.bool false))) then bif Nat.beq 1 1
 && Nat.ble ((List.length [Tree.int IntKind.i64 s7] + List.length (Tree.elems (List.headD (List.tail (Tree.tupl y)) (Tree.bool false)))) * 8) 140737488355328 then some
 (Tree.tup [Tree.agg [Tree.int IntKind.i64 (Tree.toInt (headT (aggCs (Prod.fst y_1)))), Tree.int IntKind.i64 (Tree.toInt (headT (List.tail (aggCs (Prod.fst y_1))))),
 Tree.str (Tree.toStr (headT (List.tail (List.tail (aggCs (Prod.fst y_1)))))), Tree.slc (Tree.elems (headT (List.tail (List.tail (List.tail (aggCs (Prod.fst y_1))))))),
 Tree.slc (setN (rowOf (Prod.snd y_1) (aggCs (Prod.fst y_1))) (Int.toNat s7) (Tree.agg [Tree.int IntKind.i64 (Tree.toInt (List.headD (Tree.cs (List.headD (Tree.tupl y)
 (Tree.bool false))) (Tree.bool false))), Tree.int IntKind.i64 (Tree.toInt (List.headD (List.tail (Tree.cs (List.headD (Tree.tupl y) (Tree.bool false)))) (Tree.bool
 false))), Tree.str (Tree.toStr (List.headD (List.tail (List.tail (Tree.cs (List.headD (Tree.tupl y) (Tree.bool false))))) (Tree.bool false))), Tree.slc (Tree.elems
 (List.headD (List.tail (List.tail (List.tail (Tree.cs (List.headD (Tree.tupl y) (Tree.bool false)))))) (Tree.bool false))), Tree.slc (Tree.elems (List.headD (List.tail
 (List.tail (List.tail (List.tail (Tree.cs (List.headD (Tree.tupl y) (Tree.bool false))))))) (Tree.bool false)))]))], Tree.slc (Tree.int IntKind.i64 s7 :: Tree.elems
 (List.headD (List.tail (Tree.tupl y)) (Tree.bool false))), Tree.bool true]) else none else none else none else none else bif nilForm [Sh.int IntKind.i64, Sh.int
 IntKind.i64, Sh.str, Sh.slc, Sh.slc] (aggCs (Prod.fst y_1)) then none else none else L21_0 n q (IntKind.wrap IntKind.i64 (s7 + 1)) h0_0_0 h0_0_1 h0_0_2 h0_0_3 h0_0_4
 h1_0_0 h1_0_1 h1_0_2 else none else none else none else some (Tree.tup [Tree.agg [Tree.int IntKind.i64 0, Tree.int IntKind.i64 0, Tree.str [], Tree.slc [], Tree.slc []],
 Tree.slc [], Tree.bool false]) := by kernel_rfl


end Go.Proofs.Aw.Sa
