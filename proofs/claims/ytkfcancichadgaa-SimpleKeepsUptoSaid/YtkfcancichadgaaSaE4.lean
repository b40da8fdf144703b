/-
  EQUATIONS of the reckoned code: printed by program.
-/
import Derived.Test.YtkfcancichadgaaSaTab
import Derived.Test.YtkfcancichadgaaAw4
set_option linter.unusedSimpArgs false
set_option linter.unusedVariables false
set_option maxRecDepth 100000
namespace Go.Proofs.Aw.Sa
open Go.Proofs

def L43_0x (n q : Nat) (s1 : Int) (s2c_0 : Int) (s2c_1 : Int) (s7 : Int) (s24 : Int) (s25 : Int) (h0_0_0 : Int) (h0_0_1 : Int) (h0_0_2 : List UInt8) (h0_0_3 : List Tree) (h1 : List Tree) (h2_0_0 : Int) (h2_0_1 : Int) (h2_0_2 : List UInt8) : Option Tree :=
  evL (Tab.env tab) n 43 [1, 1, 1, 1, 1, 0, 1, 0] [q] { ts := [AV.any, AV.t (Tree.int IntKind.i64 s1), AV.t (Tree.fn 52 [] [Tree.ptr (Tree.int IntKind.i64 s2c_0) 0, Tree.ptr (Tree.int IntKind.i64 s2c_1) 0]), AV.href 0 0 0, AV.any, AV.any, AV.href 2 0 0, AV.t (Tree.int IntKind.i64 s7), AV.any, AV.any, AV.any, AV.any, AV.any, AV.any, AV.any, AV.any, AV.any, AV.any, AV.any, AV.any, AV.any, AV.any, AV.any, AV.any, AV.t (Tree.int IntKind.i64 s24), AV.t (Tree.int IntKind.i64 s25), AV.any, AV.any, AV.any, AV.any, AV.any, AV.any, AV.any, AV.any, AV.any, AV.any, AV.any, AV.any, AV.any, AV.any, AV.any, AV.any, AV.any, AV.any, AV.any, AV.any, AV.any, AV.any, AV.any, AV.any, AV.any, AV.any, AV.any, AV.any, AV.any, AV.any, AV.any, AV.any, AV.any], H := [HObj.mix (Sh.agg [Sh.int IntKind.i64, Sh.int IntKind.i64, Sh.str, Sh.slc, Sh.slc]) [AV.agg [AV.t (Tree.int IntKind.i64 h0_0_0), AV.t (Tree.int IntKind.i64 h0_0_1), AV.t (Tree.str h0_0_2), AV.t (Tree.slc h0_0_3), AV.hsl 1 none]], HObj.tre (Sh.agg [Sh.int IntKind.i64, Sh.int IntKind.i64, Sh.str, Sh.slc, Sh.slc]) h1, HObj.mix (Sh.agg [Sh.int IntKind.i64, Sh.int IntKind.i64, Sh.str, Sh.slc, Sh.slc]) [AV.agg [AV.t (Tree.int IntKind.i64 h2_0_0), AV.t (Tree.int IntKind.i64 h2_0_1), AV.t (Tree.str h2_0_2), AV.nilS, AV.nilS]]] }

theorem e43x (n : Nat) (a00 : Int) (a01 : Int) (a02 : List UInt8) (a03 : List Tree) (a04 : List Tree) (a1 : Int) (fr : Int) (by_ : Int) : evQ (Tab.env tab) n 43 [Tree.agg
 [Tree.int IntKind.i64 a00, Tree.int IntKind.i64 a01, Tree.str a02, Tree.slc a03, Tree.slc a04], Tree.int IntKind.i64 a1, Tree.fn 52 [] [Tree.ptr (Tree.int IntKind.i64 fr)
 0, Tree.ptr (Tree.int IntKind.i64 by_) 0]] = Option.bind (evP (Tab.env tab) n 41 [Tree.agg [Tree.str a02, Tree.slc a03]]) fun y => bif Sh.ok (Sh.agg [Sh.str, Sh.slc]) y
 then bif firstOk (Sh.agg [Sh.int IntKind.i64, Sh.int IntKind.i64, Sh.str, Sh.slc, Sh.slc]) a04 then bif Nat.ble (List.length a04 * 80) 140737488355328 then Option.bind
 (evP (Tab.env tab) n 64 [Tree.agg [Tree.int IntKind.i64 a00, Tree.int IntKind.i64 a01, Tree.str (Tree.toStr (List.headD (Tree.cs y) (Tree.bool false))), Tree.slc
 (Tree.elems (List.headD (List.tail (Tree.cs y)) (Tree.bool false))), Tree.slc a04], Tree.int IntKind.i64 2]) fun y_1 => bif Sh.ok Sh.bool y_1 then bif Tree.toBool y_1
 then L43_0x n n a1 fr by_ (IntKind.wrap IntKind.i64 (a1 + 1)) (↑(List.length a04) : Int) 0 a00 a01 (Tree.toStr (List.headD (Tree.cs y) (Tree.bool false))) (Tree.elems
 (List.headD (List.tail (Tree.cs y)) (Tree.bool false))) a04 0 0 [] else L43_0x n n a1 fr by_ a1 (↑(List.length a04) : Int) 0 a00 a01 (Tree.toStr (List.headD (Tree.cs y)
 (Tree.bool false))) (Tree.elems (List.headD (List.tail (Tree.cs y)) (Tree.bool false))) a04 0 0 [] else none else none else none else none := by kernel_rfl

theorem l43_0x (n q : Nat) (s1 : Int) (s2c_0 : Int) (s2c_1 : Int) (s7 : Int) (s24 : Int) (s25 : Int) (h0_0_0 : Int) (h0_0_1 : Int) (h0_0_2 : List UInt8) (h0_0_3 : List
 Tree) (h1 : List Tree) (h2_0_0 : Int) (h2_0_1 : Int) (h2_0_2 : List UInt8) : L43_0x n (Nat.succ q) s1 s2c_0 s2c_1 s7 s24 s25 h0_0_0 h0_0_1 h0_0_2 h0_0_3 h1 h2_0_0 h2_0_1
 h2_0_2 = bif decide (s25 < s24) then bif decide (0 ≤ s25) && (decide (s25 < (↑(List.length h1) : Int)) && Nat.beq (List.length [Sh.int IntKind.i64, Sh.int IntKind.i64,
 Sh.str, Sh.slc, Sh.slc]) (List.length [Sh.int IntKind.i64, Sh.int IntKind.i64, Sh.str, Sh.slc, Sh.slc])) then Option.bind (nth h1 (Int.toNat s25)) fun y => bif Sh.ok
 (Sh.agg [Sh.int IntKind.i64, Sh.int IntKind.i64, Sh.str, Sh.slc, Sh.slc]) y then Option.bind (evP (Tab.env tab) n 43 [Tree.agg [Tree.int IntKind.i64 (Tree.toInt
 (List.headD (Tree.cs y) (Tree.bool false))), Tree.int IntKind.i64 (Tree.toInt (List.headD (List.tail (Tree.cs y)) (Tree.bool false))), Tree.str (Tree.toStr (List.headD
 (List.tail (List.tail (Tree.cs y))) (Tree.bool false))), Tree.slc (Tree.elems (List.headD (List.tail (List.tail (List.tail (Tree.cs y)))) (Tree.bool false))), Tree.slc
 (Tree.elems (List.headD (List.tail (List.tail (List.tail (List.tail (Tree.cs y))))) (Tree.bool false)))], Tree.int IntKind.i64 s7, Tree.fn 52 [] [Tree.ptr (Tree.int
 IntKind.i64 s2c_0) 0, Tree.ptr (Tree.int IntKind.i64 s2c_1) 0]]) fun y => bif Sh.ok (Sh.agg [Sh.int IntKind.i64, Sh.int IntKind.i64, Sh.str, Sh.slc, Sh.slc]) y then bif
 decide (0 ≤ s25) && (decide (s25 < (↑(List.length h1) : Int)) && Nat.beq (List.length [Sh.int IntKind.i64, Sh.int IntKind.i64, Sh.str, Sh.slc, Sh.slc]) (List.length
 [Sh.int IntKind.i64, Sh.int IntKind.i64, Sh.str, Sh.slc, Sh.slc])) then Option.bind (nth h1 (Int.toNat s25)) fun y_1 => bif Sh.ok (Sh.agg [Sh.int IntKind.i64, Sh.int
 IntKind.i64, Sh.str, Sh.slc, Sh.slc]) y_1 then L43_0x n q s1 s2c_0 s2c_1 s7 s24 (IntKind.wrap IntKind.i64 (s25 + 1)) h0_0_0 h0_0_1 h0_0_2 h0_0_3 (setN h1 (Int.toNat s25)
 (Tree.agg [Tree.int IntKind.i64 (Tree.toInt (List.headD (Tree.cs y) (Tree.bool false))), Tree.int IntKind.i64 (Tree.toInt (List.headD (List.tail (Tree.cs y)) (Tree.bool
 false))), Tree.str (Tree.toStr (List.headD (List.tail (List.tail (Tree.cs y))) (Tree.bool false))), Tree.slc (Tree.elems (List.headD (List.tail (List.tail (List.tail
 (Tree.cs y)))) (Tree.bool false))), Tree.slc (Tree.elems (List.headD (List.tail (List.tail (List.tail (List.tail (Tree.cs y))))) (Tree.bool false)))])) h2_0_0 h2_0_1
 h2_0_2 else none else none else none else none else none else bif h0_0_0 == 1 then bif decide (h0_0_1 ≥ 0) then bif decide (h0_0_1 ≤ 2147483648) then Option.bind (evP
 (Tab.env tab) n 52 [Tree.agg [Tree.int IntKind.i64 h0_0_0, Tree.int IntKind.i64 h0_0_1, Tree.str h0_0_2, Tree.slc h0_0_3, Tree.slc h1], Tree.int IntKind.i64 s1, Tree.ptr
 (Tree.int IntKind.i64 s2c_0) 0, Tree.ptr (Tree.int IntKind.i64 s2c_1) 0]) fun y => bif Sh.ok (Sh.agg [Sh.int IntKind.i64, Sh.int IntKind.i64, Sh.str, Sh.slc, Sh.slc]) y
 then some (Tree.agg [Tree.int IntKind.i64 (Tree.toInt (List.headD (Tree.cs y) (Tree.bool false))), Tree.int IntKind.i64 (Tree.toInt (List.headD (List.tail (Tree.cs y))
 (Tree.bool false))), Tree.str (Tree.toStr (List.headD (List.tail (List.tail (Tree.cs y))) (Tree.bool false))), Tree.slc (Tree.elems (List.headD (List.tail (List.tail
 (List.tail (Tree.cs y)))) (Tree.bool false))), Tree.slc (Tree.elems (List.headD (List.tail (List.tail (List.tail (List.tail (Tree.cs y))))) (Tree.bool false)))]) else
 none else some (Tree.agg [Tree.int IntKind.i64 h0_0_0, Tree.int IntKind.i64 h0_0_1, Tree.str h0_0_2, Tree.slc h0_0_3, Tree.slc h1]) else some (Tree.agg [Tree.int
 IntKind.i64 h0_0_0, Tree.int IntKind.i64 h0_0_1, Tree.str h0_0_2, Tree.slc h0_0_3, Tree.slc h1]) else some (Tree.agg [Tree.int IntKind.i64 h0_0_0, Tree.int IntKind.i64
 h0_0_1, Tree.str h0_0_2, Tree.slc h0_0_3, Tree.slc h1]) := by kernel_rfl


end Go.Proofs.Aw.Sa
