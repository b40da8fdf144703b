/-
  EQUATIONS of the reckoned code: printed by program.
-/
import Derived.Test.YtkfcancichadgaaSaTab
import Derived.Test.YtkfcancichadgaaAw4
set_option linter.unusedSimpArgs false
set_option linter.unusedVariables false
set_option maxRecDepth 100000
namespace Go.Proofs.Aw.Sa
open Go.Proofs

def M53_0r (n q : Nat) (s1 : Int) (s2 : Int) (s8 : Int) (h0_0_0 : Int) (h0_0_1 : Int) (h0_0_2 : List UInt8) (h0_0_3 : List Tree) (h0_0_4 : List Tree) (h1_0_0 : Int) (h1_0_1 : Int) (h1_0_2 : List UInt8) (h2_0_0 : Int) (h2_0_1 : Int) (h2_0_2 : List UInt8) (h2_0_3 : List Tree) : Option (AV × Heap) :=
  evLR (Tab.env tab) n 53 [1, 1, 1, 0, 1, 0] [q] { ts := [AV.any, AV.t (Tree.int IntKind.i64 s1), AV.t (Tree.int IntKind.i64 s2), AV.href 0 0 0, AV.any, AV.any, AV.href 1 0 0, AV.href 2 0 0, AV.t (Tree.int IntKind.i64 s8), AV.any, AV.any, AV.any, AV.any, AV.any, AV.any, AV.any, AV.any, AV.any, AV.any, AV.any, AV.any, AV.any, AV.any, AV.any, AV.any, AV.any, AV.any, AV.any, AV.any, AV.any, AV.any, AV.any, AV.any, AV.any, AV.any, AV.any, AV.any, AV.any, AV.any, AV.any, AV.any, AV.any, AV.any, AV.any, AV.any, AV.any, AV.any, AV.any, AV.any, AV.any, AV.any, AV.any, AV.any, AV.any, AV.any, AV.any, AV.any, AV.any, AV.any, AV.any, AV.any, AV.any, AV.any, AV.any, AV.any, AV.any, AV.any], H := [HObj.tre (Sh.agg [Sh.int IntKind.i64, Sh.int IntKind.i64, Sh.str, Sh.slc, Sh.slc]) [Tree.agg [Tree.int IntKind.i64 h0_0_0, Tree.int IntKind.i64 h0_0_1, Tree.str h0_0_2, Tree.slc h0_0_3, Tree.slc h0_0_4]], HObj.mix (Sh.agg [Sh.int IntKind.i64, Sh.int IntKind.i64, Sh.str, Sh.slc, Sh.slc]) [AV.agg [AV.t (Tree.int IntKind.i64 h1_0_0), AV.t (Tree.int IntKind.i64 h1_0_1), AV.t (Tree.str h1_0_2), AV.nilS, AV.nilS]], HObj.mix (Sh.agg [Sh.int IntKind.i64, Sh.int IntKind.i64, Sh.str, Sh.slc, Sh.slc]) [AV.agg [AV.t (Tree.int IntKind.i64 h2_0_0), AV.t (Tree.int IntKind.i64 h2_0_1), AV.t (Tree.str h2_0_2), AV.t (Tree.slc h2_0_3), AV.nilS]]] }

def M53_0rb (n q : Nat) (s1 : Int) (s2 : Int) (s8 : Int) (h0_0_0 : Int) (h0_0_1 : Int) (h0_0_2 : List UInt8) (h0_0_3 : List Tree) (h0_0_4 : List Tree) (h1_0_0 : Int) (h1_0_1 : Int) (h1_0_2 : List UInt8) (h2_0_0 : Int) (h2_0_1 : Int) (h2_0_2 : List UInt8) (h2_0_3 : List Tree) (h3 : List Tree) : Option (AV × Heap) :=
  evLR (Tab.env tab) n 53 [1, 1, 1, 0, 1, 0] [q] { ts := [AV.any, AV.t (Tree.int IntKind.i64 s1), AV.t (Tree.int IntKind.i64 s2), AV.href 0 0 0, AV.any, AV.any, AV.href 1 0 0, AV.href 2 0 0, AV.t (Tree.int IntKind.i64 s8), AV.any, AV.any, AV.any, AV.any, AV.any, AV.any, AV.any, AV.any, AV.any, AV.any, AV.any, AV.any, AV.any, AV.any, AV.any, AV.any, AV.any, AV.any, AV.any, AV.any, AV.any, AV.any, AV.any, AV.any, AV.any, AV.any, AV.any, AV.any, AV.any, AV.any, AV.any, AV.any, AV.any, AV.any, AV.any, AV.any, AV.any, AV.any, AV.any, AV.any, AV.any, AV.any, AV.any, AV.any, AV.any, AV.any, AV.any, AV.any, AV.any, AV.any, AV.any, AV.any, AV.any, AV.any, AV.any, AV.any, AV.any, AV.any], H := [HObj.tre (Sh.agg [Sh.int IntKind.i64, Sh.int IntKind.i64, Sh.str, Sh.slc, Sh.slc]) [Tree.agg [Tree.int IntKind.i64 h0_0_0, Tree.int IntKind.i64 h0_0_1, Tree.str h0_0_2, Tree.slc h0_0_3, Tree.slc h0_0_4]], HObj.mix (Sh.agg [Sh.int IntKind.i64, Sh.int IntKind.i64, Sh.str, Sh.slc, Sh.slc]) [AV.agg [AV.t (Tree.int IntKind.i64 h1_0_0), AV.t (Tree.int IntKind.i64 h1_0_1), AV.t (Tree.str h1_0_2), AV.nilS, AV.nilS]], HObj.mix (Sh.agg [Sh.int IntKind.i64, Sh.int IntKind.i64, Sh.str, Sh.slc, Sh.slc]) [AV.agg [AV.t (Tree.int IntKind.i64 h2_0_0), AV.t (Tree.int IntKind.i64 h2_0_1), AV.t (Tree.str h2_0_2), AV.t (Tree.slc h2_0_3), AV.hsl 3 none]], HObj.tre (Sh.agg [Sh.int IntKind.i64, Sh.int IntKind.i64, Sh.str, Sh.slc, Sh.slc]) h3] }

theorem r61r (n : Nat) (a0 : List Tree) : evR (Tab.env tab) n 61 [AV.t (Tree.slc a0)] [] = bif decide (0 ≤ 0) && (decide (0 ≤ (↑(List.length a0) : Int)) && (decide
 ((↑(List.length a0) : Int) = (↑(List.length a0) : Int)) && decide ((↑(List.length a0) : Int) ≤ (↑(List.length a0) : Int)))) then bif firstOk (Sh.agg [Sh.str, Sh.slc])
 (List.drop (Int.toNat 0) (List.take (Int.toNat (↑(List.length a0) : Int)) a0)) then some (AV.clip (List.drop (Int.toNat 0) (List.take (Int.toNat (↑(List.length a0) :
 Int)) a0)), []) else none else none := by kernel_rfl

theorem r53r (n : Nat) (a00 : Int) (a01 : Int) (a02 : List UInt8) (a03 : List Tree) (a04 : List Tree) (a1 : Int) (a2 : Int) : evR (Tab.env tab) n 53 [AV.t (Tree.agg
 [Tree.int IntKind.i64 a00, Tree.int IntKind.i64 a01, Tree.str a02, Tree.slc a03, Tree.slc a04]), AV.t (Tree.int IntKind.i64 a1), AV.t (Tree.int IntKind.i64 a2)] [] = bif
 a00 == 1 then bif decide (a01 ≥ 0) then bif decide (a01 ≥ a2) then bif decide (IntKind.wrap IntKind.i64 (a01 + a1) ≥ a2) then M53_0r n n a1 a2 0 a00 a01 a02 a03 a04 0 0
 [] a00 (IntKind.wrap IntKind.i64 (a01 + a1)) a02 a03 else M53_0r n n a1 a2 0 a00 a01 a02 a03 a04 0 0 [] a00 a01 a02 a03 else M53_0r n n a1 a2 0 a00 a01 a02 a03 a04 0 0 []
 a00 a01 a02 a03 else M53_0r n n a1 a2 0 a00 a01 a02 a03 a04 0 0 [] a00 a01 a02 a03 else M53_0r n n a1 a2 0 a00 a01 a02 a03 a04 0 0 [] a00 a01 a02 a03 := by kernel_rfl

theorem m53_0r (n q : Nat) (s1 : Int) (s2 : Int) (s8 : Int) (h0_0_0 : Int) (h0_0_1 : Int) (h0_0_2 : List UInt8) (h0_0_3 : List Tree) (h0_0_4 : List Tree) (h1_0_0 : Int)
 (h1_0_1 : Int) (h1_0_2 : List UInt8) (h2_0_0 : Int) (h2_0_1 : Int) (h2_0_2 : List UInt8) (h2_0_3 : List Tree) : M53_0r n (Nat.succ q) s1 s2 s8 h0_0_0 h0_0_1 h0_0_2 h0_0_3
 h0_0_4 h1_0_0 h1_0_1 h1_0_2 h2_0_0 h2_0_1 h2_0_2 h2_0_3 = bif decide (s8 < (↑(List.length h0_0_4) : Int)) then bif decide (0 ≤ s8) then Option.bind (nth h0_0_4 (Int.toNat
 s8)) fun y => bif Sh.ok (Sh.agg [Sh.int IntKind.i64, Sh.int IntKind.i64, Sh.str, Sh.slc, Sh.slc]) y then Option.bind (evP (Tab.env tab) n 77 [Tree.agg [Tree.int
 IntKind.i64 h0_0_0, Tree.int IntKind.i64 h0_0_1, Tree.str h0_0_2, Tree.slc h0_0_3, Tree.slc h0_0_4]]) fun y_1 => bif Sh.ok (Sh.int IntKind.i64) y_1 then Option.bind (evP
 (Tab.env tab) n 53 [Tree.agg [Tree.int IntKind.i64 (Tree.toInt (List.headD (Tree.cs y) (Tree.bool false))), Tree.int IntKind.i64 (Tree.toInt (List.headD (List.tail
 (Tree.cs y)) (Tree.bool false))), Tree.str (Tree.toStr (List.headD (List.tail (List.tail (Tree.cs y))) (Tree.bool false))), Tree.slc (Tree.elems (List.headD (List.tail
 (List.tail (List.tail (Tree.cs y)))) (Tree.bool false))), Tree.slc (Tree.elems (List.headD (List.tail (List.tail (List.tail (List.tail (Tree.cs y))))) (Tree.bool
 false)))], Tree.int IntKind.i64 s1, Tree.int IntKind.i64 (IntKind.wrap IntKind.i64 (s2 + Tree.toInt y_1))]) fun y => bif Sh.ok (Sh.agg [Sh.int IntKind.i64, Sh.int
 IntKind.i64, Sh.str, Sh.slc, Sh.slc]) y then M53_0rb n q s1 s2 (IntKind.wrap IntKind.i64 (s8 + 1)) h0_0_0 h0_0_1 h0_0_2 h0_0_3 h0_0_4 h1_0_0 h1_0_1 h1_0_2 h2_0_0 h2_0_1
 h2_0_2 h2_0_3 [Tree.agg [Tree.int IntKind.i64 (Tree.toInt (List.headD (Tree.cs y) (Tree.bool false))), Tree.int IntKind.i64 (Tree.toInt (List.headD (List.tail (Tree.cs
 y)) (Tree.bool false))), Tree.str (Tree.toStr (List.headD (List.tail (List.tail (Tree.cs y))) (Tree.bool false))), Tree.slc (Tree.elems (List.headD (List.tail (List.tail
 (List.tail (Tree.cs y)))) (Tree.bool false))), Tree.slc (Tree.elems (List.headD (List.tail (List.tail (List.tail (List.tail (Tree.cs y))))) (Tree.bool false)))]] else
 none else none else none else none else some (AV.agg [AV.t (Tree.int IntKind.i64 h2_0_0), AV.t (Tree.int IntKind.i64 h2_0_1), AV.t (Tree.str h2_0_2), AV.t (Tree.slc
 h2_0_3), AV.nilS], [HObj.tre (Sh.agg [Sh.int IntKind.i64, Sh.int IntKind.i64, Sh.str, Sh.slc, Sh.slc]) [Tree.agg [Tree.int IntKind.i64 h0_0_0, Tree.int IntKind.i64
 h0_0_1, Tree.str h0_0_2, Tree.slc h0_0_3, Tree.slc h0_0_4]], HObj.mix (Sh.agg [Sh.int IntKind.i64, Sh.int IntKind.i64, Sh.str, Sh.slc, Sh.slc]) [AV.agg [AV.t (Tree.int
 IntKind.i64 h2_0_0), AV.t (Tree.int IntKind.i64 h2_0_1), AV.t (Tree.str h2_0_2), AV.t (Tree.slc h2_0_3), AV.nilS]], HObj.mix (Sh.agg [Sh.int IntKind.i64, Sh.int
 IntKind.i64, Sh.str, Sh.slc, Sh.slc]) [AV.agg [AV.t (Tree.int IntKind.i64 h2_0_0), AV.t (Tree.int IntKind.i64 h2_0_1), AV.t (Tree.str h2_0_2), AV.t (Tree.slc h2_0_3),
 AV.nilS]]]) := by kernel_rfl

theorem m53_0rb (n q : Nat) (s1 : Int) (s2 : Int) (s8 : Int) (h0_0_0 : Int) (h0_0_1 : Int) (h0_0_2 : List UInt8) (h0_0_3 : List Tree) (h0_0_4 : List Tree) (h1_0_0 : Int)
 (h1_0_1 : Int) (h1_0_2 : List UInt8) (h2_0_0 : Int) (h2_0_1 : Int) (h2_0_2 : List UInt8) (h2_0_3 : List Tree) (h3 : List Tree) : M53_0rb n (Nat.succ q) s1 s2 s8 h0_0_0
 h0_0_1 h0_0_2 h0_0_3 h0_0_4 h1_0_0 h1_0_1 h1_0_2 h2_0_0 h2_0_1 h2_0_2 h2_0_3 h3 = bif decide (s8 < (↑(List.length h0_0_4) : Int)) then bif decide (0 ≤ s8) then
 Option.bind (nth h0_0_4 (Int.toNat s8)) fun y => bif Sh.ok (Sh.agg [Sh.int IntKind.i64, Sh.int IntKind.i64, Sh.str, Sh.slc, Sh.slc]) y then Option.bind (evP (Tab.env tab)
 n 77 [Tree.agg [Tree.int IntKind.i64 h0_0_0, Tree.int IntKind.i64 h0_0_1, Tree.str h0_0_2, Tree.slc h0_0_3, Tree.slc h0_0_4]]) fun y_1 => bif Sh.ok (Sh.int IntKind.i64)
 y_1 then Option.bind (evP (Tab.env tab) n 53 [Tree.agg [Tree.int IntKind.i64 (Tree.toInt (List.headD (Tree.cs y) (Tree.bool false))), Tree.int IntKind.i64 (Tree.toInt
 (List.headD (List.tail (Tree.cs y)) (Tree.bool false))), Tree.str (Tree.toStr (List.headD (List.tail (List.tail (Tree.cs y))) (Tree.bool false))), Tree.slc (Tree.elems
 (List.headD (List.tail (List.tail (List.tail (Tree.cs y)))) (Tree.bool false))), Tree.slc (Tree.elems (List.headD (List.tail (List.tail (List.tail (List.tail (Tree.cs
 y))))) (Tree.bool false)))], Tree.int IntKind.i64 s1, Tree.int IntKind.i64 (IntKind.wrap IntKind.i64 (s2 + Tree.toInt y_1))]) fun y => bif Sh.ok (Sh.agg [Sh.int
 IntKind.i64, Sh.int IntKind.i64, Sh.str, Sh.slc, Sh.slc]) y then bif Nat.beq (List.length [Sh.int IntKind.i64, Sh.int IntKind.i64, Sh.str, Sh.slc, Sh.slc]) (List.length
 [Sh.int IntKind.i64, Sh.int IntKind.i64, Sh.str, Sh.slc, Sh.slc]) && Nat.ble ((List.length h3 + List.length [Sh.open (Sh.agg [Sh.int IntKind.i64, Sh.int IntKind.i64,
 Sh.str, Sh.slc, Sh.slc]) y]) * 80) 140737488355328 then M53_0rb n q s1 s2 (IntKind.wrap IntKind.i64 (s8 + 1)) h0_0_0 h0_0_1 h0_0_2 h0_0_3 h0_0_4 h1_0_0 h1_0_1 h1_0_2
 h2_0_0 h2_0_1 h2_0_2 h2_0_3 (h3 ++ [Sh.open (Sh.agg [Sh.int IntKind.i64, Sh.int IntKind.i64, Sh.str, Sh.slc, Sh.slc]) y]) else none else none else none else none else
 none else some (AV.agg [AV.t (Tree.int IntKind.i64 h2_0_0), AV.t (Tree.int IntKind.i64 h2_0_1), AV.t (Tree.str h2_0_2), AV.t (Tree.slc h2_0_3), AV.hsl 3 none], [HObj.tre
 (Sh.agg [Sh.int IntKind.i64, Sh.int IntKind.i64, Sh.str, Sh.slc, Sh.slc]) [Tree.agg [Tree.int IntKind.i64 h0_0_0, Tree.int IntKind.i64 h0_0_1, Tree.str h0_0_2, Tree.slc
 h0_0_3, Tree.slc h0_0_4]], HObj.mix (Sh.agg [Sh.int IntKind.i64, Sh.int IntKind.i64, Sh.str, Sh.slc, Sh.slc]) [AV.agg [AV.t (Tree.int IntKind.i64 h2_0_0), AV.t (Tree.int
 IntKind.i64 h2_0_1), AV.t (Tree.str h2_0_2), AV.t (Tree.slc h2_0_3), AV.hsl 3 none]], HObj.mix (Sh.agg [Sh.int IntKind.i64, Sh.int IntKind.i64, Sh.str, Sh.slc, Sh.slc])
 [AV.agg [AV.t (Tree.int IntKind.i64 h2_0_0), AV.t (Tree.int IntKind.i64 h2_0_1), AV.t (Tree.str h2_0_2), AV.t (Tree.slc h2_0_3), AV.hsl 3 none]], HObj.tre (Sh.agg [Sh.int
 IntKind.i64, Sh.int IntKind.i64, Sh.str, Sh.slc, Sh.slc]) h3]) := by kernel_rfl

theorem r32r (n : Nat) (a00 : Int) (a01 : Int) (a02 : List UInt8) (a03 : List Tree) (a04 : List Tree) (a1 : Int) (a2 : Int) : evR (Tab.env tab) n 32 [AV.t (Tree.agg
 [Tree.int IntKind.i64 a00, Tree.int IntKind.i64 a01, Tree.str a02, Tree.slc a03, Tree.slc a04]), AV.t (Tree.int IntKind.i64 a1), AV.t (Tree.int IntKind.i64 a2)] [] =
 Option.bind (runFn (Tab.env tab) n 53 [AV.t (Tree.agg [Sh.open (Sh.int IntKind.i64) (Tree.int IntKind.i64 a00), Sh.open (Sh.int IntKind.i64) (Tree.int IntKind.i64 a01),
 Sh.open Sh.str (Tree.str a02), Sh.open Sh.slc (Tree.slc a03), Sh.open Sh.slc (Tree.slc a04)]), AV.t (Tree.int IntKind.i64 a1), AV.t (Tree.int IntKind.i64 (imax a2 0))]
 []) fun y => bif rowForm (Sh.agg [Sh.int IntKind.i64, Sh.int IntKind.i64, Sh.str, Sh.slc, Sh.slc]) (Prod.snd y) [Sh.int IntKind.i64, Sh.int IntKind.i64, Sh.str, Sh.slc,
 Sh.slc] (aggCs (Prod.fst y)) then some (AV.agg [AV.t (Tree.int IntKind.i64 (Tree.toInt (headT (aggCs (Prod.fst y))))), AV.t (Tree.int IntKind.i64 (Tree.toInt (headT
 (List.tail (aggCs (Prod.fst y)))))), AV.t (Tree.str (Tree.toStr (headT (List.tail (List.tail (aggCs (Prod.fst y))))))), AV.t (Tree.slc (Tree.elems (headT (List.tail
 (List.tail (List.tail (aggCs (Prod.fst y)))))))), AV.hsl 2 none], [HObj.tre (Sh.agg [Sh.int IntKind.i64, Sh.int IntKind.i64, Sh.str, Sh.slc, Sh.slc]) [Tree.agg [Tree.int
 IntKind.i64 a00, Tree.int IntKind.i64 a01, Tree.str a02, Tree.slc a03, Tree.slc a04]], HObj.mix (Sh.agg [Sh.int IntKind.i64, Sh.int IntKind.i64, Sh.str, Sh.slc, Sh.slc])
 [AV.agg [AV.t (Tree.int IntKind.i64 (Tree.toInt (headT (aggCs (Prod.fst y))))), AV.t (Tree.int IntKind.i64 (Tree.toInt (headT (List.tail (aggCs (Prod.fst y)))))), AV.t
 (Tree.str (Tree.toStr (headT (List.tail (List.tail (aggCs (Prod.fst y))))))), AV.t (Tree.slc (Tree.elems (headT (List.tail (List.tail (List.tail (aggCs (Prod.fst
 y)))))))), AV.hsl 2 none]], HObj.tre (Sh.agg [Sh.int IntKind.i64, Sh.int IntKind.i64, Sh.str, Sh.slc, Sh.slc]) (rowOf (Prod.snd y) (aggCs (Prod.fst y)))]) else bif
 nilForm [Sh.int IntKind.i64, Sh.int IntKind.i64, Sh.str, Sh.slc, Sh.slc] (aggCs (Prod.fst y)) then some (AV.agg [AV.t (Tree.int IntKind.i64 (Tree.toInt (headT (aggCs
 (Prod.fst y))))), AV.t (Tree.int IntKind.i64 (Tree.toInt (headT (List.tail (aggCs (Prod.fst y)))))), AV.t (Tree.str (Tree.toStr (headT (List.tail (List.tail (aggCs
 (Prod.fst y))))))), AV.t (Tree.slc (Tree.elems (headT (List.tail (List.tail (List.tail (aggCs (Prod.fst y)))))))), AV.nilS], [HObj.tre (Sh.agg [Sh.int IntKind.i64, Sh.int
 IntKind.i64, Sh.str, Sh.slc, Sh.slc]) [Tree.agg [Tree.int IntKind.i64 a00, Tree.int IntKind.i64 a01, Tree.str a02, Tree.slc a03, Tree.slc a04]], HObj.mix (Sh.agg [Sh.int
 IntKind.i64, Sh.int IntKind.i64, Sh.str, Sh.slc, Sh.slc]) [AV.agg [AV.t (Tree.int IntKind.i64 (Tree.toInt (headT (aggCs (Prod.fst y))))), AV.t (Tree.int IntKind.i64
 (Tree.toInt (headT (List.tail (aggCs (Prod.fst y)))))), AV.t (Tree.str (Tree.toStr (headT (List.tail (List.tail (aggCs (Prod.fst y))))))), AV.t (Tree.slc (Tree.elems
 (headT (List.tail (List.tail (List.tail (aggCs (Prod.fst y)))))))), AV.nilS]]]) else none := by kernel_rfl


end Go.Proofs.Aw.Sa
