/-
  EQUATIONS of the reckoned code: printed by program.
-/
import Derived.Test.YtkfcancichadgaaSaTab
import Derived.Test.YtkfcancichadgaaAw4
set_option linter.unusedSimpArgs false
set_option linter.unusedVariables false
set_option maxRecDepth 100000
namespace Go.Proofs.Aw.Sa
open Go.Proofs

def L46_0 (n q : Nat) (s20 : List Tree) (s21 : Int) (s22 : Int) (h0_0_0 : Int) (h0_0_1 : Int) (h0_0_2 : List UInt8) (h0_0_3 : List Tree) (h0_0_4 : List Tree) (h1_0_0 : Int) (h1_0_1 : Int) (h1_0_2 : List UInt8) : Option Tree :=
  evL (Tab.env tab) n 46 [1, 1, 0, 1, 0] [q] { ts := [AV.any, AV.href 0 0 0, AV.href 1 0 0, AV.any, AV.any, AV.any, AV.any, AV.any, AV.any, AV.any, AV.any, AV.any, AV.any, AV.any, AV.any, AV.any, AV.any, AV.any, AV.any, AV.any, AV.t (Tree.slc s20), AV.t (Tree.int IntKind.i64 s21), AV.t (Tree.int IntKind.i64 s22), AV.any, AV.any, AV.any, AV.any, AV.any, AV.any, AV.any, AV.any, AV.any, AV.any, AV.any, AV.any, AV.any, AV.any, AV.any, AV.any, AV.any, AV.any, AV.any, AV.any, AV.any, AV.any, AV.any, AV.any, AV.any, AV.any, AV.any], H := [HObj.tre (Sh.agg [Sh.int IntKind.i64, Sh.int IntKind.i64, Sh.str, Sh.slc, Sh.slc]) [Tree.agg [Tree.int IntKind.i64 h0_0_0, Tree.int IntKind.i64 h0_0_1, Tree.str h0_0_2, Tree.slc h0_0_3, Tree.slc h0_0_4]], HObj.mix (Sh.agg [Sh.int IntKind.i64, Sh.int IntKind.i64, Sh.str, Sh.slc, Sh.slc]) [AV.agg [AV.t (Tree.int IntKind.i64 h1_0_0), AV.t (Tree.int IntKind.i64 h1_0_1), AV.t (Tree.str h1_0_2), AV.nilS, AV.nilS]]] }

def L24_0 (n q : Nat) (s1 : Int) (s7 : Int) (h0_0_0 : Int) (h0_0_1 : Int) (h0_0_2 : List UInt8) (h0_0_3 : List Tree) (h0_0_4 : List Tree) (h1_0_0 : Int) (h1_0_1 : Int) (h1_0_2 : List UInt8) : Option Tree :=
  evL (Tab.env tab) n 24 [1, 1, 1, 0] [q] { ts := [AV.any, AV.t (Tree.int IntKind.i64 s1), AV.href 0 0 0, AV.any, AV.href 1 0 0, AV.any, AV.any, AV.t (Tree.int IntKind.i64 s7), AV.any, AV.any, AV.any, AV.any, AV.any, AV.any, AV.any, AV.any, AV.any, AV.any, AV.any, AV.any, AV.any, AV.any, AV.any, AV.any, AV.any, AV.any, AV.any, AV.any, AV.any, AV.any, AV.any, AV.any, AV.any, AV.any, AV.any, AV.any, AV.any, AV.any, AV.any, AV.any, AV.any, AV.any, AV.any], H := [HObj.tre (Sh.agg [Sh.int IntKind.i64, Sh.int IntKind.i64, Sh.str, Sh.slc, Sh.slc]) [Tree.agg [Tree.int IntKind.i64 h0_0_0, Tree.int IntKind.i64 h0_0_1, Tree.str h0_0_2, Tree.slc h0_0_3, Tree.slc h0_0_4]], HObj.mix (Sh.agg [Sh.int IntKind.i64, Sh.int IntKind.i64, Sh.str, Sh.slc, Sh.slc]) [AV.agg [AV.t (Tree.int IntKind.i64 h1_0_0), AV.t (Tree.int IntKind.i64 h1_0_1), AV.t (Tree.str h1_0_2), AV.nilS, AV.nilS]]] }

def L25_0 (n q : Nat) (s1 : Int) (s7 : Int) (h0_0_0 : Int) (h0_0_1 : Int) (h0_0_2 : List UInt8) (h0_0_3 : List Tree) (h0_0_4 : List Tree) (h1_0_0 : Int) (h1_0_1 : Int) (h1_0_2 : List UInt8) : Option Tree :=
  evL (Tab.env tab) n 25 [1, 1, 1, 1, 0] [q] { ts := [AV.any, AV.t (Tree.int IntKind.i64 s1), AV.href 0 0 0, AV.any, AV.href 1 0 0, AV.any, AV.any, AV.t (Tree.int IntKind.i64 s7), AV.any, AV.any, AV.any, AV.any, AV.any, AV.any, AV.any, AV.any, AV.any, AV.any, AV.any, AV.any, AV.any, AV.any, AV.any, AV.any, AV.any, AV.any, AV.any, AV.any, AV.any, AV.any, AV.any, AV.any, AV.any, AV.any, AV.any, AV.any, AV.any, AV.any, AV.any, AV.any, AV.any, AV.any, AV.any, AV.any], H := [HObj.tre (Sh.agg [Sh.int IntKind.i64, Sh.int IntKind.i64, Sh.str, Sh.slc, Sh.slc]) [Tree.agg [Tree.int IntKind.i64 h0_0_0, Tree.int IntKind.i64 h0_0_1, Tree.str h0_0_2, Tree.slc h0_0_3, Tree.slc h0_0_4]], HObj.mix (Sh.agg [Sh.int IntKind.i64, Sh.int IntKind.i64, Sh.str, Sh.slc, Sh.slc]) [AV.agg [AV.t (Tree.int IntKind.i64 h1_0_0), AV.t (Tree.int IntKind.i64 h1_0_1), AV.t (Tree.str h1_0_2), AV.nilS, AV.nilS]]] }

def L49_0 (n q : Nat) (s0 : List Tree) (s5 : Int) : Option Tree :=
  evL (Tab.env tab) n 49 [1, 1, 0, 1, 0] [q] { ts := [AV.t (Tree.slc s0), AV.any, AV.any, AV.any, AV.any, AV.t (Tree.int IntKind.i64 s5), AV.any, AV.any, AV.any, AV.any, AV.any, AV.any, AV.any, AV.any, AV.any, AV.any, AV.any, AV.any, AV.any, AV.any, AV.any, AV.any, AV.any, AV.any, AV.any, AV.any], H := [] }

theorem e67 (n : Nat) (a00 : Int) (a01 : Int) (a02 : List UInt8) (a03 : List Tree) (a04 : List Tree) : evQ (Tab.env tab) n 67 [Tree.agg [Tree.int IntKind.i64 a00, Tree.int
 IntKind.i64 a01, Tree.str a02, Tree.slc a03, Tree.slc a04]] = Option.bind (evP (Tab.env tab) n 73 [Tree.int IntKind.i64 a00]) fun y => bif Sh.ok (Sh.int IntKind.i64) y
 then bif (↑(List.length a04) : Int) != Tree.toInt y then some (Tree.tup [Tree.agg [Tree.int IntKind.i64 0, Tree.int IntKind.i64 0, Tree.str [], Tree.slc [], Tree.slc []],
 Tree.bool false]) else bif a00 == 3 then Option.bind (nth a04 (Int.toNat 0)) fun y => bif Sh.ok (Sh.agg [Sh.int IntKind.i64, Sh.int IntKind.i64, Sh.str, Sh.slc, Sh.slc])
 y then Option.bind (evP (Tab.env tab) n 64 [Tree.agg [Tree.int IntKind.i64 (Tree.toInt (List.headD (Tree.cs y) (Tree.bool false))), Tree.int IntKind.i64 (Tree.toInt
 (List.headD (List.tail (Tree.cs y)) (Tree.bool false))), Tree.str (Tree.toStr (List.headD (List.tail (List.tail (Tree.cs y))) (Tree.bool false))), Tree.slc (Tree.elems
 (List.headD (List.tail (List.tail (List.tail (Tree.cs y)))) (Tree.bool false))), Tree.slc (Tree.elems (List.headD (List.tail (List.tail (List.tail (List.tail (Tree.cs
 y))))) (Tree.bool false)))], Tree.int IntKind.i64 2]) fun y_1 => bif Sh.ok Sh.bool y_1 then bif Tree.toBool y_1 then Option.bind (nth (Tree.elems (List.headD (List.tail
 (List.tail (List.tail (List.tail (Tree.cs y))))) (Tree.bool false))) (Int.toNat 0)) fun y => bif Sh.ok (Sh.agg [Sh.int IntKind.i64, Sh.int IntKind.i64, Sh.str, Sh.slc,
 Sh.slc]) y then Option.bind (nth a04 (Int.toNat 1)) fun y_2 => bif Sh.ok (Sh.agg [Sh.int IntKind.i64, Sh.int IntKind.i64, Sh.str, Sh.slc, Sh.slc]) y_2 then Option.bind
 (evP (Tab.env tab) n 17 [Tree.agg [Tree.int IntKind.i64 (Tree.toInt (List.headD (Tree.cs y) (Tree.bool false))), Tree.int IntKind.i64 (Tree.toInt (List.headD (List.tail
 (Tree.cs y)) (Tree.bool false))), Tree.str (Tree.toStr (List.headD (List.tail (List.tail (Tree.cs y))) (Tree.bool false))), Tree.slc (Tree.elems (List.headD (List.tail
 (List.tail (List.tail (Tree.cs y)))) (Tree.bool false))), Tree.slc (Tree.elems (List.headD (List.tail (List.tail (List.tail (List.tail (Tree.cs y))))) (Tree.bool
 false)))], Tree.int IntKind.i64 0, Tree.agg [Tree.int IntKind.i64 (Tree.toInt (List.headD (Tree.cs y_2) (Tree.bool false))), Tree.int IntKind.i64 (Tree.toInt (List.headD
 (List.tail (Tree.cs y_2)) (Tree.bool false))), Tree.str (Tree.toStr (List.headD (List.tail (List.tail (Tree.cs y_2))) (Tree.bool false))), Tree.slc (Tree.elems
 (List.headD (List.tail (List.tail (List.tail (Tree.cs y_2)))) (Tree.bool false))), Tree.slc (Tree.elems (List.headD (List.tail (List.tail (List.tail (List.tail (Tree.cs
 y_2))))) (Tree.bool false)))]]) fun y => bif Sh.ok (Sh.agg [Sh.int IntKind.i64, Sh.int IntKind.i64, Sh.str, Sh.slc, Sh.slc]) y then some (Tree.tup [Tree.agg [Tree.int
 IntKind.i64 (Tree.toInt (List.headD (Tree.cs y) (Tree.bool false))), Tree.int IntKind.i64 (Tree.toInt (List.headD (List.tail (Tree.cs y)) (Tree.bool false))), Tree.str
 (Tree.toStr (List.headD (List.tail (List.tail (Tree.cs y))) (Tree.bool false))), Tree.slc (Tree.elems (List.headD (List.tail (List.tail (List.tail (Tree.cs y))))
 (Tree.bool false))), Tree.slc (Tree.elems (List.headD (List.tail (List.tail (List.tail (List.tail (Tree.cs y))))) (Tree.bool false)))], Tree.bool true]) else none else
 none else none else some (Tree.tup [Tree.agg [Tree.int IntKind.i64 0, Tree.int IntKind.i64 0, Tree.str [], Tree.slc [], Tree.slc []], Tree.bool false]) else none else
 none else bif a00 == 5 then Option.bind (nth a04 (Int.toNat 0)) fun y => bif Sh.ok (Sh.agg [Sh.int IntKind.i64, Sh.int IntKind.i64, Sh.str, Sh.slc, Sh.slc]) y then
 Option.bind (evP (Tab.env tab) n 64 [Tree.agg [Tree.int IntKind.i64 (Tree.toInt (List.headD (Tree.cs y) (Tree.bool false))), Tree.int IntKind.i64 (Tree.toInt (List.headD
 (List.tail (Tree.cs y)) (Tree.bool false))), Tree.str (Tree.toStr (List.headD (List.tail (List.tail (Tree.cs y))) (Tree.bool false))), Tree.slc (Tree.elems (List.headD
 (List.tail (List.tail (List.tail (Tree.cs y)))) (Tree.bool false))), Tree.slc (Tree.elems (List.headD (List.tail (List.tail (List.tail (List.tail (Tree.cs y)))))
 (Tree.bool false)))], Tree.int IntKind.i64 4]) fun y_1 => bif Sh.ok Sh.bool y_1 then bif Tree.toBool y_1 then bif decide (Tree.toInt (List.headD (List.tail (Tree.cs y))
 (Tree.bool false)) ≥ 0) then bif decide (Tree.toInt (List.headD (List.tail (Tree.cs y)) (Tree.bool false)) ≤ 1099511627776) then some (Tree.tup [Tree.agg [Tree.int
 IntKind.i64 4, Tree.int IntKind.i64 (IntKind.wrap IntKind.i64 (Tree.toInt (List.headD (List.tail (Tree.cs y)) (Tree.bool false)) + 1)), Tree.str [], Tree.slc [], Tree.slc
 []], Tree.bool true]) else some (Tree.tup [Tree.agg [Tree.int IntKind.i64 0, Tree.int IntKind.i64 0, Tree.str [], Tree.slc [], Tree.slc []], Tree.bool false]) else some
 (Tree.tup [Tree.agg [Tree.int IntKind.i64 0, Tree.int IntKind.i64 0, Tree.str [], Tree.slc [], Tree.slc []], Tree.bool false]) else some (Tree.tup [Tree.agg [Tree.int
 IntKind.i64 0, Tree.int IntKind.i64 0, Tree.str [], Tree.slc [], Tree.slc []], Tree.bool false]) else none else none else bif a00 == 6 then Option.bind (nth a04
 (Int.toNat 0)) fun y => bif Sh.ok (Sh.agg [Sh.int IntKind.i64, Sh.int IntKind.i64, Sh.str, Sh.slc, Sh.slc]) y then Option.bind (nth a04 (Int.toNat 1)) fun y_1 => bif
 Sh.ok (Sh.agg [Sh.int IntKind.i64, Sh.int IntKind.i64, Sh.str, Sh.slc, Sh.slc]) y_1 then Option.bind (nth a04 (Int.toNat 2)) fun y_2 => bif Sh.ok (Sh.agg [Sh.int
 IntKind.i64, Sh.int IntKind.i64, Sh.str, Sh.slc, Sh.slc]) y_2 then Option.bind (evP (Tab.env tab) n 64 [Tree.agg [Tree.int IntKind.i64 (Tree.toInt (List.headD (Tree.cs y)
 (Tree.bool false))), Tree.int IntKind.i64 (Tree.toInt (List.headD (List.tail (Tree.cs y)) (Tree.bool false))), Tree.str (Tree.toStr (List.headD (List.tail (List.tail
 (Tree.cs y))) (Tree.bool false))), Tree.slc (Tree.elems (List.headD (List.tail (List.tail (List.tail (Tree.cs y)))) (Tree.bool false))), Tree.slc (Tree.elems (List.headD
 (List.tail (List.tail (List.tail (List.tail (Tree.cs y))))) (Tree.bool false)))], Tree.int IntKind.i64 4]) fun y_3 => bif Sh.ok Sh.bool y_3 then bif !Tree.toBool y_3 then
 some (Tree.tup [Tree.agg [Tree.int IntKind.i64 0, Tree.int IntKind.i64 0, Tree.str [], Tree.slc [], Tree.slc []], Tree.bool false]) else bif decide (Tree.toInt
 (List.headD (List.tail (Tree.cs y)) (Tree.bool false)) ≤ 0) then some (Tree.tup [Tree.agg [Tree.int IntKind.i64 (Tree.toInt (List.headD (Tree.cs y_2) (Tree.bool false))),
 Tree.int IntKind.i64 (Tree.toInt (List.headD (List.tail (Tree.cs y_2)) (Tree.bool false))), Tree.str (Tree.toStr (List.headD (List.tail (List.tail (Tree.cs y_2)))
 (Tree.bool false))), Tree.slc (Tree.elems (List.headD (List.tail (List.tail (List.tail (Tree.cs y_2)))) (Tree.bool false))), Tree.slc (Tree.elems (List.headD (List.tail
 (List.tail (List.tail (List.tail (Tree.cs y_2))))) (Tree.bool false)))], Tree.bool true]) else some (Tree.tup [Tree.agg [Tree.int IntKind.i64 3, Tree.int IntKind.i64 0,
 Tree.str [], Tree.slc [], Tree.slc [Tree.agg [Tree.int IntKind.i64 (Tree.toInt (List.headD (Tree.cs y_1) (Tree.bool false))), Tree.int IntKind.i64 (Tree.toInt (List.headD
 (List.tail (Tree.cs y_1)) (Tree.bool false))), Tree.str (Tree.toStr (List.headD (List.tail (List.tail (Tree.cs y_1))) (Tree.bool false))), Tree.slc (Tree.elems
 (List.headD (List.tail (List.tail (List.tail (Tree.cs y_1)))) (Tree.bool false))), Tree.slc (Tree.elems (List.headD (List.tail (List.tail (List.tail (List.tail (Tree.cs
 y_1))))) (Tree.bool false)))], Tree.agg [Tree.int IntKind.i64 6, Tree.int IntKind.i64 0, Tree.str [], Tree.slc [], Tree.slc [Tree.agg [Tree.int IntKind.i64 4, Tree.int
 IntKind.i64 (IntKind.wrap IntKind.i64 (Tree.toInt (List.headD (List.tail (Tree.cs y)) (Tree.bool false)) - 1)), Tree.str [], Tree.slc [], Tree.slc []], Tree.agg [Tree.int
 IntKind.i64 (Tree.toInt (List.headD (Tree.cs y_1) (Tree.bool false))), Tree.int IntKind.i64 (Tree.toInt (List.headD (List.tail (Tree.cs y_1)) (Tree.bool false))),
 Tree.str (Tree.toStr (List.headD (List.tail (List.tail (Tree.cs y_1))) (Tree.bool false))), Tree.slc (Tree.elems (List.headD (List.tail (List.tail (List.tail (Tree.cs
 y_1)))) (Tree.bool false))), Tree.slc (Tree.elems (List.headD (List.tail (List.tail (List.tail (List.tail (Tree.cs y_1))))) (Tree.bool false)))], Tree.agg [Tree.int
 IntKind.i64 (Tree.toInt (List.headD (Tree.cs y_2) (Tree.bool false))), Tree.int IntKind.i64 (Tree.toInt (List.headD (List.tail (Tree.cs y_2)) (Tree.bool false))),
 Tree.str (Tree.toStr (List.headD (List.tail (List.tail (Tree.cs y_2))) (Tree.bool false))), Tree.slc (Tree.elems (List.headD (List.tail (List.tail (List.tail (Tree.cs
 y_2)))) (Tree.bool false))), Tree.slc (Tree.elems (List.headD (List.tail (List.tail (List.tail (List.tail (Tree.cs y_2))))) (Tree.bool false)))]]]]], Tree.bool true])
 else none else none else none else none else bif a00 == 8 then Option.bind (nth a04 (Int.toNat 0)) fun y => bif Sh.ok (Sh.agg [Sh.int IntKind.i64, Sh.int IntKind.i64,
 Sh.str, Sh.slc, Sh.slc]) y then Option.bind (evP (Tab.env tab) n 64 [Tree.agg [Tree.int IntKind.i64 (Tree.toInt (List.headD (Tree.cs y) (Tree.bool false))), Tree.int
 IntKind.i64 (Tree.toInt (List.headD (List.tail (Tree.cs y)) (Tree.bool false))), Tree.str (Tree.toStr (List.headD (List.tail (List.tail (Tree.cs y))) (Tree.bool false))),
 Tree.slc (Tree.elems (List.headD (List.tail (List.tail (List.tail (Tree.cs y)))) (Tree.bool false))), Tree.slc (Tree.elems (List.headD (List.tail (List.tail (List.tail
 (List.tail (Tree.cs y))))) (Tree.bool false)))], Tree.int IntKind.i64 7]) fun y_1 => bif Sh.ok Sh.bool y_1 then bif Tree.toBool y_1 then bif decide (0 ≤ IntKind.wrap
 IntKind.i64 (a00 - 8)) then Option.bind (nth (Tree.elems (List.headD (List.tail (List.tail (List.tail (List.tail (Tree.cs y))))) (Tree.bool false))) (Int.toNat
 (IntKind.wrap IntKind.i64 (a00 - 8)))) fun y => bif Sh.ok (Sh.agg [Sh.int IntKind.i64, Sh.int IntKind.i64, Sh.str, Sh.slc, Sh.slc]) y then some (Tree.tup [Tree.agg
 [Tree.int IntKind.i64 (Tree.toInt (List.headD (Tree.cs y) (Tree.bool false))), Tree.int IntKind.i64 (Tree.toInt (List.headD (List.tail (Tree.cs y)) (Tree.bool false))),
 Tree.str (Tree.toStr (List.headD (List.tail (List.tail (Tree.cs y))) (Tree.bool false))), Tree.slc (Tree.elems (List.headD (List.tail (List.tail (List.tail (Tree.cs y))))
 (Tree.bool false))), Tree.slc (Tree.elems (List.headD (List.tail (List.tail (List.tail (List.tail (Tree.cs y))))) (Tree.bool false)))], Tree.bool true]) else none else
 none else some (Tree.tup [Tree.agg [Tree.int IntKind.i64 0, Tree.int IntKind.i64 0, Tree.str [], Tree.slc [], Tree.slc []], Tree.bool false]) else none else none else bif
 a00 == 9 then Option.bind (nth a04 (Int.toNat 0)) fun y => bif Sh.ok (Sh.agg [Sh.int IntKind.i64, Sh.int IntKind.i64, Sh.str, Sh.slc, Sh.slc]) y then Option.bind (evP
 (Tab.env tab) n 64 [Tree.agg [Tree.int IntKind.i64 (Tree.toInt (List.headD (Tree.cs y) (Tree.bool false))), Tree.int IntKind.i64 (Tree.toInt (List.headD (List.tail
 (Tree.cs y)) (Tree.bool false))), Tree.str (Tree.toStr (List.headD (List.tail (List.tail (Tree.cs y))) (Tree.bool false))), Tree.slc (Tree.elems (List.headD (List.tail
 (List.tail (List.tail (Tree.cs y)))) (Tree.bool false))), Tree.slc (Tree.elems (List.headD (List.tail (List.tail (List.tail (List.tail (Tree.cs y))))) (Tree.bool
 false)))], Tree.int IntKind.i64 7]) fun y_1 => bif Sh.ok Sh.bool y_1 then bif Tree.toBool y_1 then bif decide (0 ≤ IntKind.wrap IntKind.i64 (a00 - 8)) then Option.bind
 (nth (Tree.elems (List.headD (List.tail (List.tail (List.tail (List.tail (Tree.cs y))))) (Tree.bool false))) (Int.toNat (IntKind.wrap IntKind.i64 (a00 - 8)))) fun y =>
 bif Sh.ok (Sh.agg [Sh.int IntKind.i64, Sh.int IntKind.i64, Sh.str, Sh.slc, Sh.slc]) y then some (Tree.tup [Tree.agg [Tree.int IntKind.i64 (Tree.toInt (List.headD (Tree.cs
 y) (Tree.bool false))), Tree.int IntKind.i64 (Tree.toInt (List.headD (List.tail (Tree.cs y)) (Tree.bool false))), Tree.str (Tree.toStr (List.headD (List.tail (List.tail
 (Tree.cs y))) (Tree.bool false))), Tree.slc (Tree.elems (List.headD (List.tail (List.tail (List.tail (Tree.cs y)))) (Tree.bool false))), Tree.slc (Tree.elems (List.headD
 (List.tail (List.tail (List.tail (List.tail (Tree.cs y))))) (Tree.bool false)))], Tree.bool true]) else none else none else some (Tree.tup [Tree.agg [Tree.int IntKind.i64
 0, Tree.int IntKind.i64 0, Tree.str [], Tree.slc [], Tree.slc []], Tree.bool false]) else none else none else some (Tree.tup [Tree.agg [Tree.int IntKind.i64 0, Tree.int
 IntKind.i64 0, Tree.str [], Tree.slc [], Tree.slc []], Tree.bool false]) else none := by kernel_rfl

theorem e46 (n : Nat) (a00 : Int) (a01 : Int) (a02 : List UInt8) (a03 : List Tree) (a04 : List Tree) : evQ (Tab.env tab) n 46 [Tree.agg [Tree.int IntKind.i64 a00, Tree.int
 IntKind.i64 a01, Tree.str a02, Tree.slc a03, Tree.slc a04]] = Option.bind (evP (Tab.env tab) n 67 [Tree.agg [Tree.int IntKind.i64 a00, Tree.int IntKind.i64 a01, Tree.str
 a02, Tree.slc a03, Tree.slc a04]]) fun y => bif Sh.ok (Sh.tup [Sh.agg [Sh.int IntKind.i64, Sh.int IntKind.i64, Sh.str, Sh.slc, Sh.slc], Sh.bool]) y then bif Tree.toBool
 (List.headD (List.tail (Tree.tupl y)) (Tree.bool false)) then some (Tree.tup [Tree.agg [Tree.int IntKind.i64 (Tree.toInt (List.headD (Tree.cs (List.headD (Tree.tupl y)
 (Tree.bool false))) (Tree.bool false))), Tree.int IntKind.i64 (Tree.toInt (List.headD (List.tail (Tree.cs (List.headD (Tree.tupl y) (Tree.bool false)))) (Tree.bool
 false))), Tree.str (Tree.toStr (List.headD (List.tail (List.tail (Tree.cs (List.headD (Tree.tupl y) (Tree.bool false))))) (Tree.bool false))), Tree.slc (Tree.elems
 (List.headD (List.tail (List.tail (List.tail (Tree.cs (List.headD (Tree.tupl y) (Tree.bool false)))))) (Tree.bool false))), Tree.slc (Tree.elems (List.headD (List.tail
 (List.tail (List.tail (List.tail (Tree.cs (List.headD (Tree.tupl y) (Tree.bool false))))))) (Tree.bool false)))], Tree.slc [], Tree.bool true]) else L46_0 n n a04
 (↑(List.length a04) : Int) 0 a00 a01 a02 a03 a04 0 0 [] else none := by kernel_rfl

theorem l46_0 (n q : Nat) (s20 : List Tree) (s21 : Int) (s22 : Int) (h0_0_0 : Int) (h0_0_1 : Int) (h0_0_2 : List UInt8) (h0_0_3 : List Tree) (h0_0_4 : List Tree) (h1_0_0 :
 Int) (h1_0_1 : Int) (h1_0_2 : List UInt8) : L46_0 n (Nat.succ q) s20 s21 s22 h0_0_0 h0_0_1 h0_0_2 h0_0_3 h0_0_4 h1_0_0 h1_0_1 h1_0_2 = bif decide (s22 < s21) then bif
 decide (0 ≤ s22) then Option.bind (nth s20 (Int.toNat s22)) fun y => bif Sh.ok (Sh.agg [Sh.int IntKind.i64, Sh.int IntKind.i64, Sh.str, Sh.slc, Sh.slc]) y then
 Option.bind (evP (Tab.env tab) n 46 [Tree.agg [Tree.int IntKind.i64 (Tree.toInt (List.headD (Tree.cs y) (Tree.bool false))), Tree.int IntKind.i64 (Tree.toInt (List.headD
 (List.tail (Tree.cs y)) (Tree.bool false))), Tree.str (Tree.toStr (List.headD (List.tail (List.tail (Tree.cs y))) (Tree.bool false))), Tree.slc (Tree.elems (List.headD
 (List.tail (List.tail (List.tail (Tree.cs y)))) (Tree.bool false))), Tree.slc (Tree.elems (List.headD (List.tail (List.tail (List.tail (List.tail (Tree.cs y)))))
 (Tree.bool false)))]]) fun y => bif Sh.ok (Sh.tup [Sh.agg [Sh.int IntKind.i64, Sh.int IntKind.i64, Sh.str, Sh.slc, Sh.slc], Sh.slc, Sh.bool]) y then bif Tree.toBool
 (List.headD (List.tail (List.tail (Tree.tupl y))) (Tree.bool false)) then bif firstOk (Sh.agg [Sh.int IntKind.i64, Sh.int IntKind.i64, Sh.str, Sh.slc, Sh.slc]) h0_0_4
 then bif Nat.ble (List.length h0_0_4 * 80) 140737488355328 then bif decide (0 ≤ s22) && (decide (s22 < (↑(List.length h0_0_4) : Int)) && Nat.beq (List.length [Sh.int
 IntKind.i64, Sh.int IntKind.i64, Sh.str, Sh.slc, Sh.slc]) (List.length [Sh.int IntKind.i64, Sh.int IntKind.i64, Sh.str, Sh.slc, Sh.slc])) then Option.bind (nth h0_0_4
 (Int.toNat s22)) fun y_1 => bif Sh.ok (Sh.agg [Sh.int IntKind.i64, Sh.int IntKind.i64, Sh.str, Sh.slc, Sh.slc]) y_1 then bif firstOk (Sh.int IntKind.i64) (Tree.elems
 (List.headD (List.tail (Tree.tupl y)) (Tree.bool false))) then bif Nat.beq 1 1 && Nat.ble ((List.length [Tree.int IntKind.i64 s22] + List.length (Tree.elems (List.headD
 (List.tail (Tree.tupl y)) (Tree.bool false)))) * 8) 140737488355328 then some (Tree.tup [Tree.agg [Tree.int IntKind.i64 h0_0_0, Tree.int IntKind.i64 h0_0_1, Tree.str
 h0_0_2, Tree.slc h0_0_3, Tree.slc (setN h0_0_4 (Int.toNat s22) (Tree.agg [Tree.int IntKind.i64 (Tree.toInt (List.headD (Tree.cs (List.headD (Tree.tupl y) (Tree.bool
 false))) (Tree.bool false))), Tree.int IntKind.i64 (Tree.toInt (List.headD (List.tail (Tree.cs (List.headD (Tree.tupl y) (Tree.bool false)))) (Tree.bool false))),
 Tree.str (Tree.toStr (List.headD (List.tail (List.tail (Tree.cs (List.headD (Tree.tupl y) (Tree.bool false))))) (Tree.bool false))), Tree.slc (Tree.elems (List.headD
 (List.tail (List.tail (List.tail (Tree.cs (List.headD (Tree.tupl y) (Tree.bool false)))))) (Tree.bool false))), Tree.slc (Tree.elems (List.headD (List.tail (List.tail
 (List.tail (List.tail (Tree.cs (List.headD (Tree.tupl y) (Tree.bool false))))))) (Tree.bool false)))]))], Tree.slc (Tree.int IntKind.i64 s22 :: Tree.elems (List.headD
 (List.tail (Tree.tupl y)) (Tree.bool false))), Tree.bool true]) else none else none else none else none else none else none else L46_0 n q s20 s21 (IntKind.wrap
 IntKind.i64 (s22 + 1)) h0_0_0 h0_0_1 h0_0_2 h0_0_3 h0_0_4 h1_0_0 h1_0_1 h1_0_2 else none else none else none else some (Tree.tup [Tree.agg [Tree.int IntKind.i64 0,
 Tree.int IntKind.i64 0, Tree.str [], Tree.slc [], Tree.slc []], Tree.slc [], Tree.bool false]) := by kernel_rfl

theorem e20 (n : Nat) (a00 : Int) (a01 : Int) (a02 : List UInt8) (a03 : List Tree) (a04 : List Tree) : evQ (Tab.env tab) n 20 [Tree.agg [Tree.int IntKind.i64 a00, Tree.int
 IntKind.i64 a01, Tree.str a02, Tree.slc a03, Tree.slc a04]] = Option.bind (evP (Tab.env tab) n 46 [Tree.agg [Tree.int IntKind.i64 a00, Tree.int IntKind.i64 a01, Tree.str
 a02, Tree.slc a03, Tree.slc a04]]) fun y => bif Sh.ok (Sh.tup [Sh.agg [Sh.int IntKind.i64, Sh.int IntKind.i64, Sh.str, Sh.slc, Sh.slc], Sh.slc, Sh.bool]) y then bif
 !Tree.toBool (List.headD (List.tail (List.tail (Tree.tupl y))) (Tree.bool false)) then some (Tree.tup [Tree.agg [Tree.int IntKind.i64 0, Tree.int IntKind.i64 0, Tree.str
 [], Tree.slc [], Tree.slc []], Tree.slc [], Tree.bool false]) else Option.bind (evP (Tab.env tab) n 42 [Tree.agg [Tree.int IntKind.i64 (Tree.toInt (List.headD (Tree.cs
 (List.headD (Tree.tupl y) (Tree.bool false))) (Tree.bool false))), Tree.int IntKind.i64 (Tree.toInt (List.headD (List.tail (Tree.cs (List.headD (Tree.tupl y) (Tree.bool
 false)))) (Tree.bool false))), Tree.str (Tree.toStr (List.headD (List.tail (List.tail (Tree.cs (List.headD (Tree.tupl y) (Tree.bool false))))) (Tree.bool false))),
 Tree.slc (Tree.elems (List.headD (List.tail (List.tail (List.tail (Tree.cs (List.headD (Tree.tupl y) (Tree.bool false)))))) (Tree.bool false))), Tree.slc (Tree.elems
 (List.headD (List.tail (List.tail (List.tail (List.tail (Tree.cs (List.headD (Tree.tupl y) (Tree.bool false))))))) (Tree.bool false)))]]) fun y_1 => bif Sh.ok (Sh.agg
 [Sh.int IntKind.i64, Sh.int IntKind.i64, Sh.str, Sh.slc, Sh.slc]) y_1 then some (Tree.tup [Tree.agg [Tree.int IntKind.i64 (Tree.toInt (List.headD (Tree.cs y_1) (Tree.bool
 false))), Tree.int IntKind.i64 (Tree.toInt (List.headD (List.tail (Tree.cs y_1)) (Tree.bool false))), Tree.str (Tree.toStr (List.headD (List.tail (List.tail (Tree.cs
 y_1))) (Tree.bool false))), Tree.slc (Tree.elems (List.headD (List.tail (List.tail (List.tail (Tree.cs y_1)))) (Tree.bool false))), Tree.slc (Tree.elems (List.headD
 (List.tail (List.tail (List.tail (List.tail (Tree.cs y_1))))) (Tree.bool false)))], Tree.slc (Tree.elems (List.headD (List.tail (Tree.tupl y)) (Tree.bool false))),
 Tree.bool true]) else none else none := by kernel_rfl

theorem e47 (n : Nat) (a00 : Int) (a01 : Int) (a02 : List UInt8) (a03 : List Tree) (a04 : List Tree) : evQ (Tab.env tab) n 47 [Tree.agg [Tree.int IntKind.i64 a00, Tree.int
 IntKind.i64 a01, Tree.str a02, Tree.slc a03, Tree.slc a04]] = Option.bind (evP (Tab.env tab) n 68 [Tree.agg [Tree.int IntKind.i64 a00, Tree.int IntKind.i64 a01, Tree.str
 a02, Tree.slc a03, Tree.slc a04]]) fun y => bif Sh.ok Sh.bool y then bif !Tree.toBool y then some (Tree.tup [Tree.agg [Tree.int IntKind.i64 a00, Tree.int IntKind.i64 a01,
 Tree.str a02, Tree.slc a03, Tree.slc a04], Tree.bool false]) else bif (↑(List.length a04) : Int) == 0 then some (Tree.tup [Tree.agg [Tree.int IntKind.i64 a00, Tree.int
 IntKind.i64 a01, Tree.str a02, Tree.slc a03, Tree.slc a04], Tree.bool false]) else Option.bind (nth a04 (Int.toNat 0)) fun y => bif Sh.ok (Sh.agg [Sh.int IntKind.i64,
 Sh.int IntKind.i64, Sh.str, Sh.slc, Sh.slc]) y then bif a00 == 3 then bif Tree.toInt (List.headD (Tree.cs y) (Tree.bool false)) == 2 then Option.bind (evP (Tab.env tab) n
 68 [Tree.agg [Tree.int IntKind.i64 (Tree.toInt (List.headD (Tree.cs y) (Tree.bool false))), Tree.int IntKind.i64 (Tree.toInt (List.headD (List.tail (Tree.cs y))
 (Tree.bool false))), Tree.str (Tree.toStr (List.headD (List.tail (List.tail (Tree.cs y))) (Tree.bool false))), Tree.slc (Tree.elems (List.headD (List.tail (List.tail
 (List.tail (Tree.cs y)))) (Tree.bool false))), Tree.slc (Tree.elems (List.headD (List.tail (List.tail (List.tail (List.tail (Tree.cs y))))) (Tree.bool false)))]]) fun y_1
 => bif Sh.ok Sh.bool y_1 then bif Tree.toBool y_1 then Option.bind (nth (Tree.elems (List.headD (List.tail (List.tail (List.tail (List.tail (Tree.cs y))))) (Tree.bool
 false))) (Int.toNat 0)) fun y => bif Sh.ok (Sh.agg [Sh.int IntKind.i64, Sh.int IntKind.i64, Sh.str, Sh.slc, Sh.slc]) y then Option.bind (nth a04 (Int.toNat 1)) fun y_2 =>
 bif Sh.ok (Sh.agg [Sh.int IntKind.i64, Sh.int IntKind.i64, Sh.str, Sh.slc, Sh.slc]) y_2 then Option.bind (evP (Tab.env tab) n 33 [Tree.agg [Tree.int IntKind.i64
 (Tree.toInt (List.headD (Tree.cs y) (Tree.bool false))), Tree.int IntKind.i64 (Tree.toInt (List.headD (List.tail (Tree.cs y)) (Tree.bool false))), Tree.str (Tree.toStr
 (List.headD (List.tail (List.tail (Tree.cs y))) (Tree.bool false))), Tree.slc (Tree.elems (List.headD (List.tail (List.tail (List.tail (Tree.cs y)))) (Tree.bool false))),
 Tree.slc (Tree.elems (List.headD (List.tail (List.tail (List.tail (List.tail (Tree.cs y))))) (Tree.bool false)))], Tree.int IntKind.i64 0, Tree.agg [Tree.int IntKind.i64
 (Tree.toInt (List.headD (Tree.cs y_2) (Tree.bool false))), Tree.int IntKind.i64 (Tree.toInt (List.headD (List.tail (Tree.cs y_2)) (Tree.bool false))), Tree.str
 (Tree.toStr (List.headD (List.tail (List.tail (Tree.cs y_2))) (Tree.bool false))), Tree.slc (Tree.elems (List.headD (List.tail (List.tail (List.tail (Tree.cs y_2))))
 (Tree.bool false))), Tree.slc (Tree.elems (List.headD (List.tail (List.tail (List.tail (List.tail (Tree.cs y_2))))) (Tree.bool false)))]]) fun y => bif Sh.ok (Sh.agg
 [Sh.int IntKind.i64, Sh.int IntKind.i64, Sh.str, Sh.slc, Sh.slc]) y then some (Tree.tup [Tree.agg [Tree.int IntKind.i64 (Tree.toInt (List.headD (Tree.cs y) (Tree.bool
 false))), Tree.int IntKind.i64 (Tree.toInt (List.headD (List.tail (Tree.cs y)) (Tree.bool false))), Tree.str (Tree.toStr (List.headD (List.tail (List.tail (Tree.cs y)))
 (Tree.bool false))), Tree.slc (Tree.elems (List.headD (List.tail (List.tail (List.tail (Tree.cs y)))) (Tree.bool false))), Tree.slc (Tree.elems (List.headD (List.tail
 (List.tail (List.tail (List.tail (Tree.cs y))))) (Tree.bool false)))], Tree.bool true]) else none else none else none else some (Tree.tup [Tree.agg [Tree.int IntKind.i64
 a00, Tree.int IntKind.i64 a01, Tree.str a02, Tree.slc a03, Tree.slc a04], Tree.bool false]) else none else some (Tree.tup [Tree.agg [Tree.int IntKind.i64 a00, Tree.int
 IntKind.i64 a01, Tree.str a02, Tree.slc a03, Tree.slc a04], Tree.bool false]) else bif a00 == 5 then Option.bind (evP (Tab.env tab) n 69 [Tree.agg [Tree.int IntKind.i64
 (Tree.toInt (List.headD (Tree.cs y) (Tree.bool false))), Tree.int IntKind.i64 (Tree.toInt (List.headD (List.tail (Tree.cs y)) (Tree.bool false))), Tree.str (Tree.toStr
 (List.headD (List.tail (List.tail (Tree.cs y))) (Tree.bool false))), Tree.slc (Tree.elems (List.headD (List.tail (List.tail (List.tail (Tree.cs y)))) (Tree.bool false))),
 Tree.slc (Tree.elems (List.headD (List.tail (List.tail (List.tail (List.tail (Tree.cs y))))) (Tree.bool false)))]]) fun y_1 => bif Sh.ok Sh.bool y_1 then bif Tree.toBool
 y_1 then bif decide (Tree.toInt (List.headD (List.tail (Tree.cs y)) (Tree.bool false)) ≥ 0) then bif decide (Tree.toInt (List.headD (List.tail (Tree.cs y)) (Tree.bool
 false)) ≤ 1099511627776) then some (Tree.tup [Tree.agg [Tree.int IntKind.i64 4, Tree.int IntKind.i64 (IntKind.wrap IntKind.i64 (Tree.toInt (List.headD (List.tail (Tree.cs
 y)) (Tree.bool false)) + 1)), Tree.str [], Tree.slc [], Tree.slc []], Tree.bool true]) else some (Tree.tup [Tree.agg [Tree.int IntKind.i64 a00, Tree.int IntKind.i64 a01,
 Tree.str a02, Tree.slc a03, Tree.slc a04], Tree.bool false]) else some (Tree.tup [Tree.agg [Tree.int IntKind.i64 a00, Tree.int IntKind.i64 a01, Tree.str a02, Tree.slc
 a03, Tree.slc a04], Tree.bool false]) else some (Tree.tup [Tree.agg [Tree.int IntKind.i64 a00, Tree.int IntKind.i64 a01, Tree.str a02, Tree.slc a03, Tree.slc a04],
 Tree.bool false]) else none else bif a00 == 6 then Option.bind (evP (Tab.env tab) n 69 [Tree.agg [Tree.int IntKind.i64 (Tree.toInt (List.headD (Tree.cs y) (Tree.bool
 false))), Tree.int IntKind.i64 (Tree.toInt (List.headD (List.tail (Tree.cs y)) (Tree.bool false))), Tree.str (Tree.toStr (List.headD (List.tail (List.tail (Tree.cs y)))
 (Tree.bool false))), Tree.slc (Tree.elems (List.headD (List.tail (List.tail (List.tail (Tree.cs y)))) (Tree.bool false))), Tree.slc (Tree.elems (List.headD (List.tail
 (List.tail (List.tail (List.tail (Tree.cs y))))) (Tree.bool false)))]]) fun y_1 => bif Sh.ok Sh.bool y_1 then bif Tree.toBool y_1 then bif decide (Tree.toInt (List.headD
 (List.tail (Tree.cs y)) (Tree.bool false)) < 1) then Option.bind (nth a04 (Int.toNat 2)) fun y => bif Sh.ok (Sh.agg [Sh.int IntKind.i64, Sh.int IntKind.i64, Sh.str,
 Sh.slc, Sh.slc]) y then some (Tree.tup [Tree.agg [Tree.int IntKind.i64 (Tree.toInt (List.headD (Tree.cs y) (Tree.bool false))), Tree.int IntKind.i64 (Tree.toInt
 (List.headD (List.tail (Tree.cs y)) (Tree.bool false))), Tree.str (Tree.toStr (List.headD (List.tail (List.tail (Tree.cs y))) (Tree.bool false))), Tree.slc (Tree.elems
 (List.headD (List.tail (List.tail (List.tail (Tree.cs y)))) (Tree.bool false))), Tree.slc (Tree.elems (List.headD (List.tail (List.tail (List.tail (List.tail (Tree.cs
 y))))) (Tree.bool false)))], Tree.bool true]) else none else Option.bind (evP (Tab.env tab) n 69 [Tree.agg [Tree.int IntKind.i64 (Tree.toInt (List.headD (Tree.cs y)
 (Tree.bool false))), Tree.int IntKind.i64 (Tree.toInt (List.headD (List.tail (Tree.cs y)) (Tree.bool false))), Tree.str (Tree.toStr (List.headD (List.tail (List.tail
 (Tree.cs y))) (Tree.bool false))), Tree.slc (Tree.elems (List.headD (List.tail (List.tail (List.tail (Tree.cs y)))) (Tree.bool false))), Tree.slc (Tree.elems (List.headD
 (List.tail (List.tail (List.tail (List.tail (Tree.cs y))))) (Tree.bool false)))]]) fun y_2 => bif Sh.ok Sh.bool y_2 then bif Tree.toBool y_2 then Option.bind (nth a04
 (Int.toNat 1)) fun y_3 => bif Sh.ok (Sh.agg [Sh.int IntKind.i64, Sh.int IntKind.i64, Sh.str, Sh.slc, Sh.slc]) y_3 then Option.bind (nth a04 (Int.toNat 2)) fun y_4 => bif
 Sh.ok (Sh.agg [Sh.int IntKind.i64, Sh.int IntKind.i64, Sh.str, Sh.slc, Sh.slc]) y_4 then Option.bind (nth a04 (Int.toNat 1)) fun y_5 => bif Sh.ok (Sh.agg [Sh.int
 IntKind.i64, Sh.int IntKind.i64, Sh.str, Sh.slc, Sh.slc]) y_5 then some (Tree.tup [Tree.agg [Tree.int IntKind.i64 3, Tree.int IntKind.i64 0, Tree.str [], Tree.slc [],
 Tree.slc [Tree.agg [Tree.int IntKind.i64 (Tree.toInt (List.headD (Tree.cs y_5) (Tree.bool false))), Tree.int IntKind.i64 (Tree.toInt (List.headD (List.tail (Tree.cs y_5))
 (Tree.bool false))), Tree.str (Tree.toStr (List.headD (List.tail (List.tail (Tree.cs y_5))) (Tree.bool false))), Tree.slc (Tree.elems (List.headD (List.tail (List.tail
 (List.tail (Tree.cs y_5)))) (Tree.bool false))), Tree.slc (Tree.elems (List.headD (List.tail (List.tail (List.tail (List.tail (Tree.cs y_5))))) (Tree.bool false)))],
 Tree.agg [Tree.int IntKind.i64 6, Tree.int IntKind.i64 0, Tree.str [], Tree.slc [], Tree.slc [Tree.agg [Tree.int IntKind.i64 4, Tree.int IntKind.i64 (IntKind.wrap
 IntKind.i64 (Tree.toInt (List.headD (List.tail (Tree.cs y)) (Tree.bool false)) - 1)), Tree.str [], Tree.slc [], Tree.slc []], Tree.agg [Tree.int IntKind.i64 (Tree.toInt
 (List.headD (Tree.cs y_3) (Tree.bool false))), Tree.int IntKind.i64 (Tree.toInt (List.headD (List.tail (Tree.cs y_3)) (Tree.bool false))), Tree.str (Tree.toStr
 (List.headD (List.tail (List.tail (Tree.cs y_3))) (Tree.bool false))), Tree.slc (Tree.elems (List.headD (List.tail (List.tail (List.tail (Tree.cs y_3)))) (Tree.bool
 false))), Tree.slc (Tree.elems (List.headD (List.tail (List.tail (List.tail (List.tail (Tree.cs y_3))))) (Tree.bool false)))], Tree.agg [Tree.int IntKind.i64 (Tree.toInt
 (List.headD (Tree.cs y_4) (Tree.bool false))), Tree.int IntKind.i64 (Tree.toInt (List.headD (List.tail (Tree.cs y_4)) (Tree.bool false))), Tree.str (Tree.toStr
 (List.headD (List.tail (List.tail (Tree.cs y_4))) (Tree.bool false))), Tree.slc (Tree.elems (List.headD (List.tail (List.tail (List.tail (Tree.cs y_4)))) (Tree.bool
 false))), Tree.slc (Tree.elems (List.headD (List.tail (List.tail (List.tail (List.tail (Tree.cs y_4))))) (Tree.bool false)))]]]]], Tree.bool true]) else none else none
 else none else some (Tree.tup [Tree.agg [Tree.int IntKind.i64 a00, Tree.int IntKind.i64 a01, Tree.str a02, Tree.slc a03, Tree.slc a04], Tree.bool false]) else none else
 Option.bind (evP (Tab.env tab) n 69 [Tree.agg [Tree.int IntKind.i64 (Tree.toInt (List.headD (Tree.cs y) (Tree.bool false))), Tree.int IntKind.i64 (Tree.toInt (List.headD
 (List.tail (Tree.cs y)) (Tree.bool false))), Tree.str (Tree.toStr (List.headD (List.tail (List.tail (Tree.cs y))) (Tree.bool false))), Tree.slc (Tree.elems (List.headD
 (List.tail (List.tail (List.tail (Tree.cs y)))) (Tree.bool false))), Tree.slc (Tree.elems (List.headD (List.tail (List.tail (List.tail (List.tail (Tree.cs y)))))
 (Tree.bool false)))]]) fun y_2 => bif Sh.ok Sh.bool y_2 then bif Tree.toBool y_2 then Option.bind (nth a04 (Int.toNat 1)) fun y_3 => bif Sh.ok (Sh.agg [Sh.int
 IntKind.i64, Sh.int IntKind.i64, Sh.str, Sh.slc, Sh.slc]) y_3 then Option.bind (nth a04 (Int.toNat 2)) fun y_4 => bif Sh.ok (Sh.agg [Sh.int IntKind.i64, Sh.int
 IntKind.i64, Sh.str, Sh.slc, Sh.slc]) y_4 then Option.bind (nth a04 (Int.toNat 1)) fun y_5 => bif Sh.ok (Sh.agg [Sh.int IntKind.i64, Sh.int IntKind.i64, Sh.str, Sh.slc,
 Sh.slc]) y_5 then some (Tree.tup [Tree.agg [Tree.int IntKind.i64 3, Tree.int IntKind.i64 0, Tree.str [], Tree.slc [], Tree.slc [Tree.agg [Tree.int IntKind.i64 (Tree.toInt
 (List.headD (Tree.cs y_5) (Tree.bool false))), Tree.int IntKind.i64 (Tree.toInt (List.headD (List.tail (Tree.cs y_5)) (Tree.bool false))), Tree.str (Tree.toStr
 (List.headD (List.tail (List.tail (Tree.cs y_5))) (Tree.bool false))), Tree.slc (Tree.elems (List.headD (List.tail (List.tail (List.tail (Tree.cs y_5)))) (Tree.bool
 false))), Tree.slc (Tree.elems (List.headD (List.tail (List.tail (List.tail (List.tail (Tree.cs y_5))))) (Tree.bool false)))], Tree.agg [Tree.int IntKind.i64 6, Tree.int
 IntKind.i64 0, Tree.str [], Tree.slc [], Tree.slc [Tree.agg [Tree.int IntKind.i64 4, Tree.int IntKind.i64 (IntKind.wrap IntKind.i64 (Tree.toInt (List.headD (List.tail
 (Tree.cs y)) (Tree.bool false)) - 1)), Tree.str [], Tree.slc [], Tree.slc []], Tree.agg [Tree.int IntKind.i64 (Tree.toInt (List.headD (Tree.cs y_3) (Tree.bool false))),
 Tree.int IntKind.i64 (Tree.toInt (List.headD (List.tail (Tree.cs y_3)) (Tree.bool false))), Tree.str (Tree.toStr (List.headD (List.tail (List.tail (Tree.cs y_3)))
 (Tree.bool false))), Tree.slc (Tree.elems (List.headD (List.tail (List.tail (List.tail (Tree.cs y_3)))) (Tree.bool false))), Tree.slc (Tree.elems (List.headD (List.tail
 (List.tail (List.tail (List.tail (Tree.cs y_3))))) (Tree.bool false)))], Tree.agg [Tree.int IntKind.i64 (Tree.toInt (List.headD (Tree.cs y_4) (Tree.bool false))),
 Tree.int IntKind.i64 (Tree.toInt (List.headD (List.tail (Tree.cs y_4)) (Tree.bool false))), Tree.str (Tree.toStr (List.headD (List.tail (List.tail (Tree.cs y_4)))
 (Tree.bool false))), Tree.slc (Tree.elems (List.headD (List.tail (List.tail (List.tail (Tree.cs y_4)))) (Tree.bool false))), Tree.slc (Tree.elems (List.headD (List.tail
 (List.tail (List.tail (List.tail (Tree.cs y_4))))) (Tree.bool false)))]]]]], Tree.bool true]) else none else none else none else some (Tree.tup [Tree.agg [Tree.int
 IntKind.i64 a00, Tree.int IntKind.i64 a01, Tree.str a02, Tree.slc a03, Tree.slc a04], Tree.bool false]) else none else none else bif a00 == 8 then bif Tree.toInt
 (List.headD (Tree.cs y) (Tree.bool false)) == 7 then Option.bind (evP (Tab.env tab) n 68 [Tree.agg [Tree.int IntKind.i64 (Tree.toInt (List.headD (Tree.cs y) (Tree.bool
 false))), Tree.int IntKind.i64 (Tree.toInt (List.headD (List.tail (Tree.cs y)) (Tree.bool false))), Tree.str (Tree.toStr (List.headD (List.tail (List.tail (Tree.cs y)))
 (Tree.bool false))), Tree.slc (Tree.elems (List.headD (List.tail (List.tail (List.tail (Tree.cs y)))) (Tree.bool false))), Tree.slc (Tree.elems (List.headD (List.tail
 (List.tail (List.tail (List.tail (Tree.cs y))))) (Tree.bool false)))]]) fun y_1 => bif Sh.ok Sh.bool y_1 then bif Tree.toBool y_1 then bif decide (0 ≤ IntKind.wrap
 IntKind.i64 (a00 - 8)) then Option.bind (nth (Tree.elems (List.headD (List.tail (List.tail (List.tail (List.tail (Tree.cs y))))) (Tree.bool false))) (Int.toNat
 (IntKind.wrap IntKind.i64 (a00 - 8)))) fun y => bif Sh.ok (Sh.agg [Sh.int IntKind.i64, Sh.int IntKind.i64, Sh.str, Sh.slc, Sh.slc]) y then some (Tree.tup [Tree.agg
 [Tree.int IntKind.i64 (Tree.toInt (List.headD (Tree.cs y) (Tree.bool false))), Tree.int IntKind.i64 (Tree.toInt (List.headD (List.tail (Tree.cs y)) (Tree.bool false))),
 Tree.str (Tree.toStr (List.headD (List.tail (List.tail (Tree.cs y))) (Tree.bool false))), Tree.slc (Tree.elems (List.headD (List.tail (List.tail (List.tail (Tree.cs y))))
 (Tree.bool false))), Tree.slc (Tree.elems (List.headD (List.tail (List.tail (List.tail (List.tail (Tree.cs y))))) (Tree.bool false)))], Tree.bool true]) else none else
 none else some (Tree.tup [Tree.agg [Tree.int IntKind.i64 a00, Tree.int IntKind.i64 a01, Tree.str a02, Tree.slc a03, Tree.slc a04], Tree.bool false]) else none else some
 (Tree.tup [Tree.agg [Tree.int IntKind.i64 a00, Tree.int IntKind.i64 a01, Tree.str a02, Tree.slc a03, Tree.slc a04], Tree.bool false]) else bif a00 == 9 then bif
 Tree.toInt (List.headD (Tree.cs y) (Tree.bool false)) == 7 then Option.bind (evP (Tab.env tab) n 68 [Tree.agg [Tree.int IntKind.i64 (Tree.toInt (List.headD (Tree.cs y)
 (Tree.bool false))), Tree.int IntKind.i64 (Tree.toInt (List.headD (List.tail (Tree.cs y)) (Tree.bool false))), Tree.str (Tree.toStr (List.headD (List.tail (List.tail
 (Tree.cs y))) (Tree.bool false))), Tree.slc (Tree.elems (List.headD (List.tail (List.tail (List.tail (Tree.cs y)))) (Tree.bool false))), Tree.slc (Tree.elems (List.headD
 (List.tail (List.tail (List.tail (List.tail (Tree.cs y))))) (Tree.bool false)))]]) fun y_1 => bif Sh.ok Sh.bool y_1 then bif Tree.toBool y_1 then bif decide (0 ≤
 IntKind.wrap IntKind.i64 (a00 - 8)) then Option.bind (nth (Tree.elems (List.headD (List.tail (List.tail (List.tail (List.tail (Tree.cs y))))) (Tree.bool false)))
 (Int.toNat (IntKind.wrap IntKind.i64 (a00 - 8)))) fun y => bif Sh.ok (Sh.agg [Sh.int IntKind.i64, Sh.int IntKind.i64, Sh.str, Sh.slc, Sh.slc]) y then some (Tree.tup
 [Tree.agg [Tree.int IntKind.i64 (Tree.toInt (List.headD (Tree.cs y) (Tree.bool false))), Tree.int IntKind.i64 (Tree.toInt (List.headD (List.tail (Tree.cs y)) (Tree.bool
 false))), Tree.str (Tree.toStr (List.headD (List.tail (List.tail (Tree.cs y))) (Tree.bool false))), Tree.slc (Tree.elems (List.headD (List.tail (List.tail (List.tail
 (Tree.cs y)))) (Tree.bool false))), Tree.slc (Tree.elems (List.headD (List.tail (List.tail (List.tail (List.tail (Tree.cs y))))) (Tree.bool false)))], Tree.bool true])
 else none else none else some (Tree.tup [Tree.agg [Tree.int IntKind.i64 a00, Tree.int IntKind.i64 a01, Tree.str a02, Tree.slc a03, Tree.slc a04], Tree.bool false]) else
 none else some (Tree.tup [Tree.agg [Tree.int IntKind.i64 a00, Tree.int IntKind.i64 a01, Tree.str a02, Tree.slc a03, Tree.slc a04], Tree.bool false]) else some (Tree.tup
 [Tree.agg [Tree.int IntKind.i64 a00, Tree.int IntKind.i64 a01, Tree.str a02, Tree.slc a03, Tree.slc a04], Tree.bool false]) else none else none := by kernel_rfl

theorem e24 (n : Nat) (a00 : Int) (a01 : Int) (a02 : List UInt8) (a03 : List Tree) (a04 : List Tree) (a1 : Int) : evQ (Tab.env tab) n 24 [Tree.agg [Tree.int IntKind.i64
 a00, Tree.int IntKind.i64 a01, Tree.str a02, Tree.slc a03, Tree.slc a04], Tree.int IntKind.i64 a1] = L24_0 n n (imin (imax a1 0) 20000) 0 a00 a01 a02 a03 a04 0 0 [] := by
 kernel_rfl

theorem l24_0 (n q : Nat) (s1 : Int) (s7 : Int) (h0_0_0 : Int) (h0_0_1 : Int) (h0_0_2 : List UInt8) (h0_0_3 : List Tree) (h0_0_4 : List Tree) (h1_0_0 : Int) (h1_0_1 : Int)
 (h1_0_2 : List UInt8) : L24_0 n (Nat.succ q) s1 s7 h0_0_0 h0_0_1 h0_0_2 h0_0_3 h0_0_4 h1_0_0 h1_0_1 h1_0_2 = Option.bind (evP (Tab.env tab) n 46 [Tree.agg [Tree.int
 IntKind.i64 h0_0_0, Tree.int IntKind.i64 h0_0_1, Tree.str h0_0_2, Tree.slc h0_0_3, Tree.slc h0_0_4]]) fun y => bif Sh.ok (Sh.tup [Sh.agg [Sh.int IntKind.i64, Sh.int
 IntKind.i64, Sh.str, Sh.slc, Sh.slc], Sh.slc, Sh.bool]) y then bif !Tree.toBool (List.headD (List.tail (List.tail (Tree.tupl y))) (Tree.bool false)) then Option.bind (evP
 (Tab.env tab) n 42 [Tree.agg [Tree.int IntKind.i64 h0_0_0, Tree.int IntKind.i64 h0_0_1, Tree.str h0_0_2, Tree.slc h0_0_3, Tree.slc h0_0_4]]) fun y => bif Sh.ok (Sh.agg
 [Sh.int IntKind.i64, Sh.int IntKind.i64, Sh.str, Sh.slc, Sh.slc]) y then some (Tree.tup [Tree.agg [Tree.int IntKind.i64 (Tree.toInt (List.headD (Tree.cs y) (Tree.bool
 false))), Tree.int IntKind.i64 (Tree.toInt (List.headD (List.tail (Tree.cs y)) (Tree.bool false))), Tree.str (Tree.toStr (List.headD (List.tail (List.tail (Tree.cs y)))
 (Tree.bool false))), Tree.slc (Tree.elems (List.headD (List.tail (List.tail (List.tail (Tree.cs y)))) (Tree.bool false))), Tree.slc (Tree.elems (List.headD (List.tail
 (List.tail (List.tail (List.tail (Tree.cs y))))) (Tree.bool false)))], Tree.int IntKind.i64 s7, Tree.int IntKind.i64 0]) else none else Option.bind (evP (Tab.env tab) n
 48 [Tree.agg [Tree.int IntKind.i64 (Tree.toInt (List.headD (Tree.cs (List.headD (Tree.tupl y) (Tree.bool false))) (Tree.bool false))), Tree.int IntKind.i64 (Tree.toInt
 (List.headD (List.tail (Tree.cs (List.headD (Tree.tupl y) (Tree.bool false)))) (Tree.bool false))), Tree.str (Tree.toStr (List.headD (List.tail (List.tail (Tree.cs
 (List.headD (Tree.tupl y) (Tree.bool false))))) (Tree.bool false))), Tree.slc (Tree.elems (List.headD (List.tail (List.tail (List.tail (Tree.cs (List.headD (Tree.tupl y)
 (Tree.bool false)))))) (Tree.bool false))), Tree.slc (Tree.elems (List.headD (List.tail (List.tail (List.tail (List.tail (Tree.cs (List.headD (Tree.tupl y) (Tree.bool
 false))))))) (Tree.bool false)))]]) fun y_1 => bif Sh.ok (Sh.tup [Sh.int IntKind.i64, Sh.int IntKind.i64]) y_1 then bif s7 == s1 then some (Tree.tup [Tree.agg [Tree.int
 IntKind.i64 0, Tree.int IntKind.i64 0, Tree.str [], Tree.slc [], Tree.slc []], Tree.int IntKind.i64 0, Tree.int IntKind.i64 5]) else bif decide (Tree.toInt (List.headD
 (Tree.tupl y_1) (Tree.bool false)) > 20000) then some (Tree.tup [Tree.agg [Tree.int IntKind.i64 0, Tree.int IntKind.i64 0, Tree.str [], Tree.slc [], Tree.slc []],
 Tree.int IntKind.i64 0, Tree.int IntKind.i64 5]) else L24_0 n q s1 (IntKind.wrap IntKind.i64 (s7 + 1)) (Tree.toInt (List.headD (Tree.cs (List.headD (Tree.tupl y)
 (Tree.bool false))) (Tree.bool false))) (Tree.toInt (List.headD (List.tail (Tree.cs (List.headD (Tree.tupl y) (Tree.bool false)))) (Tree.bool false))) (Tree.toStr
 (List.headD (List.tail (List.tail (Tree.cs (List.headD (Tree.tupl y) (Tree.bool false))))) (Tree.bool false))) (Tree.elems (List.headD (List.tail (List.tail (List.tail
 (Tree.cs (List.headD (Tree.tupl y) (Tree.bool false)))))) (Tree.bool false))) (Tree.elems (List.headD (List.tail (List.tail (List.tail (List.tail (Tree.cs (List.headD
 (Tree.tupl y) (Tree.bool false))))))) (Tree.bool false))) h1_0_0 h1_0_1 h1_0_2 else none else none := by kernel_rfl

theorem e25 (n : Nat) (a00 : Int) (a01 : Int) (a02 : List UInt8) (a03 : List Tree) (a04 : List Tree) (a1 : Int) : evQ (Tab.env tab) n 25 [Tree.agg [Tree.int IntKind.i64
 a00, Tree.int IntKind.i64 a01, Tree.str a02, Tree.slc a03, Tree.slc a04], Tree.int IntKind.i64 a1] = Option.bind (evP (Tab.env tab) n 32 [Tree.agg [Tree.int IntKind.i64
 a00, Tree.int IntKind.i64 a01, Tree.str a02, Tree.slc a03, Tree.slc a04], Tree.int IntKind.i64 0, Tree.int IntKind.i64 0]) fun y => bif Sh.ok (Sh.agg [Sh.int IntKind.i64,
 Sh.int IntKind.i64, Sh.str, Sh.slc, Sh.slc]) y then L25_0 n n (imin (imax a1 0) 20000) 0 (Tree.toInt (List.headD (Tree.cs y) (Tree.bool false))) (Tree.toInt (List.headD
 (List.tail (Tree.cs y)) (Tree.bool false))) (Tree.toStr (List.headD (List.tail (List.tail (Tree.cs y))) (Tree.bool false))) (Tree.elems (List.headD (List.tail (List.tail
 (List.tail (Tree.cs y)))) (Tree.bool false))) (Tree.elems (List.headD (List.tail (List.tail (List.tail (List.tail (Tree.cs y))))) (Tree.bool false))) 0 0 [] else none :=
 by kernel_rfl

theorem l25_0 (n q : Nat) (s1 : Int) (s7 : Int) (h0_0_0 : Int) (h0_0_1 : Int) (h0_0_2 : List UInt8) (h0_0_3 : List Tree) (h0_0_4 : List Tree) (h1_0_0 : Int) (h1_0_1 : Int)
 (h1_0_2 : List UInt8) : L25_0 n (Nat.succ q) s1 s7 h0_0_0 h0_0_1 h0_0_2 h0_0_3 h0_0_4 h1_0_0 h1_0_1 h1_0_2 = Option.bind (evP (Tab.env tab) n 21 [Tree.agg [Tree.int
 IntKind.i64 h0_0_0, Tree.int IntKind.i64 h0_0_1, Tree.str h0_0_2, Tree.slc h0_0_3, Tree.slc h0_0_4]]) fun y => bif Sh.ok (Sh.tup [Sh.agg [Sh.int IntKind.i64, Sh.int
 IntKind.i64, Sh.str, Sh.slc, Sh.slc], Sh.slc, Sh.bool]) y then bif !Tree.toBool (List.headD (List.tail (List.tail (Tree.tupl y))) (Tree.bool false)) then some (Tree.tup
 [Tree.agg [Tree.int IntKind.i64 h0_0_0, Tree.int IntKind.i64 h0_0_1, Tree.str h0_0_2, Tree.slc h0_0_3, Tree.slc h0_0_4], Tree.int IntKind.i64 s7, Tree.int IntKind.i64 0])
 else Option.bind (evP (Tab.env tab) n 38 [Tree.agg [Tree.int IntKind.i64 (Tree.toInt (List.headD (Tree.cs (List.headD (Tree.tupl y) (Tree.bool false))) (Tree.bool
 false))), Tree.int IntKind.i64 (Tree.toInt (List.headD (List.tail (Tree.cs (List.headD (Tree.tupl y) (Tree.bool false)))) (Tree.bool false))), Tree.str (Tree.toStr
 (List.headD (List.tail (List.tail (Tree.cs (List.headD (Tree.tupl y) (Tree.bool false))))) (Tree.bool false))), Tree.slc (Tree.elems (List.headD (List.tail (List.tail
 (List.tail (Tree.cs (List.headD (Tree.tupl y) (Tree.bool false)))))) (Tree.bool false))), Tree.slc (Tree.elems (List.headD (List.tail (List.tail (List.tail (List.tail
 (Tree.cs (List.headD (Tree.tupl y) (Tree.bool false))))))) (Tree.bool false)))]]) fun y_1 => bif Sh.ok (Sh.tup [Sh.int IntKind.i64, Sh.int IntKind.i64]) y_1 then bif
 decide (s7 ≥ s1) then some (Tree.tup [Tree.agg [Tree.int IntKind.i64 0, Tree.int IntKind.i64 0, Tree.str [], Tree.slc [], Tree.slc []], Tree.int IntKind.i64 0, Tree.int
 IntKind.i64 5]) else bif decide (Tree.toInt (List.headD (Tree.tupl y_1) (Tree.bool false)) > 20000) then some (Tree.tup [Tree.agg [Tree.int IntKind.i64 0, Tree.int
 IntKind.i64 0, Tree.str [], Tree.slc [], Tree.slc []], Tree.int IntKind.i64 0, Tree.int IntKind.i64 5]) else L25_0 n q s1 (IntKind.wrap IntKind.i64 (s7 + 1)) (Tree.toInt
 (List.headD (Tree.cs (List.headD (Tree.tupl y) (Tree.bool false))) (Tree.bool false))) (Tree.toInt (List.headD (List.tail (Tree.cs (List.headD (Tree.tupl y) (Tree.bool
 false)))) (Tree.bool false))) (Tree.toStr (List.headD (List.tail (List.tail (Tree.cs (List.headD (Tree.tupl y) (Tree.bool false))))) (Tree.bool false))) (Tree.elems
 (List.headD (List.tail (List.tail (List.tail (Tree.cs (List.headD (Tree.tupl y) (Tree.bool false)))))) (Tree.bool false))) (Tree.elems (List.headD (List.tail (List.tail
 (List.tail (List.tail (Tree.cs (List.headD (Tree.tupl y) (Tree.bool false))))))) (Tree.bool false))) h1_0_0 h1_0_1 h1_0_2 else none else none := by kernel_rfl

theorem e39 (n : Nat) (a0 : List Tree) (a10 : Int) (a11 : Int) (a12 : List UInt8) (a13 : List Tree) (a14 : List Tree) : evQ (Tab.env tab) n 39 [Tree.slc a0, Tree.agg
 [Tree.int IntKind.i64 a10, Tree.int IntKind.i64 a11, Tree.str a12, Tree.slc a13, Tree.slc a14]] = bif decide ((↑(List.length a0) : Int) ≤ 100) then Option.bind (evP
 (Tab.env tab) n 58 [Tree.slc a0, Tree.fn 59 [] []]) fun y => bif Sh.ok Sh.bool y then bif !Tree.toBool y then Option.bind (evP (Tab.env tab) n 30 [Tree.agg [Tree.int
 IntKind.i64 a10, Tree.int IntKind.i64 a11, Tree.str a12, Tree.slc a13, Tree.slc a14]]) fun y => bif Sh.ok Sh.bool y then some (Tree.bool (Tree.toBool y)) else none else
 some (Tree.bool false) else none else some (Tree.bool false) := by kernel_rfl

theorem e49 (n : Nat) (a0 : List Tree) (a10 : Int) (a11 : Int) (a12 : List UInt8) (a13 : List Tree) (a14 : List Tree) : evQ (Tab.env tab) n 49 [Tree.slc a0, Tree.agg
 [Tree.int IntKind.i64 a10, Tree.int IntKind.i64 a11, Tree.str a12, Tree.slc a13, Tree.slc a14]] = bif decide ((↑(List.length a0) : Int) > 100) then some (Tree.bool false)
 else Option.bind (evP (Tab.env tab) n 18 [Tree.agg [Tree.int IntKind.i64 a10, Tree.int IntKind.i64 a11, Tree.str a12, Tree.slc a13, Tree.slc a14]]) fun y => bif Sh.ok
 Sh.bool y then bif !Tree.toBool y then some (Tree.bool false) else L49_0 n n a0 0 else none := by kernel_rfl

theorem l49_0 (n q : Nat) (s0 : List Tree) (s5 : Int) : L49_0 n (Nat.succ q) s0 s5 = bif decide (s5 < (↑(List.length s0) : Int)) then bif decide (0 ≤ s5) then Option.bind
 (nth s0 (Int.toNat s5)) fun y => bif Sh.ok (Sh.agg [Sh.str, Sh.slc]) y then Option.bind (evP (Tab.env tab) n 66 [Tree.agg [Tree.str (Tree.toStr (List.headD (Tree.cs y)
 (Tree.bool false))), Tree.slc (Tree.elems (List.headD (List.tail (Tree.cs y)) (Tree.bool false)))]]) fun y => bif Sh.ok Sh.bool y then bif !Tree.toBool y then some
 (Tree.bool false) else L49_0 n q s0 (IntKind.wrap IntKind.i64 (s5 + 1)) else none else none else none else some (Tree.bool true) := by kernel_rfl

theorem e15 (n : Nat) (a0 : List Tree) (a10 : Int) (a11 : Int) (a12 : List UInt8) (a13 : List Tree) (a14 : List Tree) : evQ (Tab.env tab) n 15 [Tree.slc a0, Tree.agg
 [Tree.int IntKind.i64 a10, Tree.int IntKind.i64 a11, Tree.str a12, Tree.slc a13, Tree.slc a14]] = Option.bind (evP (Tab.env tab) n 39 [Tree.slc a0, Tree.agg [Tree.int
 IntKind.i64 a10, Tree.int IntKind.i64 a11, Tree.str a12, Tree.slc a13, Tree.slc a14]]) fun y => bif Sh.ok Sh.bool y then bif !Tree.toBool y then some (Tree.tup [Tree.agg
 [Tree.str [], Tree.slc []], Tree.int IntKind.i64 4]) else Option.bind (evP (Tab.env tab) n 40 [Tree.slc a0, Tree.agg [Tree.int IntKind.i64 a10, Tree.int IntKind.i64 a11,
 Tree.str a12, Tree.slc a13, Tree.slc a14]]) fun y => bif Sh.ok (Sh.tup [Sh.agg [Sh.str, Sh.slc], Sh.slc, Sh.bool]) y then bif !Tree.toBool (List.headD (List.tail
 (List.tail (Tree.tupl y))) (Tree.bool false)) then some (Tree.tup [Tree.agg [Tree.str [], Tree.slc []], Tree.int IntKind.i64 250]) else Option.bind (evP (Tab.env tab) n
 41 [Tree.agg [Tree.str (Tree.toStr (List.headD (Tree.cs (List.headD (Tree.tupl y) (Tree.bool false))) (Tree.bool false))), Tree.slc (Tree.elems (List.headD (List.tail
 (Tree.cs (List.headD (Tree.tupl y) (Tree.bool false)))) (Tree.bool false)))]]) fun y => bif Sh.ok (Sh.agg [Sh.str, Sh.slc]) y then some (Tree.tup [Tree.agg [Tree.str
 (Tree.toStr (List.headD (Tree.cs y) (Tree.bool false))), Tree.slc (Tree.elems (List.headD (List.tail (Tree.cs y)) (Tree.bool false)))], Tree.int IntKind.i64 0]) else none
 else none else none := by kernel_rfl

theorem e27 (n : Nat) (a0 : List Tree) (a10 : Int) (a11 : Int) (a12 : List UInt8) (a13 : List Tree) (a14 : List Tree) : evQ (Tab.env tab) n 27 [Tree.slc a0, Tree.agg
 [Tree.int IntKind.i64 a10, Tree.int IntKind.i64 a11, Tree.str a12, Tree.slc a13, Tree.slc a14]] = Option.bind (evP (Tab.env tab) n 49 [Tree.slc a0, Tree.agg [Tree.int
 IntKind.i64 a10, Tree.int IntKind.i64 a11, Tree.str a12, Tree.slc a13, Tree.slc a14]]) fun y => bif Sh.ok Sh.bool y then bif !Tree.toBool y then some (Tree.tup [Tree.agg
 [Tree.str [], Tree.slc []], Tree.int IntKind.i64 4]) else Option.bind (evP (Tab.env tab) n 50 [Tree.slc a0, Tree.agg [Tree.int IntKind.i64 a10, Tree.int IntKind.i64 a11,
 Tree.str a12, Tree.slc a13, Tree.slc a14], Tree.slc []]) fun y => bif Sh.ok (Sh.tup [Sh.agg [Sh.str, Sh.slc], Sh.slc, Sh.bool]) y then bif !Tree.toBool (List.headD
 (List.tail (List.tail (Tree.tupl y))) (Tree.bool false)) then some (Tree.tup [Tree.agg [Tree.str [], Tree.slc []], Tree.int IntKind.i64 250]) else some (Tree.tup
 [Tree.agg [Tree.str (Tree.toStr (List.headD (Tree.cs (List.headD (Tree.tupl y) (Tree.bool false))) (Tree.bool false))), Tree.slc (Tree.elems (List.headD (List.tail
 (Tree.cs (List.headD (Tree.tupl y) (Tree.bool false)))) (Tree.bool false)))], Tree.int IntKind.i64 0]) else none else none := by kernel_rfl

theorem e28 (n : Nat) (a0 : List Tree) (a10 : Int) (a11 : Int) (a12 : List UInt8) (a13 : List Tree) (a14 : List Tree) : evQ (Tab.env tab) n 28 [Tree.slc a0, Tree.agg
 [Tree.int IntKind.i64 a10, Tree.int IntKind.i64 a11, Tree.str a12, Tree.slc a13, Tree.slc a14]] = Option.bind (evP (Tab.env tab) n 39 [Tree.slc a0, Tree.agg [Tree.int
 IntKind.i64 a10, Tree.int IntKind.i64 a11, Tree.str a12, Tree.slc a13, Tree.slc a14]]) fun y => bif Sh.ok Sh.bool y then bif !Tree.toBool y then some (Tree.tup [Tree.slc
 [], Tree.int IntKind.i64 4]) else Option.bind (evP (Tab.env tab) n 40 [Tree.slc a0, Tree.agg [Tree.int IntKind.i64 a10, Tree.int IntKind.i64 a11, Tree.str a12, Tree.slc
 a13, Tree.slc a14]]) fun y => bif Sh.ok (Sh.tup [Sh.agg [Sh.str, Sh.slc], Sh.slc, Sh.bool]) y then bif !Tree.toBool (List.headD (List.tail (List.tail (Tree.tupl y)))
 (Tree.bool false)) then some (Tree.tup [Tree.slc (Tree.elems (List.headD (List.tail (Tree.tupl y)) (Tree.bool false))), Tree.int IntKind.i64 250]) else some (Tree.tup
 [Tree.slc [], Tree.int IntKind.i64 0]) else none else none := by kernel_rfl

theorem e29 (n : Nat) (a0 : List Tree) (a10 : Int) (a11 : Int) (a12 : List UInt8) (a13 : List Tree) (a14 : List Tree) : evQ (Tab.env tab) n 29 [Tree.slc a0, Tree.agg
 [Tree.int IntKind.i64 a10, Tree.int IntKind.i64 a11, Tree.str a12, Tree.slc a13, Tree.slc a14]] = Option.bind (evP (Tab.env tab) n 49 [Tree.slc a0, Tree.agg [Tree.int
 IntKind.i64 a10, Tree.int IntKind.i64 a11, Tree.str a12, Tree.slc a13, Tree.slc a14]]) fun y => bif Sh.ok Sh.bool y then bif !Tree.toBool y then some (Tree.tup [Tree.slc
 [], Tree.int IntKind.i64 4]) else Option.bind (evP (Tab.env tab) n 50 [Tree.slc a0, Tree.agg [Tree.int IntKind.i64 a10, Tree.int IntKind.i64 a11, Tree.str a12, Tree.slc
 a13, Tree.slc a14], Tree.slc []]) fun y => bif Sh.ok (Sh.tup [Sh.agg [Sh.str, Sh.slc], Sh.slc, Sh.bool]) y then bif !Tree.toBool (List.headD (List.tail (List.tail
 (Tree.tupl y))) (Tree.bool false)) then some (Tree.tup [Tree.slc (Tree.elems (List.headD (List.tail (Tree.tupl y)) (Tree.bool false))), Tree.int IntKind.i64 250]) else
 some (Tree.tup [Tree.slc [], Tree.int IntKind.i64 0]) else none else none := by kernel_rfl


end Go.Proofs.Aw.Sa
