/-
  EQUATIONS of the reckoned code: printed by program.
-/
import Derived.Test.YtkfcancichadgaaSaTab
import Derived.Test.YtkfcancichadgaaAw4
set_option linter.unusedSimpArgs false
set_option linter.unusedVariables false
set_option maxRecDepth 100000
namespace Go.Proofs.Aw.Sa
open Go.Proofs

def L80_0 (n q : Nat) (s2 : Int) (s3 : Int) (s9 : List Tree) (s10 : Int) (s11 : Int) : Option Tree :=
  evL (Tab.env tab) n 80 [1, 0, 1, 0] [q] { ts := [AV.any, AV.any, AV.t (Tree.int IntKind.i64 s2), AV.t (Tree.int IntKind.i64 s3), AV.any, AV.any, AV.any, AV.any, AV.any, AV.t (Tree.slc s9), AV.t (Tree.int IntKind.i64 s10), AV.t (Tree.int IntKind.i64 s11), AV.any, AV.any, AV.any, AV.any, AV.any, AV.any, AV.any, AV.any, AV.any, AV.any, AV.any, AV.any, AV.any, AV.any, AV.any, AV.any, AV.any, AV.any, AV.any], H := [] }

def L78_0 (n q : Nat) (s1 : List Tree) (s2g : Nat) (s2p : List Tree) (s2c : List Tree) (s15 : List Tree) (s16 : Int) (s17 : Int) : Option Tree :=
  evL (Tab.env tab) n 78 [1, 1, 0, 1, 0] [q] { ts := [AV.any, AV.t (Tree.slc s1), AV.t (Tree.fn s2g s2p s2c), AV.any, AV.any, AV.any, AV.any, AV.any, AV.any, AV.any, AV.any, AV.any, AV.any, AV.any, AV.any, AV.t (Tree.slc s15), AV.t (Tree.int IntKind.i64 s16), AV.t (Tree.int IntKind.i64 s17), AV.any, AV.any, AV.any, AV.any, AV.any, AV.any, AV.any, AV.any, AV.any, AV.any, AV.any, AV.any, AV.any, AV.any], H := [] }

def L84_0 (n q : Nat) (s4 : Int) (s5 : Int) (s6 : Int) (h0_0_0 : List UInt8) (h0_0_1 : List Tree) : Option Tree :=
  evL (Tab.env tab) n 84 [1, 1, 0, 1, 0] [q] { ts := [AV.any, AV.href 0 0 0, AV.any, AV.any, AV.t (Tree.int IntKind.i64 s4), AV.t (Tree.int IntKind.i64 s5), AV.t (Tree.int IntKind.i64 s6), AV.any, AV.any, AV.any, AV.any, AV.any, AV.any, AV.any, AV.any, AV.any, AV.any, AV.any, AV.any, AV.any, AV.any, AV.any, AV.any, AV.any, AV.any, AV.any, AV.any, AV.any, AV.any, AV.any, AV.any, AV.any, AV.any, AV.any], H := [HObj.tre (Sh.agg [Sh.str, Sh.slc]) [Tree.agg [Tree.str h0_0_0, Tree.slc h0_0_1]]] }

def L79_0 (n q : Nat) (s0 : List Tree) (s1g : Nat) (s1p : List Tree) (s1c : List Tree) (s7 : Int) (s8 : Int) : Option Tree :=
  evL (Tab.env tab) n 79 [1, 0, 1, 0] [q] { ts := [AV.t (Tree.slc s0), AV.t (Tree.fn s1g s1p s1c), AV.any, AV.any, AV.any, AV.any, AV.any, AV.t (Tree.int IntKind.i64 s7), AV.t (Tree.int IntKind.i64 s8), AV.any, AV.any, AV.any, AV.any, AV.any, AV.any, AV.any, AV.any, AV.any, AV.any], H := [] }

def L86_0 (n q : Nat) (s0 : List Tree) (s1g : Nat) (s1p : List Tree) (s1c : List Tree) (s7 : Int) (s8 : Int) : Option Tree :=
  evL (Tab.env tab) n 86 [1, 0, 1, 0] [q] { ts := [AV.t (Tree.slc s0), AV.t (Tree.fn s1g s1p s1c), AV.any, AV.any, AV.any, AV.any, AV.any, AV.t (Tree.int IntKind.i64 s7), AV.t (Tree.int IntKind.i64 s8), AV.any, AV.any, AV.any, AV.any, AV.any, AV.any, AV.any, AV.any, AV.any, AV.any], H := [] }

def L48_0 (n q : Nat) (s2 : Int) (s3 : Int) (s9 : List Tree) (s10 : Int) (s11 : Int) : Option Tree :=
  evL (Tab.env tab) n 48 [1, 0, 1, 0] [q] { ts := [AV.any, AV.any, AV.t (Tree.int IntKind.i64 s2), AV.t (Tree.int IntKind.i64 s3), AV.any, AV.any, AV.any, AV.any, AV.any, AV.t (Tree.slc s9), AV.t (Tree.int IntKind.i64 s10), AV.t (Tree.int IntKind.i64 s11), AV.any, AV.any, AV.any, AV.any, AV.any, AV.any, AV.any, AV.any, AV.any, AV.any, AV.any, AV.any, AV.any, AV.any, AV.any, AV.any, AV.any, AV.any, AV.any], H := [] }

def L45_0 (n q : Nat) (s4 : Int) (h0_0_0 : Int) (h0_0_1 : Int) (h0_0_2 : List UInt8) (h0_0_3 : List Tree) (h0_0_4 : List Tree) : Option Tree :=
  evL (Tab.env tab) n 45 [1, 1, 1, 1, 1, 1, 0, 1, 0] [q] { ts := [AV.any, AV.href 0 0 0, AV.any, AV.any, AV.t (Tree.int IntKind.i64 s4), AV.any, AV.any, AV.any, AV.any, AV.any, AV.any, AV.any, AV.any, AV.any, AV.any, AV.any, AV.any, AV.any, AV.any, AV.any, AV.any, AV.any, AV.any, AV.any, AV.any, AV.any, AV.any, AV.any, AV.any, AV.any, AV.any, AV.any, AV.any, AV.any, AV.any, AV.any, AV.any, AV.any, AV.any, AV.any, AV.any, AV.any, AV.any, AV.any, AV.any, AV.any, AV.any, AV.any, AV.any, AV.any, AV.any, AV.any, AV.any, AV.any, AV.any, AV.any, AV.any, AV.any, AV.any, AV.any, AV.any, AV.any, AV.any, AV.any, AV.any, AV.any, AV.any, AV.any, AV.any, AV.any, AV.any, AV.any, AV.any, AV.any], H := [HObj.tre (Sh.agg [Sh.int IntKind.i64, Sh.int IntKind.i64, Sh.str, Sh.slc, Sh.slc]) [Tree.agg [Tree.int IntKind.i64 h0_0_0, Tree.int IntKind.i64 h0_0_1, Tree.str h0_0_2, Tree.slc h0_0_3, Tree.slc h0_0_4]]] }

def L38_0 (n q : Nat) (s4 : Int) (s5 : Int) (s6 : Int) (h0_0_0 : Int) (h0_0_1 : Int) (h0_0_2 : List UInt8) (h0_0_3 : List Tree) (h0_0_4 : List Tree) : Option Tree :=
  evL (Tab.env tab) n 38 [1, 1, 0, 1, 0] [q] { ts := [AV.any, AV.href 0 0 0, AV.any, AV.any, AV.t (Tree.int IntKind.i64 s4), AV.t (Tree.int IntKind.i64 s5), AV.t (Tree.int IntKind.i64 s6), AV.any, AV.any, AV.any, AV.any, AV.any, AV.any, AV.any, AV.any, AV.any, AV.any, AV.any, AV.any, AV.any, AV.any, AV.any, AV.any, AV.any, AV.any, AV.any, AV.any, AV.any, AV.any, AV.any, AV.any, AV.any, AV.any, AV.any], H := [HObj.tre (Sh.agg [Sh.int IntKind.i64, Sh.int IntKind.i64, Sh.str, Sh.slc, Sh.slc]) [Tree.agg [Tree.int IntKind.i64 h0_0_0, Tree.int IntKind.i64 h0_0_1, Tree.str h0_0_2, Tree.slc h0_0_3, Tree.slc h0_0_4]]] }

def L16_0 (n q : Nat) (s5 : Int) (h0_0_0 : List UInt8) (h0_0_1 : List Tree) (h1_0_0 : List UInt8) (h1_0_1 : List Tree) : Option Tree :=
  evL (Tab.env tab) n 16 [1, 1, 0, 1, 0] [q] { ts := [AV.any, AV.any, AV.href 0 0 0, AV.href 1 0 0, AV.any, AV.t (Tree.int IntKind.i64 s5), AV.any, AV.any, AV.any, AV.any, AV.any, AV.any, AV.any, AV.any, AV.any, AV.any, AV.any, AV.any, AV.any, AV.any, AV.any, AV.any, AV.any, AV.any, AV.any, AV.any, AV.any, AV.any, AV.any, AV.any, AV.any, AV.any, AV.any, AV.any, AV.any, AV.any, AV.any, AV.any, AV.any], H := [HObj.tre (Sh.agg [Sh.str, Sh.slc]) [Tree.agg [Tree.str h0_0_0, Tree.slc h0_0_1]], HObj.tre (Sh.agg [Sh.str, Sh.slc]) [Tree.agg [Tree.str h1_0_0, Tree.slc h1_0_1]]] }

def L22_0 (n q : Nat) (s5 : Int) (h0_0_0 : Int) (h0_0_1 : Int) (h0_0_2 : List UInt8) (h0_0_3 : List Tree) (h0_0_4 : List Tree) (h1_0_0 : Int) (h1_0_1 : Int) (h1_0_2 : List UInt8) (h1_0_3 : List Tree) (h1_0_4 : List Tree) : Option Tree :=
  evL (Tab.env tab) n 22 [1, 1, 0, 1, 0] [q] { ts := [AV.any, AV.any, AV.href 0 0 0, AV.href 1 0 0, AV.any, AV.t (Tree.int IntKind.i64 s5), AV.any, AV.any, AV.any, AV.any, AV.any, AV.any, AV.any, AV.any, AV.any, AV.any, AV.any, AV.any, AV.any, AV.any, AV.any, AV.any, AV.any, AV.any, AV.any, AV.any, AV.any, AV.any, AV.any, AV.any, AV.any, AV.any, AV.any, AV.any, AV.any, AV.any, AV.any, AV.any, AV.any, AV.any, AV.any, AV.any, AV.any, AV.any, AV.any, AV.any, AV.any, AV.any, AV.any, AV.any, AV.any, AV.any, AV.any, AV.any], H := [HObj.tre (Sh.agg [Sh.int IntKind.i64, Sh.int IntKind.i64, Sh.str, Sh.slc, Sh.slc]) [Tree.agg [Tree.int IntKind.i64 h0_0_0, Tree.int IntKind.i64 h0_0_1, Tree.str h0_0_2, Tree.slc h0_0_3, Tree.slc h0_0_4]], HObj.tre (Sh.agg [Sh.int IntKind.i64, Sh.int IntKind.i64, Sh.str, Sh.slc, Sh.slc]) [Tree.agg [Tree.int IntKind.i64 h1_0_0, Tree.int IntKind.i64 h1_0_1, Tree.str h1_0_2, Tree.slc h1_0_3, Tree.slc h1_0_4]]] }

def L57_0 (n q : Nat) (s1 : List Tree) (s2g : Nat) (s2p : List Tree) (s2c : List Tree) (s15 : List Tree) (s16 : Int) (s17 : Int) : Option Tree :=
  evL (Tab.env tab) n 57 [1, 1, 0, 1, 0] [q] { ts := [AV.any, AV.t (Tree.slc s1), AV.t (Tree.fn s2g s2p s2c), AV.any, AV.any, AV.any, AV.any, AV.any, AV.any, AV.any, AV.any, AV.any, AV.any, AV.any, AV.any, AV.t (Tree.slc s15), AV.t (Tree.int IntKind.i64 s16), AV.t (Tree.int IntKind.i64 s17), AV.any, AV.any, AV.any, AV.any, AV.any, AV.any, AV.any, AV.any, AV.any, AV.any, AV.any, AV.any, AV.any, AV.any], H := [] }

def L14_0 (n q : Nat) (s0 : List Tree) (s1 : Int) (s5 : Int) (s6 : Int) : Option Tree :=
  evL (Tab.env tab) n 14 [1, 1, 0, 1, 0] [q] { ts := [AV.t (Tree.slc s0), AV.t (Tree.int IntKind.i64 s1), AV.any, AV.any, AV.any, AV.t (Tree.int IntKind.i64 s5), AV.t (Tree.int IntKind.i64 s6), AV.any, AV.any, AV.any, AV.any, AV.any, AV.any, AV.any, AV.any, AV.any, AV.any, AV.any, AV.any, AV.any, AV.any, AV.any, AV.any, AV.any, AV.any, AV.any, AV.any, AV.any, AV.any, AV.any, AV.any, AV.any, AV.any, AV.any, AV.any, AV.any, AV.any, AV.any, AV.any, AV.any], H := [] }

def L37_0 (n q : Nat) (s0 : List Tree) (s1 : Int) (s5 : Int) (s6 : Int) : Option Tree :=
  evL (Tab.env tab) n 37 [1, 1, 0, 1, 0] [q] { ts := [AV.t (Tree.slc s0), AV.t (Tree.int IntKind.i64 s1), AV.any, AV.any, AV.any, AV.t (Tree.int IntKind.i64 s5), AV.t (Tree.int IntKind.i64 s6), AV.any, AV.any, AV.any, AV.any, AV.any, AV.any, AV.any, AV.any, AV.any, AV.any, AV.any, AV.any, AV.any, AV.any, AV.any, AV.any, AV.any, AV.any, AV.any, AV.any, AV.any, AV.any, AV.any, AV.any, AV.any, AV.any, AV.any, AV.any, AV.any, AV.any, AV.any, AV.any, AV.any, AV.any, AV.any, AV.any, AV.any, AV.any, AV.any, AV.any, AV.any, AV.any, AV.any], H := [] }

def L10_0 (n q : Nat) (s0 : List Tree) (s3 : Int) : Option Tree :=
  evL (Tab.env tab) n 10 [1, 0, 1, 0] [q] { ts := [AV.t (Tree.slc s0), AV.any, AV.any, AV.t (Tree.int IntKind.i64 s3), AV.any, AV.any, AV.any, AV.any, AV.any, AV.any, AV.any, AV.any, AV.any, AV.any, AV.any, AV.any, AV.any, AV.any, AV.any, AV.any, AV.any, AV.any, AV.any, AV.any, AV.any, AV.any, AV.any, AV.any, AV.any], H := [] }

def L41_0 (n q : Nat) (s10 : Int) (s11 : Int) (h0_0_0 : List UInt8) (h1 : List Tree) (h2_0_0 : List UInt8) : Option Tree :=
  evL (Tab.env tab) n 41 [1, 1, 0, 1, 0] [q] { ts := [AV.any, AV.href 0 0 0, AV.href 2 0 0, AV.any, AV.any, AV.any, AV.any, AV.any, AV.any, AV.any, AV.t (Tree.int IntKind.i64 s10), AV.t (Tree.int IntKind.i64 s11), AV.any, AV.any, AV.any, AV.any, AV.any, AV.any, AV.any, AV.any, AV.any, AV.any, AV.any, AV.any, AV.any, AV.any], H := [HObj.mix (Sh.agg [Sh.str, Sh.slc]) [AV.agg [AV.t (Tree.str h0_0_0), AV.hsl 1 none]], HObj.tre (Sh.agg [Sh.str, Sh.slc]) h1, HObj.mix (Sh.agg [Sh.str, Sh.slc]) [AV.agg [AV.t (Tree.str h2_0_0), AV.nilS]]] }

def L42_0 (n q : Nat) (s14 : Int) (s15 : Int) (h0_0_0 : Int) (h0_0_1 : Int) (h0_0_2 : List UInt8) (h0_0_3 : List Tree) (h1 : List Tree) (h2_0_0 : Int) (h2_0_1 : Int) (h2_0_2 : List UInt8) : Option Tree :=
  evL (Tab.env tab) n 42 [1, 1, 1, 0, 1, 0] [q] { ts := [AV.any, AV.href 0 0 0, AV.href 2 0 0, AV.any, AV.any, AV.any, AV.any, AV.any, AV.any, AV.any, AV.any, AV.any, AV.any, AV.any, AV.t (Tree.int IntKind.i64 s14), AV.t (Tree.int IntKind.i64 s15), AV.any, AV.any, AV.any, AV.any, AV.any, AV.any, AV.any, AV.any, AV.any, AV.any, AV.any, AV.any, AV.any, AV.any], H := [HObj.mix (Sh.agg [Sh.int IntKind.i64, Sh.int IntKind.i64, Sh.str, Sh.slc, Sh.slc]) [AV.agg [AV.t (Tree.int IntKind.i64 h0_0_0), AV.t (Tree.int IntKind.i64 h0_0_1), AV.t (Tree.str h0_0_2), AV.t (Tree.slc h0_0_3), AV.hsl 1 none]], HObj.tre (Sh.agg [Sh.int IntKind.i64, Sh.int IntKind.i64, Sh.str, Sh.slc, Sh.slc]) h1, HObj.mix (Sh.agg [Sh.int IntKind.i64, Sh.int IntKind.i64, Sh.str, Sh.slc, Sh.slc]) [AV.agg [AV.t (Tree.int IntKind.i64 h2_0_0), AV.t (Tree.int IntKind.i64 h2_0_1), AV.t (Tree.str h2_0_2), AV.nilS, AV.nilS]]] }

theorem e72 (n : Nat) : evQ (Tab.env tab) n 72 [] = some (Tree.agg [Tree.str [78, 97, 116], Tree.slc []]) := by kernel_rfl

theorem e71 (n : Nat) (a0 : List UInt8) (a10 : List UInt8) (a11 : List Tree) (a20 : List UInt8) (a21 : List Tree) : evQ (Tab.env tab) n 71 [Tree.str a0, Tree.agg [Tree.str
 a10, Tree.slc a11], Tree.agg [Tree.str a20, Tree.slc a21]] = some (Tree.agg [Tree.str a0, Tree.slc [Tree.agg [Tree.str a10, Tree.slc a11], Tree.agg [Tree.str a20,
 Tree.slc a21]]]) := by kernel_rfl

theorem e73 (n : Nat) (a0 : Int) : evQ (Tab.env tab) n 73 [Tree.int IntKind.i64 a0] = bif a0 == 1 then some (Tree.int IntKind.i64 0) else bif a0 == 4 then some (Tree.int
 IntKind.i64 0) else bif a0 == 2 then some (Tree.int IntKind.i64 1) else bif a0 == 5 then some (Tree.int IntKind.i64 1) else bif a0 == 8 then some (Tree.int IntKind.i64 1)
 else bif a0 == 9 then some (Tree.int IntKind.i64 1) else bif a0 == 3 then some (Tree.int IntKind.i64 2) else bif a0 == 7 then some (Tree.int IntKind.i64 2) else bif a0 ==
 6 then some (Tree.int IntKind.i64 3) else some (Tree.int IntKind.i64 (-1)) := by kernel_rfl

theorem e74 (n : Nat) (a00 : List UInt8) (a01 : List Tree) : evQ (Tab.env tab) n 74 [Tree.agg [Tree.str a00, Tree.slc a01]] = bif a00 == [] then some (Tree.bool
 ((↑(List.length a01) : Int) == 0)) else some (Tree.bool false) := by kernel_rfl

theorem e80 (n : Nat) (a00 : List UInt8) (a01 : List Tree) : evQ (Tab.env tab) n 80 [Tree.agg [Tree.str a00, Tree.slc a01]] = L80_0 n n 0 0 a01 (↑(List.length a01) : Int)
 0 := by kernel_rfl

theorem l80_0 (n q : Nat) (s2 : Int) (s3 : Int) (s9 : List Tree) (s10 : Int) (s11 : Int) : L80_0 n (Nat.succ q) s2 s3 s9 s10 s11 = bif decide (s11 < s10) then bif decide
 (0 ≤ s11) then Option.bind (nth s9 (Int.toNat s11)) fun y => bif Sh.ok (Sh.agg [Sh.str, Sh.slc]) y then Option.bind (evP (Tab.env tab) n 80 [Tree.agg [Tree.str
 (Tree.toStr (List.headD (Tree.cs y) (Tree.bool false))), Tree.slc (Tree.elems (List.headD (List.tail (Tree.cs y)) (Tree.bool false)))]]) fun y => bif Sh.ok (Sh.tup
 [Sh.int IntKind.i64, Sh.int IntKind.i64]) y then L80_0 n q (IntKind.wrap IntKind.i64 (s2 + Tree.toInt (List.headD (Tree.tupl y) (Tree.bool false)))) (imax s3 (Tree.toInt
 (List.headD (List.tail (Tree.tupl y)) (Tree.bool false)))) s9 s10 (IntKind.wrap IntKind.i64 (s11 + 1)) else none else none else none else some (Tree.tup [Tree.int
 IntKind.i64 (IntKind.wrap IntKind.i64 (s2 + 1)), Tree.int IntKind.i64 (IntKind.wrap IntKind.i64 (s3 + 1))]) := by kernel_rfl

theorem e81 (n : Nat) (a00 : List UInt8) (a01 : List Tree) : evQ (Tab.env tab) n 81 [Tree.agg [Tree.str a00, Tree.slc a01]] = bif a00 == [78, 97, 116] then some (Tree.bool
 ((↑(List.length a01) : Int) == 0)) else bif a00 == [84, 111] then bif (↑(List.length a01) : Int) == 2 then Option.bind (nth a01 (Int.toNat 0)) fun y => bif Sh.ok (Sh.agg
 [Sh.str, Sh.slc]) y then Option.bind (evP (Tab.env tab) n 81 [Tree.agg [Tree.str (Tree.toStr (List.headD (Tree.cs y) (Tree.bool false))), Tree.slc (Tree.elems (List.headD
 (List.tail (Tree.cs y)) (Tree.bool false)))]]) fun y => bif Sh.ok Sh.bool y then bif Tree.toBool y then Option.bind (nth a01 (Int.toNat 1)) fun y => bif Sh.ok (Sh.agg
 [Sh.str, Sh.slc]) y then Option.bind (evP (Tab.env tab) n 81 [Tree.agg [Tree.str (Tree.toStr (List.headD (Tree.cs y) (Tree.bool false))), Tree.slc (Tree.elems (List.headD
 (List.tail (Tree.cs y)) (Tree.bool false)))]]) fun y => bif Sh.ok Sh.bool y then some (Tree.bool (Tree.toBool y)) else none else none else some (Tree.bool false) else
 none else none else some (Tree.bool false) else bif a00 == [80, 97, 105, 114] then bif (↑(List.length a01) : Int) == 2 then Option.bind (nth a01 (Int.toNat 0)) fun y =>
 bif Sh.ok (Sh.agg [Sh.str, Sh.slc]) y then Option.bind (evP (Tab.env tab) n 81 [Tree.agg [Tree.str (Tree.toStr (List.headD (Tree.cs y) (Tree.bool false))), Tree.slc
 (Tree.elems (List.headD (List.tail (Tree.cs y)) (Tree.bool false)))]]) fun y => bif Sh.ok Sh.bool y then bif Tree.toBool y then Option.bind (nth a01 (Int.toNat 1)) fun y
 => bif Sh.ok (Sh.agg [Sh.str, Sh.slc]) y then Option.bind (evP (Tab.env tab) n 81 [Tree.agg [Tree.str (Tree.toStr (List.headD (Tree.cs y) (Tree.bool false))), Tree.slc
 (Tree.elems (List.headD (List.tail (Tree.cs y)) (Tree.bool false)))]]) fun y => bif Sh.ok Sh.bool y then some (Tree.bool (Tree.toBool y)) else none else none else some
 (Tree.bool false) else none else none else some (Tree.bool false) else some (Tree.bool false) := by kernel_rfl

theorem e78 (n : Nat) (a0 : List Tree) (a1 : List Tree) (a2g : Nat) (a2p : List Tree) (a2c : List Tree) : evQ (Tab.env tab) n 78 [Tree.slc a0, Tree.slc a1, Tree.fn a2g a2p
 a2c] = bif (↑(List.length a0) : Int) != (↑(List.length a1) : Int) then some (Tree.bool false) else L78_0 n n a1 a2g a2p a2c a0 (↑(List.length a0) : Int) 0 := by
 kernel_rfl

theorem l78_0 (n q : Nat) (s1 : List Tree) (s2g : Nat) (s2p : List Tree) (s2c : List Tree) (s15 : List Tree) (s16 : Int) (s17 : Int) : L78_0 n (Nat.succ q) s1 s2g s2p s2c
 s15 s16 s17 = bif decide (s17 < s16) then bif decide (0 ≤ s17) then Option.bind (nth s15 (Int.toNat s17)) fun y => bif Sh.ok (Sh.agg [Sh.str, Sh.slc]) y then bif decide
 (0 ≤ s17) then Option.bind (nth s1 (Int.toNat s17)) fun y_1 => bif Sh.ok (Sh.agg [Sh.str, Sh.slc]) y_1 then Option.bind (evP (Tab.env tab) n s2g (s2p ++ [Tree.agg
 [Tree.str (Tree.toStr (List.headD (Tree.cs y) (Tree.bool false))), Tree.slc (Tree.elems (List.headD (List.tail (Tree.cs y)) (Tree.bool false)))], Tree.agg [Tree.str
 (Tree.toStr (List.headD (Tree.cs y_1) (Tree.bool false))), Tree.slc (Tree.elems (List.headD (List.tail (Tree.cs y_1)) (Tree.bool false)))]] ++ s2c)) fun y => bif Sh.ok
 Sh.bool y then bif !Tree.toBool y then some (Tree.bool false) else L78_0 n q s1 s2g s2p s2c s15 s16 (IntKind.wrap IntKind.i64 (s17 + 1)) else none else none else none
 else none else none else some (Tree.bool true) := by kernel_rfl

theorem e56 (n : Nat) (a00 : List UInt8) (a01 : List Tree) (a10 : List UInt8) (a11 : List Tree) : evQ (Tab.env tab) n 56 [Tree.agg [Tree.str a00, Tree.slc a01], Tree.agg
 [Tree.str a10, Tree.slc a11]] = bif a00 == a10 then Option.bind (evP (Tab.env tab) n 78 [Tree.slc a01, Tree.slc a11, Tree.fn 56 [] []]) fun y => bif Sh.ok Sh.bool y then
 some (Tree.bool (Tree.toBool y)) else none else some (Tree.bool false) := by kernel_rfl

theorem e64 (n : Nat) (a00 : Int) (a01 : Int) (a02 : List UInt8) (a03 : List Tree) (a04 : List Tree) (a1 : Int) : evQ (Tab.env tab) n 64 [Tree.agg [Tree.int IntKind.i64
 a00, Tree.int IntKind.i64 a01, Tree.str a02, Tree.slc a03, Tree.slc a04], Tree.int IntKind.i64 a1] = bif a00 == a1 then Option.bind (evP (Tab.env tab) n 73 [Tree.int
 IntKind.i64 a1]) fun y => bif Sh.ok (Sh.int IntKind.i64) y then some (Tree.bool ((↑(List.length a04) : Int) == Tree.toInt y)) else none else some (Tree.bool false) := by
 kernel_rfl

theorem e66 (n : Nat) (a00 : List UInt8) (a01 : List Tree) : evQ (Tab.env tab) n 66 [Tree.agg [Tree.str a00, Tree.slc a01]] = Option.bind (evP (Tab.env tab) n 84 [Tree.agg
 [Tree.str a00, Tree.slc a01]]) fun y => bif Sh.ok (Sh.tup [Sh.int IntKind.i64, Sh.int IntKind.i64]) y then bif decide (Tree.toInt (List.headD (Tree.tupl y) (Tree.bool
 false)) ≤ 60) then bif decide (Tree.toInt (List.headD (List.tail (Tree.tupl y)) (Tree.bool false)) ≤ 12) then Option.bind (evP (Tab.env tab) n 85 [Tree.agg [Tree.str a00,
 Tree.slc a01]]) fun y => bif Sh.ok Sh.bool y then some (Tree.bool (Tree.toBool y)) else none else some (Tree.bool false) else some (Tree.bool false) else none := by
 kernel_rfl

theorem e65 (n : Nat) (a0 : Int) : evQ (Tab.env tab) n 65 [Tree.int IntKind.i64 a0] = bif a0 == 1 then some (Tree.int IntKind.i64 0) else bif a0 == 4 then some (Tree.int
 IntKind.i64 0) else bif a0 == 2 then some (Tree.int IntKind.i64 1) else bif a0 == 5 then some (Tree.int IntKind.i64 1) else bif a0 == 8 then some (Tree.int IntKind.i64 1)
 else bif a0 == 9 then some (Tree.int IntKind.i64 1) else bif a0 == 3 then some (Tree.int IntKind.i64 2) else bif a0 == 7 then some (Tree.int IntKind.i64 2) else bif a0 ==
 6 then some (Tree.int IntKind.i64 3) else some (Tree.int IntKind.i64 (-1)) := by kernel_rfl

theorem e84 (n : Nat) (a00 : List UInt8) (a01 : List Tree) : evQ (Tab.env tab) n 84 [Tree.agg [Tree.str a00, Tree.slc a01]] = L84_0 n n 1 0 0 a00 a01 := by kernel_rfl

theorem l84_0 (n q : Nat) (s4 : Int) (s5 : Int) (s6 : Int) (h0_0_0 : List UInt8) (h0_0_1 : List Tree) : L84_0 n (Nat.succ q) s4 s5 s6 h0_0_0 h0_0_1 = bif decide (s6 <
 (↑(List.length h0_0_1) : Int)) then bif decide (0 ≤ s6) then Option.bind (nth h0_0_1 (Int.toNat s6)) fun y => bif Sh.ok (Sh.agg [Sh.str, Sh.slc]) y then Option.bind (evP
 (Tab.env tab) n 84 [Tree.agg [Tree.str (Tree.toStr (List.headD (Tree.cs y) (Tree.bool false))), Tree.slc (Tree.elems (List.headD (List.tail (Tree.cs y)) (Tree.bool
 false)))]]) fun y => bif Sh.ok (Sh.tup [Sh.int IntKind.i64, Sh.int IntKind.i64]) y then L84_0 n q (IntKind.wrap IntKind.i64 (s4 + Tree.toInt (List.headD (Tree.tupl y)
 (Tree.bool false)))) (imax s5 (Tree.toInt (List.headD (List.tail (Tree.tupl y)) (Tree.bool false)))) (IntKind.wrap IntKind.i64 (s6 + 1)) h0_0_0 h0_0_1 else none else none
 else none else some (Tree.tup [Tree.int IntKind.i64 s4, Tree.int IntKind.i64 (IntKind.wrap IntKind.i64 (s5 + 1))]) := by kernel_rfl

theorem e85 (n : Nat) (a00 : List UInt8) (a01 : List Tree) : evQ (Tab.env tab) n 85 [Tree.agg [Tree.str a00, Tree.slc a01]] = bif a00 == [78, 97, 116] then some (Tree.bool
 ((↑(List.length a01) : Int) == 0)) else bif a00 == [84, 111] then bif (↑(List.length a01) : Int) == 2 then Option.bind (nth a01 (Int.toNat 0)) fun y => bif Sh.ok (Sh.agg
 [Sh.str, Sh.slc]) y then Option.bind (evP (Tab.env tab) n 85 [Tree.agg [Tree.str (Tree.toStr (List.headD (Tree.cs y) (Tree.bool false))), Tree.slc (Tree.elems (List.headD
 (List.tail (Tree.cs y)) (Tree.bool false)))]]) fun y => bif Sh.ok Sh.bool y then bif Tree.toBool y then Option.bind (nth a01 (Int.toNat 1)) fun y => bif Sh.ok (Sh.agg
 [Sh.str, Sh.slc]) y then Option.bind (evP (Tab.env tab) n 85 [Tree.agg [Tree.str (Tree.toStr (List.headD (Tree.cs y) (Tree.bool false))), Tree.slc (Tree.elems (List.headD
 (List.tail (Tree.cs y)) (Tree.bool false)))]]) fun y => bif Sh.ok Sh.bool y then some (Tree.bool (Tree.toBool y)) else none else none else some (Tree.bool false) else
 none else none else some (Tree.bool false) else bif a00 == [80, 97, 105, 114] then bif (↑(List.length a01) : Int) == 2 then Option.bind (nth a01 (Int.toNat 0)) fun y =>
 bif Sh.ok (Sh.agg [Sh.str, Sh.slc]) y then Option.bind (evP (Tab.env tab) n 85 [Tree.agg [Tree.str (Tree.toStr (List.headD (Tree.cs y) (Tree.bool false))), Tree.slc
 (Tree.elems (List.headD (List.tail (Tree.cs y)) (Tree.bool false)))]]) fun y => bif Sh.ok Sh.bool y then bif Tree.toBool y then Option.bind (nth a01 (Int.toNat 1)) fun y
 => bif Sh.ok (Sh.agg [Sh.str, Sh.slc]) y then Option.bind (evP (Tab.env tab) n 85 [Tree.agg [Tree.str (Tree.toStr (List.headD (Tree.cs y) (Tree.bool false))), Tree.slc
 (Tree.elems (List.headD (List.tail (Tree.cs y)) (Tree.bool false)))]]) fun y => bif Sh.ok Sh.bool y then some (Tree.bool (Tree.toBool y)) else none else none else some
 (Tree.bool false) else none else none else some (Tree.bool false) else some (Tree.bool false) := by kernel_rfl

theorem e68 (n : Nat) (a00 : Int) (a01 : Int) (a02 : List UInt8) (a03 : List Tree) (a04 : List Tree) : evQ (Tab.env tab) n 68 [Tree.agg [Tree.int IntKind.i64 a00, Tree.int
 IntKind.i64 a01, Tree.str a02, Tree.slc a03, Tree.slc a04]] = Option.bind (evP (Tab.env tab) n 65 [Tree.int IntKind.i64 a00]) fun y => bif Sh.ok (Sh.int IntKind.i64) y
 then some (Tree.bool (Tree.toInt y == (↑(List.length a04) : Int))) else none := by kernel_rfl

theorem e69 (n : Nat) (a00 : Int) (a01 : Int) (a02 : List UInt8) (a03 : List Tree) (a04 : List Tree) : evQ (Tab.env tab) n 69 [Tree.agg [Tree.int IntKind.i64 a00, Tree.int
 IntKind.i64 a01, Tree.str a02, Tree.slc a03, Tree.slc a04]] = bif a00 == 4 then Option.bind (evP (Tab.env tab) n 68 [Tree.agg [Tree.int IntKind.i64 a00, Tree.int
 IntKind.i64 a01, Tree.str a02, Tree.slc a03, Tree.slc a04]]) fun y => bif Sh.ok Sh.bool y then some (Tree.bool (Tree.toBool y)) else none else some (Tree.bool false) :=
 by kernel_rfl

theorem e77 (n : Nat) (a00 : Int) (a01 : Int) (a02 : List UInt8) (a03 : List Tree) (a04 : List Tree) : evQ (Tab.env tab) n 77 [Tree.agg [Tree.int IntKind.i64 a00, Tree.int
 IntKind.i64 a01, Tree.str a02, Tree.slc a03, Tree.slc a04]] = bif a00 == 2 then Option.bind (evP (Tab.env tab) n 68 [Tree.agg [Tree.int IntKind.i64 a00, Tree.int
 IntKind.i64 a01, Tree.str a02, Tree.slc a03, Tree.slc a04]]) fun y => bif Sh.ok Sh.bool y then bif Tree.toBool y then some (Tree.int IntKind.i64 1) else some (Tree.int
 IntKind.i64 0) else none else some (Tree.int IntKind.i64 0) := by kernel_rfl

theorem e60 (n : Nat) (a00 : List UInt8) (a01 : List Tree) : evQ (Tab.env tab) n 60 [Tree.agg [Tree.str a00, Tree.slc a01]] = Option.bind (evP (Tab.env tab) n 80 [Tree.agg
 [Tree.str a00, Tree.slc a01]]) fun y => bif Sh.ok (Sh.tup [Sh.int IntKind.i64, Sh.int IntKind.i64]) y then bif decide (Tree.toInt (List.headD (Tree.tupl y) (Tree.bool
 false)) ≤ 60) then bif decide (Tree.toInt (List.headD (List.tail (Tree.tupl y)) (Tree.bool false)) ≤ 12) then Option.bind (evP (Tab.env tab) n 81 [Tree.agg [Tree.str a00,
 Tree.slc a01]]) fun y => bif Sh.ok Sh.bool y then some (Tree.bool (Tree.toBool y)) else none else some (Tree.bool false) else some (Tree.bool false) else none := by
 kernel_rfl

theorem e59 (n : Nat) (a00 : List UInt8) (a01 : List Tree) : evQ (Tab.env tab) n 59 [Tree.agg [Tree.str a00, Tree.slc a01]] = Option.bind (evP (Tab.env tab) n 60 [Tree.agg
 [Tree.str a00, Tree.slc a01]]) fun y => bif Sh.ok Sh.bool y then some (Tree.bool !Tree.toBool y) else none := by kernel_rfl

theorem e79 (n : Nat) (a0 : List Tree) (a1g : Nat) (a1p : List Tree) (a1c : List Tree) : evQ (Tab.env tab) n 79 [Tree.slc a0, Tree.fn a1g a1p a1c] = L79_0 n n a0 a1g a1p
 a1c (↑(List.length a0) : Int) 0 := by kernel_rfl

theorem l79_0 (n q : Nat) (s0 : List Tree) (s1g : Nat) (s1p : List Tree) (s1c : List Tree) (s7 : Int) (s8 : Int) : L79_0 n (Nat.succ q) s0 s1g s1p s1c s7 s8 = bif decide
 (s8 < s7) then bif decide (0 ≤ s8) then Option.bind (nth s0 (Int.toNat s8)) fun y => bif Sh.ok (Sh.agg [Sh.str, Sh.slc]) y then Option.bind (evP (Tab.env tab) n s1g (s1p
 ++ [Tree.agg [Tree.str (Tree.toStr (List.headD (Tree.cs y) (Tree.bool false))), Tree.slc (Tree.elems (List.headD (List.tail (Tree.cs y)) (Tree.bool false)))]] ++ s1c))
 fun y => bif Sh.ok Sh.bool y then bif Tree.toBool y then some (Tree.int IntKind.i64 s8) else L79_0 n q s0 s1g s1p s1c s7 (IntKind.wrap IntKind.i64 (s8 + 1)) else none
 else none else none else some (Tree.int IntKind.i64 (-1)) := by kernel_rfl

theorem e58 (n : Nat) (a0 : List Tree) (a1g : Nat) (a1p : List Tree) (a1c : List Tree) : evQ (Tab.env tab) n 58 [Tree.slc a0, Tree.fn a1g a1p a1c] = Option.bind (evP
 (Tab.env tab) n 79 [Tree.slc a0, Tree.fn a1g a1p a1c]) fun y => bif Sh.ok (Sh.int IntKind.i64) y then some (Tree.bool (decide (Tree.toInt y ≥ 0))) else none := by
 kernel_rfl

theorem e82 (n : Nat) (a00 : List UInt8) (a01 : List Tree) (a10 : List UInt8) (a11 : List Tree) : evQ (Tab.env tab) n 82 [Tree.agg [Tree.str a00, Tree.slc a01], Tree.agg
 [Tree.str a10, Tree.slc a11]] = some (Tree.agg [Tree.str [84, 111], Tree.slc [Tree.agg [Tree.str a00, Tree.slc a01], Tree.agg [Tree.str a10, Tree.slc a11]]]) := by
 kernel_rfl

theorem e83 (n : Nat) : evQ (Tab.env tab) n 83 [] = some (Tree.agg [Tree.str [78, 97, 116], Tree.slc []]) := by kernel_rfl

theorem e62 (n : Nat) (a0 : List Tree) (a10 : Int) (a11 : Int) (a12 : List UInt8) (a13 : List Tree) (a14 : List Tree) (a2 : List Tree) : evQ (Tab.env tab) n 62 [Tree.slc
 a0, Tree.agg [Tree.int IntKind.i64 a10, Tree.int IntKind.i64 a11, Tree.str a12, Tree.slc a13, Tree.slc a14], Tree.slc a2] = bif a10 == 1 then bif decide (a11 <
 (↑(List.length a0) : Int)) then bif decide (0 ≤ IntKind.wrap IntKind.i64 (IntKind.wrap IntKind.i64 ((↑(List.length a0) : Int) - 1) - a11)) then Option.bind (nth a0
 (Int.toNat (IntKind.wrap IntKind.i64 (IntKind.wrap IntKind.i64 ((↑(List.length a0) : Int) - 1) - a11)))) fun y => bif Sh.ok (Sh.agg [Sh.str, Sh.slc]) y then some
 (Tree.tup [Tree.agg [Tree.str (Tree.toStr (List.headD (Tree.cs y) (Tree.bool false))), Tree.slc (Tree.elems (List.headD (List.tail (Tree.cs y)) (Tree.bool false)))],
 Tree.bool true]) else none else none else some (Tree.tup [Tree.agg [Tree.str [], Tree.slc []], Tree.bool false]) else bif a10 == 2 then Option.bind (nth a2 (Int.toNat 0))
 fun y => bif Sh.ok (Sh.agg [Sh.str, Sh.slc]) y then Option.bind (evP (Tab.env tab) n 82 [Tree.agg [Tree.str a12, Tree.slc a13], Tree.agg [Tree.str (Tree.toStr (List.headD
 (Tree.cs y) (Tree.bool false))), Tree.slc (Tree.elems (List.headD (List.tail (Tree.cs y)) (Tree.bool false)))]]) fun y => bif Sh.ok (Sh.agg [Sh.str, Sh.slc]) y then some
 (Tree.tup [Tree.agg [Tree.str (Tree.toStr (List.headD (Tree.cs y) (Tree.bool false))), Tree.slc (Tree.elems (List.headD (List.tail (Tree.cs y)) (Tree.bool false)))],
 Tree.bool true]) else none else none else bif a10 == 3 then Option.bind (nth a2 (Int.toNat 0)) fun y => bif Sh.ok (Sh.agg [Sh.str, Sh.slc]) y then bif Tree.toStr
 (List.headD (Tree.cs y) (Tree.bool false)) == [84, 111] then Option.bind (nth a2 (Int.toNat 0)) fun y => bif Sh.ok (Sh.agg [Sh.str, Sh.slc]) y then Option.bind (nth
 (Tree.elems (List.headD (List.tail (Tree.cs y)) (Tree.bool false))) (Int.toNat 0)) fun y => bif Sh.ok (Sh.agg [Sh.str, Sh.slc]) y then Option.bind (nth a2 (Int.toNat 1))
 fun y_1 => bif Sh.ok (Sh.agg [Sh.str, Sh.slc]) y_1 then Option.bind (evP (Tab.env tab) n 56 [Tree.agg [Tree.str (Tree.toStr (List.headD (Tree.cs y) (Tree.bool false))),
 Tree.slc (Tree.elems (List.headD (List.tail (Tree.cs y)) (Tree.bool false)))], Tree.agg [Tree.str (Tree.toStr (List.headD (Tree.cs y_1) (Tree.bool false))), Tree.slc
 (Tree.elems (List.headD (List.tail (Tree.cs y_1)) (Tree.bool false)))]]) fun y => bif Sh.ok Sh.bool y then bif Tree.toBool y then Option.bind (nth a2 (Int.toNat 0)) fun y
 => bif Sh.ok (Sh.agg [Sh.str, Sh.slc]) y then Option.bind (nth (Tree.elems (List.headD (List.tail (Tree.cs y)) (Tree.bool false))) (Int.toNat 1)) fun y => bif Sh.ok
 (Sh.agg [Sh.str, Sh.slc]) y then some (Tree.tup [Tree.agg [Tree.str (Tree.toStr (List.headD (Tree.cs y) (Tree.bool false))), Tree.slc (Tree.elems (List.headD (List.tail
 (Tree.cs y)) (Tree.bool false)))], Tree.bool true]) else none else none else some (Tree.tup [Tree.agg [Tree.str [], Tree.slc []], Tree.bool false]) else none else none
 else none else none else some (Tree.tup [Tree.agg [Tree.str [], Tree.slc []], Tree.bool false]) else none else bif a10 == 4 then Option.bind (evP (Tab.env tab) n 83 [])
 fun y => bif Sh.ok (Sh.agg [Sh.str, Sh.slc]) y then some (Tree.tup [Tree.agg [Tree.str (Tree.toStr (List.headD (Tree.cs y) (Tree.bool false))), Tree.slc (Tree.elems
 (List.headD (List.tail (Tree.cs y)) (Tree.bool false)))], Tree.bool true]) else none else bif a10 == 5 then Option.bind (evP (Tab.env tab) n 83 []) fun y => bif Sh.ok
 (Sh.agg [Sh.str, Sh.slc]) y then Option.bind (nth a2 (Int.toNat 0)) fun y_1 => bif Sh.ok (Sh.agg [Sh.str, Sh.slc]) y_1 then some (Tree.tup [Tree.agg [Tree.str (Tree.toStr
 (List.headD (Tree.cs y) (Tree.bool false))), Tree.slc (Tree.elems (List.headD (List.tail (Tree.cs y)) (Tree.bool false)))], Tree.bool (Tree.toStr (List.headD (Tree.cs
 y_1) (Tree.bool false)) == [78, 97, 116])]) else none else none else bif a10 == 6 then Option.bind (nth a2 (Int.toNat 2)) fun y => bif Sh.ok (Sh.agg [Sh.str, Sh.slc]) y
 then Option.bind (nth a2 (Int.toNat 0)) fun y_1 => bif Sh.ok (Sh.agg [Sh.str, Sh.slc]) y_1 then bif Tree.toStr (List.headD (Tree.cs y_1) (Tree.bool false)) == [78, 97,
 116] then Option.bind (nth a2 (Int.toNat 1)) fun y_2 => bif Sh.ok (Sh.agg [Sh.str, Sh.slc]) y_2 then Option.bind (nth a2 (Int.toNat 2)) fun y_3 => bif Sh.ok (Sh.agg
 [Sh.str, Sh.slc]) y_3 then Option.bind (nth a2 (Int.toNat 2)) fun y_4 => bif Sh.ok (Sh.agg [Sh.str, Sh.slc]) y_4 then Option.bind (evP (Tab.env tab) n 82 [Tree.agg
 [Tree.str (Tree.toStr (List.headD (Tree.cs y_3) (Tree.bool false))), Tree.slc (Tree.elems (List.headD (List.tail (Tree.cs y_3)) (Tree.bool false)))], Tree.agg [Tree.str
 (Tree.toStr (List.headD (Tree.cs y_4) (Tree.bool false))), Tree.slc (Tree.elems (List.headD (List.tail (Tree.cs y_4)) (Tree.bool false)))]]) fun y_5 => bif Sh.ok (Sh.agg
 [Sh.str, Sh.slc]) y_5 then Option.bind (evP (Tab.env tab) n 56 [Tree.agg [Tree.str (Tree.toStr (List.headD (Tree.cs y_2) (Tree.bool false))), Tree.slc (Tree.elems
 (List.headD (List.tail (Tree.cs y_2)) (Tree.bool false)))], Tree.agg [Tree.str (Tree.toStr (List.headD (Tree.cs y_5) (Tree.bool false))), Tree.slc (Tree.elems (List.headD
 (List.tail (Tree.cs y_5)) (Tree.bool false)))]]) fun y_6 => bif Sh.ok Sh.bool y_6 then some (Tree.tup [Tree.agg [Tree.str (Tree.toStr (List.headD (Tree.cs y) (Tree.bool
 false))), Tree.slc (Tree.elems (List.headD (List.tail (Tree.cs y)) (Tree.bool false)))], Tree.bool (Tree.toBool y_6)]) else none else none else none else none else none
 else some (Tree.tup [Tree.agg [Tree.str (Tree.toStr (List.headD (Tree.cs y) (Tree.bool false))), Tree.slc (Tree.elems (List.headD (List.tail (Tree.cs y)) (Tree.bool
 false)))], Tree.bool false]) else none else none else bif a10 == 7 then some (Tree.tup [Tree.agg [Tree.str [80, 97, 105, 114], Tree.slc a2], Tree.bool true]) else bif a10
 == 8 then Option.bind (nth a2 (Int.toNat 0)) fun y => bif Sh.ok (Sh.agg [Sh.str, Sh.slc]) y then bif Tree.toStr (List.headD (Tree.cs y) (Tree.bool false)) == [80, 97,
 105, 114] then Option.bind (nth a2 (Int.toNat 0)) fun y => bif Sh.ok (Sh.agg [Sh.str, Sh.slc]) y then bif decide (0 ≤ IntKind.wrap IntKind.i64 (a10 - 8)) then Option.bind
 (nth (Tree.elems (List.headD (List.tail (Tree.cs y)) (Tree.bool false))) (Int.toNat (IntKind.wrap IntKind.i64 (a10 - 8)))) fun y => bif Sh.ok (Sh.agg [Sh.str, Sh.slc]) y
 then some (Tree.tup [Tree.agg [Tree.str (Tree.toStr (List.headD (Tree.cs y) (Tree.bool false))), Tree.slc (Tree.elems (List.headD (List.tail (Tree.cs y)) (Tree.bool
 false)))], Tree.bool true]) else none else none else none else some (Tree.tup [Tree.agg [Tree.str [], Tree.slc []], Tree.bool false]) else none else bif a10 == 9 then
 Option.bind (nth a2 (Int.toNat 0)) fun y => bif Sh.ok (Sh.agg [Sh.str, Sh.slc]) y then bif Tree.toStr (List.headD (Tree.cs y) (Tree.bool false)) == [80, 97, 105, 114]
 then Option.bind (nth a2 (Int.toNat 0)) fun y => bif Sh.ok (Sh.agg [Sh.str, Sh.slc]) y then bif decide (0 ≤ IntKind.wrap IntKind.i64 (a10 - 8)) then Option.bind (nth
 (Tree.elems (List.headD (List.tail (Tree.cs y)) (Tree.bool false))) (Int.toNat (IntKind.wrap IntKind.i64 (a10 - 8)))) fun y => bif Sh.ok (Sh.agg [Sh.str, Sh.slc]) y then
 some (Tree.tup [Tree.agg [Tree.str (Tree.toStr (List.headD (Tree.cs y) (Tree.bool false))), Tree.slc (Tree.elems (List.headD (List.tail (Tree.cs y)) (Tree.bool false)))],
 Tree.bool true]) else none else none else none else some (Tree.tup [Tree.agg [Tree.str [], Tree.slc []], Tree.bool false]) else none else some (Tree.tup [Tree.agg
 [Tree.str [], Tree.slc []], Tree.bool false]) := by kernel_rfl

theorem e86 (n : Nat) (a0 : List Tree) (a1g : Nat) (a1p : List Tree) (a1c : List Tree) : evQ (Tab.env tab) n 86 [Tree.slc a0, Tree.fn a1g a1p a1c] = L86_0 n n a0 a1g a1p
 a1c (↑(List.length a0) : Int) 0 := by kernel_rfl

theorem l86_0 (n q : Nat) (s0 : List Tree) (s1g : Nat) (s1p : List Tree) (s1c : List Tree) (s7 : Int) (s8 : Int) : L86_0 n (Nat.succ q) s0 s1g s1p s1c s7 s8 = bif decide
 (s8 < s7) then bif decide (0 ≤ s8) then Option.bind (nth s0 (Int.toNat s8)) fun y => bif Sh.ok (Sh.agg [Sh.int IntKind.i64, Sh.int IntKind.i64, Sh.str, Sh.slc, Sh.slc]) y
 then Option.bind (evP (Tab.env tab) n s1g (s1p ++ [Tree.agg [Tree.int IntKind.i64 (Tree.toInt (List.headD (Tree.cs y) (Tree.bool false))), Tree.int IntKind.i64
 (Tree.toInt (List.headD (List.tail (Tree.cs y)) (Tree.bool false))), Tree.str (Tree.toStr (List.headD (List.tail (List.tail (Tree.cs y))) (Tree.bool false))), Tree.slc
 (Tree.elems (List.headD (List.tail (List.tail (List.tail (Tree.cs y)))) (Tree.bool false))), Tree.slc (Tree.elems (List.headD (List.tail (List.tail (List.tail (List.tail
 (Tree.cs y))))) (Tree.bool false)))]] ++ s1c)) fun y => bif Sh.ok Sh.bool y then bif Tree.toBool y then some (Tree.int IntKind.i64 s8) else L86_0 n q s0 s1g s1p s1c s7
 (IntKind.wrap IntKind.i64 (s8 + 1)) else none else none else none else some (Tree.int IntKind.i64 (-1)) := by kernel_rfl

theorem e75 (n : Nat) (a0 : List Tree) (a1g : Nat) (a1p : List Tree) (a1c : List Tree) : evQ (Tab.env tab) n 75 [Tree.slc a0, Tree.fn a1g a1p a1c] = Option.bind (evP
 (Tab.env tab) n 86 [Tree.slc a0, Tree.fn a1g a1p a1c]) fun y => bif Sh.ok (Sh.int IntKind.i64) y then some (Tree.bool (decide (Tree.toInt y ≥ 0))) else none := by
 kernel_rfl

theorem e76 (n : Nat) (a00 : Int) (a01 : Int) (a02 : List UInt8) (a03 : List Tree) (a04 : List Tree) : evQ (Tab.env tab) n 76 [Tree.agg [Tree.int IntKind.i64 a00, Tree.int
 IntKind.i64 a01, Tree.str a02, Tree.slc a03, Tree.slc a04]] = Option.bind (evP (Tab.env tab) n 51 [Tree.agg [Tree.int IntKind.i64 a00, Tree.int IntKind.i64 a01, Tree.str
 a02, Tree.slc a03, Tree.slc a04]]) fun y => bif Sh.ok Sh.bool y then some (Tree.bool !Tree.toBool y) else none := by kernel_rfl

theorem e51 (n : Nat) (a00 : Int) (a01 : Int) (a02 : List UInt8) (a03 : List Tree) (a04 : List Tree) : evQ (Tab.env tab) n 51 [Tree.agg [Tree.int IntKind.i64 a00, Tree.int
 IntKind.i64 a01, Tree.str a02, Tree.slc a03, Tree.slc a04]] = bif a00 == 1 then Option.bind (evP (Tab.env tab) n 73 [Tree.int IntKind.i64 a00]) fun y => bif Sh.ok (Sh.int
 IntKind.i64) y then bif (↑(List.length a04) : Int) != Tree.toInt y then some (Tree.bool false) else bif decide (a01 < 0) then some (Tree.bool false) else bif decide (a01
 > 200) then some (Tree.bool false) else bif a00 == 2 then Option.bind (evP (Tab.env tab) n 60 [Tree.agg [Tree.str a02, Tree.slc a03]]) fun y => bif Sh.ok Sh.bool y then
 bif !Tree.toBool y then some (Tree.bool false) else bif a00 != 2 then Option.bind (evP (Tab.env tab) n 74 [Tree.agg [Tree.str a02, Tree.slc a03]]) fun y => bif Sh.ok
 Sh.bool y then bif !Tree.toBool y then some (Tree.bool false) else Option.bind (evP (Tab.env tab) n 75 [Tree.slc a04, Tree.fn 76 [] []]) fun y => bif Sh.ok Sh.bool y then
 some (Tree.bool !Tree.toBool y) else none else none else Option.bind (evP (Tab.env tab) n 75 [Tree.slc a04, Tree.fn 76 [] []]) fun y => bif Sh.ok Sh.bool y then some
 (Tree.bool !Tree.toBool y) else none else none else bif a00 != 2 then Option.bind (evP (Tab.env tab) n 74 [Tree.agg [Tree.str a02, Tree.slc a03]]) fun y => bif Sh.ok
 Sh.bool y then bif !Tree.toBool y then some (Tree.bool false) else Option.bind (evP (Tab.env tab) n 75 [Tree.slc a04, Tree.fn 76 [] []]) fun y => bif Sh.ok Sh.bool y then
 some (Tree.bool !Tree.toBool y) else none else none else Option.bind (evP (Tab.env tab) n 75 [Tree.slc a04, Tree.fn 76 [] []]) fun y => bif Sh.ok Sh.bool y then some
 (Tree.bool !Tree.toBool y) else none else none else bif a00 == 4 then Option.bind (evP (Tab.env tab) n 73 [Tree.int IntKind.i64 a00]) fun y => bif Sh.ok (Sh.int
 IntKind.i64) y then bif (↑(List.length a04) : Int) != Tree.toInt y then some (Tree.bool false) else bif decide (a01 < 0) then some (Tree.bool false) else bif decide (a01
 > 1000) then some (Tree.bool false) else bif a00 == 2 then Option.bind (evP (Tab.env tab) n 60 [Tree.agg [Tree.str a02, Tree.slc a03]]) fun y => bif Sh.ok Sh.bool y then
 bif !Tree.toBool y then some (Tree.bool false) else bif a00 != 2 then Option.bind (evP (Tab.env tab) n 74 [Tree.agg [Tree.str a02, Tree.slc a03]]) fun y => bif Sh.ok
 Sh.bool y then bif !Tree.toBool y then some (Tree.bool false) else Option.bind (evP (Tab.env tab) n 75 [Tree.slc a04, Tree.fn 76 [] []]) fun y => bif Sh.ok Sh.bool y then
 some (Tree.bool !Tree.toBool y) else none else none else Option.bind (evP (Tab.env tab) n 75 [Tree.slc a04, Tree.fn 76 [] []]) fun y => bif Sh.ok Sh.bool y then some
 (Tree.bool !Tree.toBool y) else none else none else bif a00 != 2 then Option.bind (evP (Tab.env tab) n 74 [Tree.agg [Tree.str a02, Tree.slc a03]]) fun y => bif Sh.ok
 Sh.bool y then bif !Tree.toBool y then some (Tree.bool false) else Option.bind (evP (Tab.env tab) n 75 [Tree.slc a04, Tree.fn 76 [] []]) fun y => bif Sh.ok Sh.bool y then
 some (Tree.bool !Tree.toBool y) else none else none else Option.bind (evP (Tab.env tab) n 75 [Tree.slc a04, Tree.fn 76 [] []]) fun y => bif Sh.ok Sh.bool y then some
 (Tree.bool !Tree.toBool y) else none else none else Option.bind (evP (Tab.env tab) n 73 [Tree.int IntKind.i64 a00]) fun y => bif Sh.ok (Sh.int IntKind.i64) y then bif
 (↑(List.length a04) : Int) != Tree.toInt y then some (Tree.bool false) else bif decide (a01 < 0) then some (Tree.bool false) else bif decide (a01 > 0) then some
 (Tree.bool false) else bif a00 == 2 then Option.bind (evP (Tab.env tab) n 60 [Tree.agg [Tree.str a02, Tree.slc a03]]) fun y => bif Sh.ok Sh.bool y then bif !Tree.toBool y
 then some (Tree.bool false) else bif a00 != 2 then Option.bind (evP (Tab.env tab) n 74 [Tree.agg [Tree.str a02, Tree.slc a03]]) fun y => bif Sh.ok Sh.bool y then bif
 !Tree.toBool y then some (Tree.bool false) else Option.bind (evP (Tab.env tab) n 75 [Tree.slc a04, Tree.fn 76 [] []]) fun y => bif Sh.ok Sh.bool y then some (Tree.bool
 !Tree.toBool y) else none else none else Option.bind (evP (Tab.env tab) n 75 [Tree.slc a04, Tree.fn 76 [] []]) fun y => bif Sh.ok Sh.bool y then some (Tree.bool
 !Tree.toBool y) else none else none else bif a00 != 2 then Option.bind (evP (Tab.env tab) n 74 [Tree.agg [Tree.str a02, Tree.slc a03]]) fun y => bif Sh.ok Sh.bool y then
 bif !Tree.toBool y then some (Tree.bool false) else Option.bind (evP (Tab.env tab) n 75 [Tree.slc a04, Tree.fn 76 [] []]) fun y => bif Sh.ok Sh.bool y then some
 (Tree.bool !Tree.toBool y) else none else none else Option.bind (evP (Tab.env tab) n 75 [Tree.slc a04, Tree.fn 76 [] []]) fun y => bif Sh.ok Sh.bool y then some
 (Tree.bool !Tree.toBool y) else none else none := by kernel_rfl

theorem e48 (n : Nat) (a00 : Int) (a01 : Int) (a02 : List UInt8) (a03 : List Tree) (a04 : List Tree) : evQ (Tab.env tab) n 48 [Tree.agg [Tree.int IntKind.i64 a00, Tree.int
 IntKind.i64 a01, Tree.str a02, Tree.slc a03, Tree.slc a04]] = L48_0 n n 0 0 a04 (↑(List.length a04) : Int) 0 := by kernel_rfl

theorem l48_0 (n q : Nat) (s2 : Int) (s3 : Int) (s9 : List Tree) (s10 : Int) (s11 : Int) : L48_0 n (Nat.succ q) s2 s3 s9 s10 s11 = bif decide (s11 < s10) then bif decide
 (0 ≤ s11) then Option.bind (nth s9 (Int.toNat s11)) fun y => bif Sh.ok (Sh.agg [Sh.int IntKind.i64, Sh.int IntKind.i64, Sh.str, Sh.slc, Sh.slc]) y then Option.bind (evP
 (Tab.env tab) n 48 [Tree.agg [Tree.int IntKind.i64 (Tree.toInt (List.headD (Tree.cs y) (Tree.bool false))), Tree.int IntKind.i64 (Tree.toInt (List.headD (List.tail
 (Tree.cs y)) (Tree.bool false))), Tree.str (Tree.toStr (List.headD (List.tail (List.tail (Tree.cs y))) (Tree.bool false))), Tree.slc (Tree.elems (List.headD (List.tail
 (List.tail (List.tail (Tree.cs y)))) (Tree.bool false))), Tree.slc (Tree.elems (List.headD (List.tail (List.tail (List.tail (List.tail (Tree.cs y))))) (Tree.bool
 false)))]]) fun y => bif Sh.ok (Sh.tup [Sh.int IntKind.i64, Sh.int IntKind.i64]) y then L48_0 n q (IntKind.wrap IntKind.i64 (s2 + Tree.toInt (List.headD (Tree.tupl y)
 (Tree.bool false)))) (imax s3 (Tree.toInt (List.headD (List.tail (Tree.tupl y)) (Tree.bool false)))) s9 s10 (IntKind.wrap IntKind.i64 (s11 + 1)) else none else none else
 none else some (Tree.tup [Tree.int IntKind.i64 (IntKind.wrap IntKind.i64 (s2 + 1)), Tree.int IntKind.i64 (IntKind.wrap IntKind.i64 (s3 + 1))]) := by kernel_rfl

theorem e30 (n : Nat) (a00 : Int) (a01 : Int) (a02 : List UInt8) (a03 : List Tree) (a04 : List Tree) : evQ (Tab.env tab) n 30 [Tree.agg [Tree.int IntKind.i64 a00, Tree.int
 IntKind.i64 a01, Tree.str a02, Tree.slc a03, Tree.slc a04]] = Option.bind (evP (Tab.env tab) n 48 [Tree.agg [Tree.int IntKind.i64 a00, Tree.int IntKind.i64 a01, Tree.str
 a02, Tree.slc a03, Tree.slc a04]]) fun y => bif Sh.ok (Sh.tup [Sh.int IntKind.i64, Sh.int IntKind.i64]) y then bif decide (Tree.toInt (List.headD (Tree.tupl y) (Tree.bool
 false)) ≤ 300) then bif decide (Tree.toInt (List.headD (List.tail (Tree.tupl y)) (Tree.bool false)) ≤ 60) then Option.bind (evP (Tab.env tab) n 51 [Tree.agg [Tree.int
 IntKind.i64 a00, Tree.int IntKind.i64 a01, Tree.str a02, Tree.slc a03, Tree.slc a04]]) fun y => bif Sh.ok Sh.bool y then some (Tree.bool (Tree.toBool y)) else none else
 some (Tree.bool false) else some (Tree.bool false) else none := by kernel_rfl

theorem e18 (n : Nat) (a00 : Int) (a01 : Int) (a02 : List UInt8) (a03 : List Tree) (a04 : List Tree) : evQ (Tab.env tab) n 18 [Tree.agg [Tree.int IntKind.i64 a00, Tree.int
 IntKind.i64 a01, Tree.str a02, Tree.slc a03, Tree.slc a04]] = Option.bind (evP (Tab.env tab) n 38 [Tree.agg [Tree.int IntKind.i64 a00, Tree.int IntKind.i64 a01, Tree.str
 a02, Tree.slc a03, Tree.slc a04]]) fun y => bif Sh.ok (Sh.tup [Sh.int IntKind.i64, Sh.int IntKind.i64]) y then bif decide (Tree.toInt (List.headD (Tree.tupl y) (Tree.bool
 false)) ≤ 300) then bif decide (Tree.toInt (List.headD (List.tail (Tree.tupl y)) (Tree.bool false)) ≤ 60) then Option.bind (evP (Tab.env tab) n 45 [Tree.agg [Tree.int
 IntKind.i64 a00, Tree.int IntKind.i64 a01, Tree.str a02, Tree.slc a03, Tree.slc a04]]) fun y => bif Sh.ok Sh.bool y then some (Tree.bool (Tree.toBool y)) else none else
 some (Tree.bool false) else some (Tree.bool false) else none := by kernel_rfl

theorem e45 (n : Nat) (a00 : Int) (a01 : Int) (a02 : List UInt8) (a03 : List Tree) (a04 : List Tree) : evQ (Tab.env tab) n 45 [Tree.agg [Tree.int IntKind.i64 a00, Tree.int
 IntKind.i64 a01, Tree.str a02, Tree.slc a03, Tree.slc a04]] = Option.bind (evP (Tab.env tab) n 65 [Tree.int IntKind.i64 a00]) fun y => bif Sh.ok (Sh.int IntKind.i64) y
 then bif Tree.toInt y != (↑(List.length a04) : Int) then some (Tree.bool false) else Option.bind (evP (Tab.env tab) n 65 [Tree.int IntKind.i64 a00]) fun y => bif Sh.ok
 (Sh.int IntKind.i64) y then bif decide (Tree.toInt y < 0) then some (Tree.bool false) else bif a00 == 2 then Option.bind (evP (Tab.env tab) n 66 [Tree.agg [Tree.str a02,
 Tree.slc a03]]) fun y => bif Sh.ok Sh.bool y then bif !Tree.toBool y then some (Tree.bool false) else bif a00 != 2 then bif !a02 == [] then some (Tree.bool false) else
 bif decide ((↑(List.length a03) : Int) > 0) then some (Tree.bool false) else bif a00 == 1 then bif decide (a01 < 0) then some (Tree.bool false) else bif decide (a01 >
 200) then some (Tree.bool false) else L45_0 n n 0 a00 a01 a02 a03 a04 else bif a00 == 4 then bif decide (a01 < 0) then some (Tree.bool false) else bif decide (a01 > 1000)
 then some (Tree.bool false) else L45_0 n n 0 a00 a01 a02 a03 a04 else bif decide (a01 < 0) then some (Tree.bool false) else bif decide (a01 > 0) then some (Tree.bool
 false) else L45_0 n n 0 a00 a01 a02 a03 a04 else bif a00 == 1 then bif decide (a01 < 0) then some (Tree.bool false) else bif decide (a01 > 200) then some (Tree.bool
 false) else L45_0 n n 0 a00 a01 a02 a03 a04 else bif a00 == 4 then bif decide (a01 < 0) then some (Tree.bool false) else bif decide (a01 > 1000) then some (Tree.bool
 false) else L45_0 n n 0 a00 a01 a02 a03 a04 else bif decide (a01 < 0) then some (Tree.bool false) else bif decide (a01 > 0) then some (Tree.bool false) else L45_0 n n 0
 a00 a01 a02 a03 a04 else none else bif a00 != 2 then bif !a02 == [] then some (Tree.bool false) else bif decide ((↑(List.length a03) : Int) > 0) then some (Tree.bool
 false) else bif a00 == 1 then bif decide (a01 < 0) then some (Tree.bool false) else bif decide (a01 > 200) then some (Tree.bool false) else L45_0 n n 0 a00 a01 a02 a03
 a04 else bif a00 == 4 then bif decide (a01 < 0) then some (Tree.bool false) else bif decide (a01 > 1000) then some (Tree.bool false) else L45_0 n n 0 a00 a01 a02 a03 a04
 else bif decide (a01 < 0) then some (Tree.bool false) else bif decide (a01 > 0) then some (Tree.bool false) else L45_0 n n 0 a00 a01 a02 a03 a04 else bif a00 == 1 then
 bif decide (a01 < 0) then some (Tree.bool false) else bif decide (a01 > 200) then some (Tree.bool false) else L45_0 n n 0 a00 a01 a02 a03 a04 else bif a00 == 4 then bif
 decide (a01 < 0) then some (Tree.bool false) else bif decide (a01 > 1000) then some (Tree.bool false) else L45_0 n n 0 a00 a01 a02 a03 a04 else bif decide (a01 < 0) then
 some (Tree.bool false) else bif decide (a01 > 0) then some (Tree.bool false) else L45_0 n n 0 a00 a01 a02 a03 a04 else none else none := by kernel_rfl

theorem l45_0 (n q : Nat) (s4 : Int) (h0_0_0 : Int) (h0_0_1 : Int) (h0_0_2 : List UInt8) (h0_0_3 : List Tree) (h0_0_4 : List Tree) : L45_0 n (Nat.succ q) s4 h0_0_0 h0_0_1
 h0_0_2 h0_0_3 h0_0_4 = bif decide (s4 < (↑(List.length h0_0_4) : Int)) then bif decide (0 ≤ s4) then Option.bind (nth h0_0_4 (Int.toNat s4)) fun y => bif Sh.ok (Sh.agg
 [Sh.int IntKind.i64, Sh.int IntKind.i64, Sh.str, Sh.slc, Sh.slc]) y then Option.bind (evP (Tab.env tab) n 45 [Tree.agg [Tree.int IntKind.i64 (Tree.toInt (List.headD
 (Tree.cs y) (Tree.bool false))), Tree.int IntKind.i64 (Tree.toInt (List.headD (List.tail (Tree.cs y)) (Tree.bool false))), Tree.str (Tree.toStr (List.headD (List.tail
 (List.tail (Tree.cs y))) (Tree.bool false))), Tree.slc (Tree.elems (List.headD (List.tail (List.tail (List.tail (Tree.cs y)))) (Tree.bool false))), Tree.slc (Tree.elems
 (List.headD (List.tail (List.tail (List.tail (List.tail (Tree.cs y))))) (Tree.bool false)))]]) fun y => bif Sh.ok Sh.bool y then bif !Tree.toBool y then some (Tree.bool
 false) else L45_0 n q (IntKind.wrap IntKind.i64 (s4 + 1)) h0_0_0 h0_0_1 h0_0_2 h0_0_3 h0_0_4 else none else none else none else some (Tree.bool true) := by kernel_rfl

theorem e38 (n : Nat) (a00 : Int) (a01 : Int) (a02 : List UInt8) (a03 : List Tree) (a04 : List Tree) : evQ (Tab.env tab) n 38 [Tree.agg [Tree.int IntKind.i64 a00, Tree.int
 IntKind.i64 a01, Tree.str a02, Tree.slc a03, Tree.slc a04]] = L38_0 n n 1 0 0 a00 a01 a02 a03 a04 := by kernel_rfl

theorem l38_0 (n q : Nat) (s4 : Int) (s5 : Int) (s6 : Int) (h0_0_0 : Int) (h0_0_1 : Int) (h0_0_2 : List UInt8) (h0_0_3 : List Tree) (h0_0_4 : List Tree) : L38_0 n
 (Nat.succ q) s4 s5 s6 h0_0_0 h0_0_1 h0_0_2 h0_0_3 h0_0_4 = bif decide (s6 < (↑(List.length h0_0_4) : Int)) then bif decide (0 ≤ s6) then Option.bind (nth h0_0_4
 (Int.toNat s6)) fun y => bif Sh.ok (Sh.agg [Sh.int IntKind.i64, Sh.int IntKind.i64, Sh.str, Sh.slc, Sh.slc]) y then Option.bind (evP (Tab.env tab) n 38 [Tree.agg
 [Tree.int IntKind.i64 (Tree.toInt (List.headD (Tree.cs y) (Tree.bool false))), Tree.int IntKind.i64 (Tree.toInt (List.headD (List.tail (Tree.cs y)) (Tree.bool false))),
 Tree.str (Tree.toStr (List.headD (List.tail (List.tail (Tree.cs y))) (Tree.bool false))), Tree.slc (Tree.elems (List.headD (List.tail (List.tail (List.tail (Tree.cs y))))
 (Tree.bool false))), Tree.slc (Tree.elems (List.headD (List.tail (List.tail (List.tail (List.tail (Tree.cs y))))) (Tree.bool false)))]]) fun y => bif Sh.ok (Sh.tup
 [Sh.int IntKind.i64, Sh.int IntKind.i64]) y then L38_0 n q (IntKind.wrap IntKind.i64 (s4 + Tree.toInt (List.headD (Tree.tupl y) (Tree.bool false)))) (imax s5 (Tree.toInt
 (List.headD (List.tail (Tree.tupl y)) (Tree.bool false)))) (IntKind.wrap IntKind.i64 (s6 + 1)) h0_0_0 h0_0_1 h0_0_2 h0_0_3 h0_0_4 else none else none else none else some
 (Tree.tup [Tree.int IntKind.i64 s4, Tree.int IntKind.i64 (IntKind.wrap IntKind.i64 (s5 + 1))]) := by kernel_rfl

theorem e16 (n : Nat) (a00 : List UInt8) (a01 : List Tree) (a10 : List UInt8) (a11 : List Tree) : evQ (Tab.env tab) n 16 [Tree.agg [Tree.str a00, Tree.slc a01], Tree.agg
 [Tree.str a10, Tree.slc a11]] = bif !a00 == a10 then some (Tree.bool false) else bif (↑(List.length a01) : Int) != (↑(List.length a11) : Int) then some (Tree.bool false)
 else L16_0 n n 0 a00 a01 a10 a11 := by kernel_rfl

theorem l16_0 (n q : Nat) (s5 : Int) (h0_0_0 : List UInt8) (h0_0_1 : List Tree) (h1_0_0 : List UInt8) (h1_0_1 : List Tree) : L16_0 n (Nat.succ q) s5 h0_0_0 h0_0_1 h1_0_0
 h1_0_1 = bif decide (s5 < (↑(List.length h0_0_1) : Int)) then bif decide (0 ≤ s5) then Option.bind (nth h0_0_1 (Int.toNat s5)) fun y => bif Sh.ok (Sh.agg [Sh.str,
 Sh.slc]) y then bif decide (0 ≤ s5) then Option.bind (nth h1_0_1 (Int.toNat s5)) fun y_1 => bif Sh.ok (Sh.agg [Sh.str, Sh.slc]) y_1 then Option.bind (evP (Tab.env tab) n
 16 [Tree.agg [Tree.str (Tree.toStr (List.headD (Tree.cs y) (Tree.bool false))), Tree.slc (Tree.elems (List.headD (List.tail (Tree.cs y)) (Tree.bool false)))], Tree.agg
 [Tree.str (Tree.toStr (List.headD (Tree.cs y_1) (Tree.bool false))), Tree.slc (Tree.elems (List.headD (List.tail (Tree.cs y_1)) (Tree.bool false)))]]) fun y => bif Sh.ok
 Sh.bool y then bif !Tree.toBool y then some (Tree.bool false) else L16_0 n q (IntKind.wrap IntKind.i64 (s5 + 1)) h0_0_0 h0_0_1 h1_0_0 h1_0_1 else none else none else none
 else none else none else some (Tree.bool true) := by kernel_rfl

theorem e22 (n : Nat) (a00 : Int) (a01 : Int) (a02 : List UInt8) (a03 : List Tree) (a04 : List Tree) (a10 : Int) (a11 : Int) (a12 : List UInt8) (a13 : List Tree) (a14 :
 List Tree) : evQ (Tab.env tab) n 22 [Tree.agg [Tree.int IntKind.i64 a00, Tree.int IntKind.i64 a01, Tree.str a02, Tree.slc a03, Tree.slc a04], Tree.agg [Tree.int
 IntKind.i64 a10, Tree.int IntKind.i64 a11, Tree.str a12, Tree.slc a13, Tree.slc a14]] = bif a00 != a10 then some (Tree.bool false) else bif a01 != a11 then some
 (Tree.bool false) else Option.bind (evP (Tab.env tab) n 16 [Tree.agg [Tree.str a02, Tree.slc a03], Tree.agg [Tree.str a12, Tree.slc a13]]) fun y => bif Sh.ok Sh.bool y
 then bif !Tree.toBool y then some (Tree.bool false) else bif (↑(List.length a04) : Int) != (↑(List.length a14) : Int) then some (Tree.bool false) else L22_0 n n 0 a00 a01
 a02 a03 a04 a10 a11 a12 a13 a14 else none := by kernel_rfl

theorem l22_0 (n q : Nat) (s5 : Int) (h0_0_0 : Int) (h0_0_1 : Int) (h0_0_2 : List UInt8) (h0_0_3 : List Tree) (h0_0_4 : List Tree) (h1_0_0 : Int) (h1_0_1 : Int) (h1_0_2 :
 List UInt8) (h1_0_3 : List Tree) (h1_0_4 : List Tree) : L22_0 n (Nat.succ q) s5 h0_0_0 h0_0_1 h0_0_2 h0_0_3 h0_0_4 h1_0_0 h1_0_1 h1_0_2 h1_0_3 h1_0_4 = bif decide (s5 <
 (↑(List.length h0_0_4) : Int)) then bif decide (0 ≤ s5) then Option.bind (nth h0_0_4 (Int.toNat s5)) fun y => bif Sh.ok (Sh.agg [Sh.int IntKind.i64, Sh.int IntKind.i64,
 Sh.str, Sh.slc, Sh.slc]) y then bif decide (0 ≤ s5) then Option.bind (nth h1_0_4 (Int.toNat s5)) fun y_1 => bif Sh.ok (Sh.agg [Sh.int IntKind.i64, Sh.int IntKind.i64,
 Sh.str, Sh.slc, Sh.slc]) y_1 then Option.bind (evP (Tab.env tab) n 22 [Tree.agg [Tree.int IntKind.i64 (Tree.toInt (List.headD (Tree.cs y) (Tree.bool false))), Tree.int
 IntKind.i64 (Tree.toInt (List.headD (List.tail (Tree.cs y)) (Tree.bool false))), Tree.str (Tree.toStr (List.headD (List.tail (List.tail (Tree.cs y))) (Tree.bool false))),
 Tree.slc (Tree.elems (List.headD (List.tail (List.tail (List.tail (Tree.cs y)))) (Tree.bool false))), Tree.slc (Tree.elems (List.headD (List.tail (List.tail (List.tail
 (List.tail (Tree.cs y))))) (Tree.bool false)))], Tree.agg [Tree.int IntKind.i64 (Tree.toInt (List.headD (Tree.cs y_1) (Tree.bool false))), Tree.int IntKind.i64
 (Tree.toInt (List.headD (List.tail (Tree.cs y_1)) (Tree.bool false))), Tree.str (Tree.toStr (List.headD (List.tail (List.tail (Tree.cs y_1))) (Tree.bool false))),
 Tree.slc (Tree.elems (List.headD (List.tail (List.tail (List.tail (Tree.cs y_1)))) (Tree.bool false))), Tree.slc (Tree.elems (List.headD (List.tail (List.tail (List.tail
 (List.tail (Tree.cs y_1))))) (Tree.bool false)))]]) fun y => bif Sh.ok Sh.bool y then bif !Tree.toBool y then some (Tree.bool false) else L22_0 n q (IntKind.wrap
 IntKind.i64 (s5 + 1)) h0_0_0 h0_0_1 h0_0_2 h0_0_3 h0_0_4 h1_0_0 h1_0_1 h1_0_2 h1_0_3 h1_0_4 else none else none else none else none else none else some (Tree.bool true)
 := by kernel_rfl

theorem e36 (n : Nat) (a00 : Int) (a01 : Int) (a02 : List UInt8) (a03 : List Tree) (a04 : List Tree) (a10 : Int) (a11 : Int) (a12 : List UInt8) (a13 : List Tree) (a14 :
 List Tree) : evQ (Tab.env tab) n 36 [Tree.agg [Tree.int IntKind.i64 a00, Tree.int IntKind.i64 a01, Tree.str a02, Tree.slc a03, Tree.slc a04], Tree.agg [Tree.int
 IntKind.i64 a10, Tree.int IntKind.i64 a11, Tree.str a12, Tree.slc a13, Tree.slc a14]] = bif a00 == a10 then bif a01 == a11 then Option.bind (evP (Tab.env tab) n 56
 [Tree.agg [Tree.str a02, Tree.slc a03], Tree.agg [Tree.str a12, Tree.slc a13]]) fun y => bif Sh.ok Sh.bool y then bif Tree.toBool y then Option.bind (evP (Tab.env tab) n
 57 [Tree.slc a04, Tree.slc a14, Tree.fn 36 [] []]) fun y => bif Sh.ok Sh.bool y then some (Tree.bool (Tree.toBool y)) else none else some (Tree.bool false) else none else
 some (Tree.bool false) else some (Tree.bool false) := by kernel_rfl

theorem e57 (n : Nat) (a0 : List Tree) (a1 : List Tree) (a2g : Nat) (a2p : List Tree) (a2c : List Tree) : evQ (Tab.env tab) n 57 [Tree.slc a0, Tree.slc a1, Tree.fn a2g a2p
 a2c] = bif (↑(List.length a0) : Int) != (↑(List.length a1) : Int) then some (Tree.bool false) else L57_0 n n a1 a2g a2p a2c a0 (↑(List.length a0) : Int) 0 := by
 kernel_rfl

theorem l57_0 (n q : Nat) (s1 : List Tree) (s2g : Nat) (s2p : List Tree) (s2c : List Tree) (s15 : List Tree) (s16 : Int) (s17 : Int) : L57_0 n (Nat.succ q) s1 s2g s2p s2c
 s15 s16 s17 = bif decide (s17 < s16) then bif decide (0 ≤ s17) then Option.bind (nth s15 (Int.toNat s17)) fun y => bif Sh.ok (Sh.agg [Sh.int IntKind.i64, Sh.int
 IntKind.i64, Sh.str, Sh.slc, Sh.slc]) y then bif decide (0 ≤ s17) then Option.bind (nth s1 (Int.toNat s17)) fun y_1 => bif Sh.ok (Sh.agg [Sh.int IntKind.i64, Sh.int
 IntKind.i64, Sh.str, Sh.slc, Sh.slc]) y_1 then Option.bind (evP (Tab.env tab) n s2g (s2p ++ [Tree.agg [Tree.int IntKind.i64 (Tree.toInt (List.headD (Tree.cs y) (Tree.bool
 false))), Tree.int IntKind.i64 (Tree.toInt (List.headD (List.tail (Tree.cs y)) (Tree.bool false))), Tree.str (Tree.toStr (List.headD (List.tail (List.tail (Tree.cs y)))
 (Tree.bool false))), Tree.slc (Tree.elems (List.headD (List.tail (List.tail (List.tail (Tree.cs y)))) (Tree.bool false))), Tree.slc (Tree.elems (List.headD (List.tail
 (List.tail (List.tail (List.tail (Tree.cs y))))) (Tree.bool false)))], Tree.agg [Tree.int IntKind.i64 (Tree.toInt (List.headD (Tree.cs y_1) (Tree.bool false))), Tree.int
 IntKind.i64 (Tree.toInt (List.headD (List.tail (Tree.cs y_1)) (Tree.bool false))), Tree.str (Tree.toStr (List.headD (List.tail (List.tail (Tree.cs y_1))) (Tree.bool
 false))), Tree.slc (Tree.elems (List.headD (List.tail (List.tail (List.tail (Tree.cs y_1)))) (Tree.bool false))), Tree.slc (Tree.elems (List.headD (List.tail (List.tail
 (List.tail (List.tail (Tree.cs y_1))))) (Tree.bool false)))]] ++ s2c)) fun y => bif Sh.ok Sh.bool y then bif !Tree.toBool y then some (Tree.bool false) else L57_0 n q s1
 s2g s2p s2c s15 s16 (IntKind.wrap IntKind.i64 (s17 + 1)) else none else none else none else none else none else some (Tree.bool true) := by kernel_rfl

theorem e70 (n : Nat) (a0 : List Tree) (a1 : Int) : evQ (Tab.env tab) n 70 [Tree.slc a0, Tree.int IntKind.i64 a1] = bif firstOk (Sh.int IntKind.i64) a0 then bif Nat.beq 1
 1 && Nat.ble ((List.length ([] : List Tree) + List.length a0) * 8) 140737488355328 then bif Nat.beq 1 1 && Nat.ble ((List.length ([] ++ a0) + List.length [Tree.int
 IntKind.i64 a1]) * 8) 140737488355328 then some (Tree.slc ([] ++ a0 ++ [Tree.int IntKind.i64 a1])) else none else none else none := by kernel_rfl

theorem e14 (n : Nat) (a0 : List Tree) (a1 : Int) : evQ (Tab.env tab) n 14 [Tree.slc a0, Tree.int IntKind.i64 a1] = L14_0 n n a0 a1 0 0 := by kernel_rfl

theorem l14_0 (n q : Nat) (s0 : List Tree) (s1 : Int) (s5 : Int) (s6 : Int) : L14_0 n (Nat.succ q) s0 s1 s5 s6 = bif decide (s6 < (↑(List.length s0) : Int)) then bif
 decide (s5 ≤ s1) then bif decide (0 ≤ s6) then Option.bind (nth s0 (Int.toNat s6)) fun y => bif Sh.ok (Sh.agg [Sh.str, Sh.slc]) y then bif decide ((↑(List.length
 (Tree.toStr (List.headD (Tree.cs y) (Tree.bool false)))) : Int) > 100) then some (Tree.int IntKind.i64 (IntKind.wrap IntKind.i64 (s1 + 1))) else bif decide (0 ≤ s6) then
 Option.bind (nth s0 (Int.toNat s6)) fun y => bif Sh.ok (Sh.agg [Sh.str, Sh.slc]) y then Option.bind (evP (Tab.env tab) n 14 [Tree.slc (Tree.elems (List.headD (List.tail
 (Tree.cs y)) (Tree.bool false))), Tree.int IntKind.i64 (IntKind.wrap IntKind.i64 (s1 - s5))]) fun y => bif Sh.ok (Sh.int IntKind.i64) y then L14_0 n q s0 s1 (IntKind.wrap
 IntKind.i64 (IntKind.wrap IntKind.i64 (s5 + 1) + Tree.toInt y)) (IntKind.wrap IntKind.i64 (s6 + 1)) else none else none else none else none else none else some (Tree.int
 IntKind.i64 s5) else some (Tree.int IntKind.i64 s5) := by kernel_rfl

theorem e37 (n : Nat) (a0 : List Tree) (a1 : Int) : evQ (Tab.env tab) n 37 [Tree.slc a0, Tree.int IntKind.i64 a1] = L37_0 n n a0 a1 0 0 := by kernel_rfl

theorem l37_0 (n q : Nat) (s0 : List Tree) (s1 : Int) (s5 : Int) (s6 : Int) : L37_0 n (Nat.succ q) s0 s1 s5 s6 = bif decide (s6 < (↑(List.length s0) : Int)) then bif
 decide (s5 ≤ s1) then bif decide (0 ≤ s6) then Option.bind (nth s0 (Int.toNat s6)) fun y => bif Sh.ok (Sh.agg [Sh.int IntKind.i64, Sh.int IntKind.i64, Sh.str, Sh.slc,
 Sh.slc]) y then Option.bind (evP (Tab.env tab) n 14 [Tree.slc [Tree.agg [Tree.str (Tree.toStr (List.headD (List.tail (List.tail (Tree.cs y))) (Tree.bool false))),
 Tree.slc (Tree.elems (List.headD (List.tail (List.tail (List.tail (Tree.cs y)))) (Tree.bool false)))]], Tree.int IntKind.i64 80]) fun y => bif Sh.ok (Sh.int IntKind.i64)
 y then bif decide (0 ≤ s6) then Option.bind (nth s0 (Int.toNat s6)) fun y_1 => bif Sh.ok (Sh.agg [Sh.int IntKind.i64, Sh.int IntKind.i64, Sh.str, Sh.slc, Sh.slc]) y_1
 then Option.bind (evP (Tab.env tab) n 14 [Tree.slc [Tree.agg [Tree.str (Tree.toStr (List.headD (List.tail (List.tail (Tree.cs y_1))) (Tree.bool false))), Tree.slc
 (Tree.elems (List.headD (List.tail (List.tail (List.tail (Tree.cs y_1)))) (Tree.bool false)))]], Tree.int IntKind.i64 80]) fun y_2 => bif Sh.ok (Sh.int IntKind.i64) y_2
 then bif decide (Tree.toInt y_2 > 80) then some (Tree.int IntKind.i64 (IntKind.wrap IntKind.i64 (s1 + 1))) else bif decide (0 ≤ s6) then Option.bind (nth s0 (Int.toNat
 s6)) fun y_3 => bif Sh.ok (Sh.agg [Sh.int IntKind.i64, Sh.int IntKind.i64, Sh.str, Sh.slc, Sh.slc]) y_3 then Option.bind (evP (Tab.env tab) n 37 [Tree.slc (Tree.elems
 (List.headD (List.tail (List.tail (List.tail (List.tail (Tree.cs y_3))))) (Tree.bool false))), Tree.int IntKind.i64 (IntKind.wrap IntKind.i64 (s1 - IntKind.wrap
 IntKind.i64 (IntKind.wrap IntKind.i64 (s5 + 1) + Tree.toInt y)))]) fun y_4 => bif Sh.ok (Sh.int IntKind.i64) y_4 then L37_0 n q s0 s1 (IntKind.wrap IntKind.i64
 (IntKind.wrap IntKind.i64 (IntKind.wrap IntKind.i64 (s5 + 1) + Tree.toInt y) + Tree.toInt y_4)) (IntKind.wrap IntKind.i64 (s6 + 1)) else none else none else none else
 none else none else none else none else none else none else some (Tree.int IntKind.i64 s5) else some (Tree.int IntKind.i64 s5) := by kernel_rfl

theorem e10 (n : Nat) (a0 : List Tree) : evQ (Tab.env tab) n 10 [Tree.slc a0] = L10_0 n n a0 0 := by kernel_rfl

theorem l10_0 (n q : Nat) (s0 : List Tree) (s3 : Int) : L10_0 n (Nat.succ q) s0 s3 = bif decide (s3 < (↑(List.length s0) : Int)) then bif decide (0 ≤ s3) && (decide (s3 ≤
 IntKind.wrap IntKind.i64 (s3 + 1)) && decide (IntKind.wrap IntKind.i64 (s3 + 1) ≤ (↑(List.length s0) : Int))) then bif firstOk (Sh.agg [Sh.int IntKind.i64, Sh.int
 IntKind.i64, Sh.str, Sh.slc, Sh.slc]) (List.drop (Int.toNat s3) (List.take (Int.toNat (IntKind.wrap IntKind.i64 (s3 + 1))) s0)) then Option.bind (evP (Tab.env tab) n 37
 [Tree.slc (List.drop (Int.toNat s3) (List.take (Int.toNat (IntKind.wrap IntKind.i64 (s3 + 1))) s0)), Tree.int IntKind.i64 720]) fun y => bif Sh.ok (Sh.int IntKind.i64) y
 then bif decide (Tree.toInt y > 720) then some (Tree.bool true) else bif decide (0 ≤ s3) then Option.bind (nth s0 (Int.toNat s3)) fun y => bif Sh.ok (Sh.agg [Sh.int
 IntKind.i64, Sh.int IntKind.i64, Sh.str, Sh.slc, Sh.slc]) y then Option.bind (evP (Tab.env tab) n 38 [Tree.agg [Tree.int IntKind.i64 (Tree.toInt (List.headD (Tree.cs y)
 (Tree.bool false))), Tree.int IntKind.i64 (Tree.toInt (List.headD (List.tail (Tree.cs y)) (Tree.bool false))), Tree.str (Tree.toStr (List.headD (List.tail (List.tail
 (Tree.cs y))) (Tree.bool false))), Tree.slc (Tree.elems (List.headD (List.tail (List.tail (List.tail (Tree.cs y)))) (Tree.bool false))), Tree.slc (Tree.elems (List.headD
 (List.tail (List.tail (List.tail (List.tail (Tree.cs y))))) (Tree.bool false)))]]) fun y => bif Sh.ok (Sh.tup [Sh.int IntKind.i64, Sh.int IntKind.i64]) y then bif decide
 (Tree.toInt (List.headD (Tree.tupl y) (Tree.bool false)) > 120) then some (Tree.bool true) else L10_0 n q s0 (IntKind.wrap IntKind.i64 (s3 + 1)) else none else none else
 none else none else none else none else some (Tree.bool false) := by kernel_rfl

theorem e41 (n : Nat) (a00 : List UInt8) (a01 : List Tree) : evQ (Tab.env tab) n 41 [Tree.agg [Tree.str a00, Tree.slc a01]] = bif firstOk (Sh.agg [Sh.str, Sh.slc]) a01
 then bif Nat.ble (List.length a01 * 40) 140737488355328 then L41_0 n n (↑(List.length a01) : Int) 0 a00 a01 [] else none else none := by kernel_rfl

theorem l41_0 (n q : Nat) (s10 : Int) (s11 : Int) (h0_0_0 : List UInt8) (h1 : List Tree) (h2_0_0 : List UInt8) : L41_0 n (Nat.succ q) s10 s11 h0_0_0 h1 h2_0_0 = bif decide
 (s11 < s10) then bif decide (0 ≤ s11) && (decide (s11 < (↑(List.length h1) : Int)) && Nat.beq (List.length [Sh.str, Sh.slc]) (List.length [Sh.str, Sh.slc])) then
 Option.bind (nth h1 (Int.toNat s11)) fun y => bif Sh.ok (Sh.agg [Sh.str, Sh.slc]) y then Option.bind (evP (Tab.env tab) n 41 [Tree.agg [Tree.str (Tree.toStr (List.headD
 (Tree.cs y) (Tree.bool false))), Tree.slc (Tree.elems (List.headD (List.tail (Tree.cs y)) (Tree.bool false)))]]) fun y => bif Sh.ok (Sh.agg [Sh.str, Sh.slc]) y then bif
 decide (0 ≤ s11) && (decide (s11 < (↑(List.length h1) : Int)) && Nat.beq (List.length [Sh.str, Sh.slc]) (List.length [Sh.str, Sh.slc])) then Option.bind (nth h1
 (Int.toNat s11)) fun y_1 => bif Sh.ok (Sh.agg [Sh.str, Sh.slc]) y_1 then L41_0 n q s10 (IntKind.wrap IntKind.i64 (s11 + 1)) h0_0_0 (setN h1 (Int.toNat s11) (Tree.agg
 [Tree.str (Tree.toStr (List.headD (Tree.cs y) (Tree.bool false))), Tree.slc (Tree.elems (List.headD (List.tail (Tree.cs y)) (Tree.bool false)))])) h2_0_0 else none else
 none else none else none else none else some (Tree.agg [Tree.str h0_0_0, Tree.slc h1]) := by kernel_rfl

theorem e42 (n : Nat) (a00 : Int) (a01 : Int) (a02 : List UInt8) (a03 : List Tree) (a04 : List Tree) : evQ (Tab.env tab) n 42 [Tree.agg [Tree.int IntKind.i64 a00, Tree.int
 IntKind.i64 a01, Tree.str a02, Tree.slc a03, Tree.slc a04]] = Option.bind (evP (Tab.env tab) n 41 [Tree.agg [Tree.str a02, Tree.slc a03]]) fun y => bif Sh.ok (Sh.agg
 [Sh.str, Sh.slc]) y then bif firstOk (Sh.agg [Sh.int IntKind.i64, Sh.int IntKind.i64, Sh.str, Sh.slc, Sh.slc]) a04 then bif Nat.ble (List.length a04 * 80) 140737488355328
 then L42_0 n n (↑(List.length a04) : Int) 0 a00 a01 (Tree.toStr (List.headD (Tree.cs y) (Tree.bool false))) (Tree.elems (List.headD (List.tail (Tree.cs y)) (Tree.bool
 false))) a04 0 0 [] else none else none else none := by kernel_rfl

theorem l42_0 (n q : Nat) (s14 : Int) (s15 : Int) (h0_0_0 : Int) (h0_0_1 : Int) (h0_0_2 : List UInt8) (h0_0_3 : List Tree) (h1 : List Tree) (h2_0_0 : Int) (h2_0_1 : Int)
 (h2_0_2 : List UInt8) : L42_0 n (Nat.succ q) s14 s15 h0_0_0 h0_0_1 h0_0_2 h0_0_3 h1 h2_0_0 h2_0_1 h2_0_2 = bif decide (s15 < s14) then bif decide (0 ≤ s15) && (decide
 (s15 < (↑(List.length h1) : Int)) && Nat.beq (List.length [Sh.int IntKind.i64, Sh.int IntKind.i64, Sh.str, Sh.slc, Sh.slc]) (List.length [Sh.int IntKind.i64, Sh.int
 IntKind.i64, Sh.str, Sh.slc, Sh.slc])) then Option.bind (nth h1 (Int.toNat s15)) fun y => bif Sh.ok (Sh.agg [Sh.int IntKind.i64, Sh.int IntKind.i64, Sh.str, Sh.slc,
 Sh.slc]) y then Option.bind (evP (Tab.env tab) n 42 [Tree.agg [Tree.int IntKind.i64 (Tree.toInt (List.headD (Tree.cs y) (Tree.bool false))), Tree.int IntKind.i64
 (Tree.toInt (List.headD (List.tail (Tree.cs y)) (Tree.bool false))), Tree.str (Tree.toStr (List.headD (List.tail (List.tail (Tree.cs y))) (Tree.bool false))), Tree.slc
 (Tree.elems (List.headD (List.tail (List.tail (List.tail (Tree.cs y)))) (Tree.bool false))), Tree.slc (Tree.elems (List.headD (List.tail (List.tail (List.tail (List.tail
 (Tree.cs y))))) (Tree.bool false)))]]) fun y => bif Sh.ok (Sh.agg [Sh.int IntKind.i64, Sh.int IntKind.i64, Sh.str, Sh.slc, Sh.slc]) y then bif decide (0 ≤ s15) && (decide
 (s15 < (↑(List.length h1) : Int)) && Nat.beq (List.length [Sh.int IntKind.i64, Sh.int IntKind.i64, Sh.str, Sh.slc, Sh.slc]) (List.length [Sh.int IntKind.i64, Sh.int
 IntKind.i64, Sh.str, Sh.slc, Sh.slc])) then Option.bind (nth h1 (Int.toNat s15)) fun y_1 => bif Sh.ok (Sh.agg [Sh.int IntKind.i64, Sh.int IntKind.i64, Sh.str, Sh.slc,
 Sh.slc]) y_1 then L42_0 n q s14 (IntKind.wrap IntKind.i64 (s15 + 1)) h0_0_0 h0_0_1 h0_0_2 h0_0_3 (setN h1 (Int.toNat s15) (Tree.agg [Tree.int IntKind.i64 (Tree.toInt
 (List.headD (Tree.cs y) (Tree.bool false))), Tree.int IntKind.i64 (Tree.toInt (List.headD (List.tail (Tree.cs y)) (Tree.bool false))), Tree.str (Tree.toStr (List.headD
 (List.tail (List.tail (Tree.cs y))) (Tree.bool false))), Tree.slc (Tree.elems (List.headD (List.tail (List.tail (List.tail (Tree.cs y)))) (Tree.bool false))), Tree.slc
 (Tree.elems (List.headD (List.tail (List.tail (List.tail (List.tail (Tree.cs y))))) (Tree.bool false)))])) h2_0_0 h2_0_1 h2_0_2 else none else none else none else none
 else none else some (Tree.agg [Tree.int IntKind.i64 h0_0_0, Tree.int IntKind.i64 h0_0_1, Tree.str h0_0_2, Tree.slc h0_0_3, Tree.slc h1]) := by kernel_rfl


end Go.Proofs.Aw.Sa
