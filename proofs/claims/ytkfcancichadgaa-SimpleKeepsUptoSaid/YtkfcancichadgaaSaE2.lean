/-
  EQUATIONS of the reckoned code: printed by program.
-/
import Derived.Test.YtkfcancichadgaaSaTab
import Derived.Test.YtkfcancichadgaaAw4
set_option linter.unusedSimpArgs false
set_option linter.unusedVariables false
set_option maxRecDepth 100000
namespace Go.Proofs.Aw.Sa
open Go.Proofs

def L34_0 (n q : Nat) (s12 : Int) (s13 : Int) (h0_0_0 : Int) (h0_0_1 : Int) (h0_0_2 : List UInt8) (h1 : List Tree) (h2_0_0 : Int) (h2_0_1 : Int) (h2_0_2 : List UInt8) : Option Tree :=
  evL (Tab.env tab) n 34 [1, 1, 1, 0, 1, 0] [q] { ts := [AV.any, AV.href 0 0 0, AV.href 2 0 0, AV.any, AV.any, AV.any, AV.any, AV.any, AV.any, AV.any, AV.any, AV.any, AV.t (Tree.int IntKind.i64 s12), AV.t (Tree.int IntKind.i64 s13), AV.any, AV.any, AV.any, AV.any, AV.any, AV.any, AV.any, AV.any, AV.any, AV.any, AV.any, AV.any, AV.any, AV.any], H := [HObj.mix (Sh.agg [Sh.int IntKind.i64, Sh.int IntKind.i64, Sh.str, Sh.slc, Sh.slc]) [AV.agg [AV.t (Tree.int IntKind.i64 h0_0_0), AV.t (Tree.int IntKind.i64 h0_0_1), AV.t (Tree.str h0_0_2), AV.nilS, AV.hsl 1 none]], HObj.tre (Sh.agg [Sh.int IntKind.i64, Sh.int IntKind.i64, Sh.str, Sh.slc, Sh.slc]) h1, HObj.mix (Sh.agg [Sh.int IntKind.i64, Sh.int IntKind.i64, Sh.str, Sh.slc, Sh.slc]) [AV.agg [AV.t (Tree.int IntKind.i64 h2_0_0), AV.t (Tree.int IntKind.i64 h2_0_1), AV.t (Tree.str h2_0_2), AV.nilS, AV.nilS]]] }

def L53_0 (n q : Nat) (s1 : Int) (s2 : Int) (s8 : Int) (h0_0_0 : Int) (h0_0_1 : Int) (h0_0_2 : List UInt8) (h0_0_3 : List Tree) (h0_0_4 : List Tree) (h1_0_0 : Int) (h1_0_1 : Int) (h1_0_2 : List UInt8) (h2_0_0 : Int) (h2_0_1 : Int) (h2_0_2 : List UInt8) (h2_0_3 : List Tree) : Option Tree :=
  evL (Tab.env tab) n 53 [1, 1, 1, 0, 1, 0] [q] { ts := [AV.any, AV.t (Tree.int IntKind.i64 s1), AV.t (Tree.int IntKind.i64 s2), AV.href 0 0 0, AV.any, AV.any, AV.href 1 0 0, AV.href 2 0 0, AV.t (Tree.int IntKind.i64 s8), AV.any, AV.any, AV.any, AV.any, AV.any, AV.any, AV.any, AV.any, AV.any, AV.any, AV.any, AV.any, AV.any, AV.any, AV.any, AV.any, AV.any, AV.any, AV.any, AV.any, AV.any, AV.any, AV.any, AV.any, AV.any, AV.any, AV.any, AV.any, AV.any, AV.any, AV.any, AV.any, AV.any, AV.any, AV.any, AV.any, AV.any, AV.any, AV.any, AV.any, AV.any, AV.any, AV.any, AV.any, AV.any, AV.any, AV.any, AV.any, AV.any, AV.any, AV.any, AV.any, AV.any, AV.any, AV.any, AV.any, AV.any, AV.any], H := [HObj.tre (Sh.agg [Sh.int IntKind.i64, Sh.int IntKind.i64, Sh.str, Sh.slc, Sh.slc]) [Tree.agg [Tree.int IntKind.i64 h0_0_0, Tree.int IntKind.i64 h0_0_1, Tree.str h0_0_2, Tree.slc h0_0_3, Tree.slc h0_0_4]], HObj.mix (Sh.agg [Sh.int IntKind.i64, Sh.int IntKind.i64, Sh.str, Sh.slc, Sh.slc]) [AV.agg [AV.t (Tree.int IntKind.i64 h1_0_0), AV.t (Tree.int IntKind.i64 h1_0_1), AV.t (Tree.str h1_0_2), AV.nilS, AV.nilS]], HObj.mix (Sh.agg [Sh.int IntKind.i64, Sh.int IntKind.i64, Sh.str, Sh.slc, Sh.slc]) [AV.agg [AV.t (Tree.int IntKind.i64 h2_0_0), AV.t (Tree.int IntKind.i64 h2_0_1), AV.t (Tree.str h2_0_2), AV.t (Tree.slc h2_0_3), AV.nilS]]] }

def L53_0b (n q : Nat) (s1 : Int) (s2 : Int) (s8 : Int) (h0_0_0 : Int) (h0_0_1 : Int) (h0_0_2 : List UInt8) (h0_0_3 : List Tree) (h0_0_4 : List Tree) (h1_0_0 : Int) (h1_0_1 : Int) (h1_0_2 : List UInt8) (h2_0_0 : Int) (h2_0_1 : Int) (h2_0_2 : List UInt8) (h2_0_3 : List Tree) (h3 : List Tree) : Option Tree :=
  evL (Tab.env tab) n 53 [1, 1, 1, 0, 1, 0] [q] { ts := [AV.any, AV.t (Tree.int IntKind.i64 s1), AV.t (Tree.int IntKind.i64 s2), AV.href 0 0 0, AV.any, AV.any, AV.href 1 0 0, AV.href 2 0 0, AV.t (Tree.int IntKind.i64 s8), AV.any, AV.any, AV.any, AV.any, AV.any, AV.any, AV.any, AV.any, AV.any, AV.any, AV.any, AV.any, AV.any, AV.any, AV.any, AV.any, AV.any, AV.any, AV.any, AV.any, AV.any, AV.any, AV.any, AV.any, AV.any, AV.any, AV.any, AV.any, AV.any, AV.any, AV.any, AV.any, AV.any, AV.any, AV.any, AV.any, AV.any, AV.any, AV.any, AV.any, AV.any, AV.any, AV.any, AV.any, AV.any, AV.any, AV.any, AV.any, AV.any, AV.any, AV.any, AV.any, AV.any, AV.any, AV.any, AV.any, AV.any, AV.any], H := [HObj.tre (Sh.agg [Sh.int IntKind.i64, Sh.int IntKind.i64, Sh.str, Sh.slc, Sh.slc]) [Tree.agg [Tree.int IntKind.i64 h0_0_0, Tree.int IntKind.i64 h0_0_1, Tree.str h0_0_2, Tree.slc h0_0_3, Tree.slc h0_0_4]], HObj.mix (Sh.agg [Sh.int IntKind.i64, Sh.int IntKind.i64, Sh.str, Sh.slc, Sh.slc]) [AV.agg [AV.t (Tree.int IntKind.i64 h1_0_0), AV.t (Tree.int IntKind.i64 h1_0_1), AV.t (Tree.str h1_0_2), AV.nilS, AV.nilS]], HObj.mix (Sh.agg [Sh.int IntKind.i64, Sh.int IntKind.i64, Sh.str, Sh.slc, Sh.slc]) [AV.agg [AV.t (Tree.int IntKind.i64 h2_0_0), AV.t (Tree.int IntKind.i64 h2_0_1), AV.t (Tree.str h2_0_2), AV.t (Tree.slc h2_0_3), AV.hsl 3 none]], HObj.tre (Sh.agg [Sh.int IntKind.i64, Sh.int IntKind.i64, Sh.str, Sh.slc, Sh.slc]) h3] }

def L54_0 (n q : Nat) (s1 : Int) (s3 : Int) (s10 : Int) (h0_0_0 : Int) (h0_0_1 : Int) (h0_0_2 : List UInt8) (h0_0_3 : List Tree) (h0_0_4 : List Tree) (h1_0_0 : Int) (h1_0_1 : Int) (h1_0_2 : List UInt8) (h1_0_3 : List Tree) (h1_0_4 : List Tree) (h2_0_0 : Int) (h2_0_1 : Int) (h2_0_2 : List UInt8) (h3_0_0 : Int) (h3_0_1 : Int) (h3_0_2 : List UInt8) (h3_0_3 : List Tree) : Option Tree :=
  evL (Tab.env tab) n 54 [1, 1, 1, 1, 0, 1, 0] [q] { ts := [AV.any, AV.t (Tree.int IntKind.i64 s1), AV.any, AV.t (Tree.int IntKind.i64 s3), AV.href 0 0 0, AV.any, AV.href 1 0 0, AV.any, AV.href 2 0 0, AV.href 3 0 0, AV.t (Tree.int IntKind.i64 s10), AV.any, AV.any, AV.any, AV.any, AV.any, AV.any, AV.any, AV.any, AV.any, AV.any, AV.any, AV.any, AV.any, AV.any, AV.any, AV.any, AV.any, AV.any, AV.any, AV.any, AV.any, AV.any, AV.any, AV.any, AV.any, AV.any, AV.any, AV.any, AV.any, AV.any, AV.any, AV.any, AV.any, AV.any, AV.any, AV.any, AV.any, AV.any, AV.any, AV.any, AV.any, AV.any, AV.any, AV.any, AV.any, AV.any, AV.any, AV.any, AV.any, AV.any, AV.any, AV.any, AV.any, AV.any, AV.any, AV.any, AV.any, AV.any, AV.any, AV.any, AV.any], H := [HObj.tre (Sh.agg [Sh.int IntKind.i64, Sh.int IntKind.i64, Sh.str, Sh.slc, Sh.slc]) [Tree.agg [Tree.int IntKind.i64 h0_0_0, Tree.int IntKind.i64 h0_0_1, Tree.str h0_0_2, Tree.slc h0_0_3, Tree.slc h0_0_4]], HObj.tre (Sh.agg [Sh.int IntKind.i64, Sh.int IntKind.i64, Sh.str, Sh.slc, Sh.slc]) [Tree.agg [Tree.int IntKind.i64 h1_0_0, Tree.int IntKind.i64 h1_0_1, Tree.str h1_0_2, Tree.slc h1_0_3, Tree.slc h1_0_4]], HObj.mix (Sh.agg [Sh.int IntKind.i64, Sh.int IntKind.i64, Sh.str, Sh.slc, Sh.slc]) [AV.agg [AV.t (Tree.int IntKind.i64 h2_0_0), AV.t (Tree.int IntKind.i64 h2_0_1), AV.t (Tree.str h2_0_2), AV.nilS, AV.nilS]], HObj.mix (Sh.agg [Sh.int IntKind.i64, Sh.int IntKind.i64, Sh.str, Sh.slc, Sh.slc]) [AV.agg [AV.t (Tree.int IntKind.i64 h3_0_0), AV.t (Tree.int IntKind.i64 h3_0_1), AV.t (Tree.str h3_0_2), AV.t (Tree.slc h3_0_3), AV.nilS]]] }

def L54_0b (n q : Nat) (s1 : Int) (s3 : Int) (s10 : Int) (h0_0_0 : Int) (h0_0_1 : Int) (h0_0_2 : List UInt8) (h0_0_3 : List Tree) (h0_0_4 : List Tree) (h1_0_0 : Int) (h1_0_1 : Int) (h1_0_2 : List UInt8) (h1_0_3 : List Tree) (h1_0_4 : List Tree) (h2_0_0 : Int) (h2_0_1 : Int) (h2_0_2 : List UInt8) (h3_0_0 : Int) (h3_0_1 : Int) (h3_0_2 : List UInt8) (h3_0_3 : List Tree) (h4 : List Tree) : Option Tree :=
  evL (Tab.env tab) n 54 [1, 1, 1, 1, 0, 1, 0] [q] { ts := [AV.any, AV.t (Tree.int IntKind.i64 s1), AV.any, AV.t (Tree.int IntKind.i64 s3), AV.href 0 0 0, AV.any, AV.href 1 0 0, AV.any, AV.href 2 0 0, AV.href 3 0 0, AV.t (Tree.int IntKind.i64 s10), AV.any, AV.any, AV.any, AV.any, AV.any, AV.any, AV.any, AV.any, AV.any, AV.any, AV.any, AV.any, AV.any, AV.any, AV.any, AV.any, AV.any, AV.any, AV.any, AV.any, AV.any, AV.any, AV.any, AV.any, AV.any, AV.any, AV.any, AV.any, AV.any, AV.any, AV.any, AV.any, AV.any, AV.any, AV.any, AV.any, AV.any, AV.any, AV.any, AV.any, AV.any, AV.any, AV.any, AV.any, AV.any, AV.any, AV.any, AV.any, AV.any, AV.any, AV.any, AV.any, AV.any, AV.any, AV.any, AV.any, AV.any, AV.any, AV.any, AV.any, AV.any], H := [HObj.tre (Sh.agg [Sh.int IntKind.i64, Sh.int IntKind.i64, Sh.str, Sh.slc, Sh.slc]) [Tree.agg [Tree.int IntKind.i64 h0_0_0, Tree.int IntKind.i64 h0_0_1, Tree.str h0_0_2, Tree.slc h0_0_3, Tree.slc h0_0_4]], HObj.tre (Sh.agg [Sh.int IntKind.i64, Sh.int IntKind.i64, Sh.str, Sh.slc, Sh.slc]) [Tree.agg [Tree.int IntKind.i64 h1_0_0, Tree.int IntKind.i64 h1_0_1, Tree.str h1_0_2, Tree.slc h1_0_3, Tree.slc h1_0_4]], HObj.mix (Sh.agg [Sh.int IntKind.i64, Sh.int IntKind.i64, Sh.str, Sh.slc, Sh.slc]) [AV.agg [AV.t (Tree.int IntKind.i64 h2_0_0), AV.t (Tree.int IntKind.i64 h2_0_1), AV.t (Tree.str h2_0_2), AV.nilS, AV.nilS]], HObj.mix (Sh.agg [Sh.int IntKind.i64, Sh.int IntKind.i64, Sh.str, Sh.slc, Sh.slc]) [AV.agg [AV.t (Tree.int IntKind.i64 h3_0_0), AV.t (Tree.int IntKind.i64 h3_0_1), AV.t (Tree.str h3_0_2), AV.t (Tree.slc h3_0_3), AV.hsl 4 none]], HObj.tre (Sh.agg [Sh.int IntKind.i64, Sh.int IntKind.i64, Sh.str, Sh.slc, Sh.slc]) h4] }

def L35_0 (n q : Nat) (s4 : Int) (h0_0_0 : Int) (h0_0_1 : Int) (h0_0_2 : List UInt8) (h0_0_3 : List Tree) (h0_0_4 : List Tree) (h1_0_0 : Int) (h1_0_1 : Int) (h1_0_2 : List UInt8) (h2_0_0 : Int) (h2_0_1 : Int) (h2_0_2 : List UInt8) : Option Tree :=
  evL (Tab.env tab) n 35 [1, 1, 0, 1, 0] [q] { ts := [AV.any, AV.href 0 0 0, AV.href 1 0 0, AV.href 2 0 0, AV.t (Tree.int IntKind.i64 s4), AV.any, AV.any, AV.any, AV.any, AV.any, AV.any, AV.any, AV.any, AV.any, AV.any, AV.any, AV.any, AV.any, AV.any, AV.any, AV.any, AV.any, AV.any, AV.any, AV.any, AV.any, AV.any, AV.any, AV.any], H := [HObj.tre (Sh.agg [Sh.int IntKind.i64, Sh.int IntKind.i64, Sh.str, Sh.slc, Sh.slc]) [Tree.agg [Tree.int IntKind.i64 h0_0_0, Tree.int IntKind.i64 h0_0_1, Tree.str h0_0_2, Tree.slc h0_0_3, Tree.slc h0_0_4]], HObj.mix (Sh.agg [Sh.int IntKind.i64, Sh.int IntKind.i64, Sh.str, Sh.slc, Sh.slc]) [AV.agg [AV.t (Tree.int IntKind.i64 h1_0_0), AV.t (Tree.int IntKind.i64 h1_0_1), AV.t (Tree.str h1_0_2), AV.nilS, AV.nilS]], HObj.mix (Sh.agg [Sh.int IntKind.i64, Sh.int IntKind.i64, Sh.str, Sh.slc, Sh.slc]) [AV.agg [AV.t (Tree.int IntKind.i64 h2_0_0), AV.t (Tree.int IntKind.i64 h2_0_1), AV.t (Tree.str h2_0_2), AV.nilS, AV.nilS]]] }

def L35_0b (n q : Nat) (s4 : Int) (h0_0_0 : Int) (h0_0_1 : Int) (h0_0_2 : List UInt8) (h0_0_3 : List Tree) (h0_0_4 : List Tree) (h1_0_0 : Int) (h1_0_1 : Int) (h1_0_2 : List UInt8) (h2_0_0 : Int) (h2_0_1 : Int) (h2_0_2 : List UInt8) (h3 : List Tree) : Option Tree :=
  evL (Tab.env tab) n 35 [1, 1, 0, 1, 0] [q] { ts := [AV.any, AV.href 0 0 0, AV.href 1 0 0, AV.href 2 0 0, AV.t (Tree.int IntKind.i64 s4), AV.any, AV.any, AV.any, AV.any, AV.any, AV.any, AV.any, AV.any, AV.any, AV.any, AV.any, AV.any, AV.any, AV.any, AV.any, AV.any, AV.any, AV.any, AV.any, AV.any, AV.any, AV.any, AV.any, AV.any], H := [HObj.tre (Sh.agg [Sh.int IntKind.i64, Sh.int IntKind.i64, Sh.str, Sh.slc, Sh.slc]) [Tree.agg [Tree.int IntKind.i64 h0_0_0, Tree.int IntKind.i64 h0_0_1, Tree.str h0_0_2, Tree.slc h0_0_3, Tree.slc h0_0_4]], HObj.mix (Sh.agg [Sh.int IntKind.i64, Sh.int IntKind.i64, Sh.str, Sh.slc, Sh.slc]) [AV.agg [AV.t (Tree.int IntKind.i64 h1_0_0), AV.t (Tree.int IntKind.i64 h1_0_1), AV.t (Tree.str h1_0_2), AV.nilS, AV.nilS]], HObj.mix (Sh.agg [Sh.int IntKind.i64, Sh.int IntKind.i64, Sh.str, Sh.slc, Sh.slc]) [AV.agg [AV.t (Tree.int IntKind.i64 h2_0_0), AV.t (Tree.int IntKind.i64 h2_0_1), AV.t (Tree.str h2_0_2), AV.nilS, AV.hsl 3 none]], HObj.tre (Sh.agg [Sh.int IntKind.i64, Sh.int IntKind.i64, Sh.str, Sh.slc, Sh.slc]) h3] }

def L19_0 (n q : Nat) (s3 : Int) (h0_0_0 : Int) (h0_0_1 : Int) (h0_0_2 : List UInt8) (h0_0_3 : List Tree) (h0_0_4 : List Tree) : Option Tree :=
  evL (Tab.env tab) n 19 [1, 1, 0, 1, 0] [q] { ts := [AV.any, AV.href 0 0 0, AV.any, AV.t (Tree.int IntKind.i64 s3), AV.any, AV.any, AV.any, AV.any, AV.any, AV.any, AV.any, AV.any, AV.any, AV.any, AV.any, AV.any, AV.any, AV.any, AV.any, AV.any, AV.any, AV.any, AV.any, AV.any, AV.any, AV.any], H := [HObj.tre (Sh.agg [Sh.int IntKind.i64, Sh.int IntKind.i64, Sh.str, Sh.slc, Sh.slc]) [Tree.agg [Tree.int IntKind.i64 h0_0_0, Tree.int IntKind.i64 h0_0_1, Tree.str h0_0_2, Tree.slc h0_0_3, Tree.slc h0_0_4]]] }

def L23_0 (n q : Nat) (s0 : List Tree) (s1 : List Tree) (s5 : Int) : Option Tree :=
  evL (Tab.env tab) n 23 [1, 1, 0, 1, 0] [q] { ts := [AV.t (Tree.slc s0), AV.t (Tree.slc s1), AV.any, AV.any, AV.any, AV.t (Tree.int IntKind.i64 s5), AV.any, AV.any, AV.any, AV.any, AV.any, AV.any, AV.any, AV.any, AV.any, AV.any, AV.any, AV.any, AV.any, AV.any, AV.any, AV.any, AV.any, AV.any, AV.any, AV.any], H := [] }

theorem e31 (n : Nat) (a00 : Int) (a01 : Int) (a02 : List UInt8) (a03 : List Tree) (a04 : List Tree) (a1 : Int) (a2 : Int) : evQ (Tab.env tab) n 31 [Tree.agg [Tree.int
 IntKind.i64 a00, Tree.int IntKind.i64 a01, Tree.str a02, Tree.slc a03, Tree.slc a04], Tree.int IntKind.i64 a1, Tree.int IntKind.i64 a2] = bif decide (a2 > 2147483648)
 then Option.bind (evP (Tab.env tab) n 42 [Tree.agg [Tree.int IntKind.i64 a00, Tree.int IntKind.i64 a01, Tree.str a02, Tree.slc a03, Tree.slc a04]]) fun y => bif Sh.ok
 (Sh.agg [Sh.int IntKind.i64, Sh.int IntKind.i64, Sh.str, Sh.slc, Sh.slc]) y then some (Tree.agg [Tree.int IntKind.i64 (Tree.toInt (List.headD (Tree.cs y) (Tree.bool
 false))), Tree.int IntKind.i64 (Tree.toInt (List.headD (List.tail (Tree.cs y)) (Tree.bool false))), Tree.str (Tree.toStr (List.headD (List.tail (List.tail (Tree.cs y)))
 (Tree.bool false))), Tree.slc (Tree.elems (List.headD (List.tail (List.tail (List.tail (Tree.cs y)))) (Tree.bool false))), Tree.slc (Tree.elems (List.headD (List.tail
 (List.tail (List.tail (List.tail (Tree.cs y))))) (Tree.bool false)))]) else none else bif decide (a1 < -2147483648) then Option.bind (evP (Tab.env tab) n 42 [Tree.agg
 [Tree.int IntKind.i64 a00, Tree.int IntKind.i64 a01, Tree.str a02, Tree.slc a03, Tree.slc a04]]) fun y => bif Sh.ok (Sh.agg [Sh.int IntKind.i64, Sh.int IntKind.i64,
 Sh.str, Sh.slc, Sh.slc]) y then some (Tree.agg [Tree.int IntKind.i64 (Tree.toInt (List.headD (Tree.cs y) (Tree.bool false))), Tree.int IntKind.i64 (Tree.toInt (List.headD
 (List.tail (Tree.cs y)) (Tree.bool false))), Tree.str (Tree.toStr (List.headD (List.tail (List.tail (Tree.cs y))) (Tree.bool false))), Tree.slc (Tree.elems (List.headD
 (List.tail (List.tail (List.tail (Tree.cs y)))) (Tree.bool false))), Tree.slc (Tree.elems (List.headD (List.tail (List.tail (List.tail (List.tail (Tree.cs y)))))
 (Tree.bool false)))]) else none else bif decide (a1 > 2147483648) then Option.bind (evP (Tab.env tab) n 42 [Tree.agg [Tree.int IntKind.i64 a00, Tree.int IntKind.i64 a01,
 Tree.str a02, Tree.slc a03, Tree.slc a04]]) fun y => bif Sh.ok (Sh.agg [Sh.int IntKind.i64, Sh.int IntKind.i64, Sh.str, Sh.slc, Sh.slc]) y then some (Tree.agg [Tree.int
 IntKind.i64 (Tree.toInt (List.headD (Tree.cs y) (Tree.bool false))), Tree.int IntKind.i64 (Tree.toInt (List.headD (List.tail (Tree.cs y)) (Tree.bool false))), Tree.str
 (Tree.toStr (List.headD (List.tail (List.tail (Tree.cs y))) (Tree.bool false))), Tree.slc (Tree.elems (List.headD (List.tail (List.tail (List.tail (Tree.cs y))))
 (Tree.bool false))), Tree.slc (Tree.elems (List.headD (List.tail (List.tail (List.tail (List.tail (Tree.cs y))))) (Tree.bool false)))]) else none else Option.bind (evP
 (Tab.env tab) n 43 [Tree.agg [Tree.int IntKind.i64 a00, Tree.int IntKind.i64 a01, Tree.str a02, Tree.slc a03, Tree.slc a04], Tree.int IntKind.i64 0, Tree.fn 52 []
 [Tree.ptr (Tree.int IntKind.i64 (imax a2 0)) 0, Tree.ptr (Tree.int IntKind.i64 a1) 0]]) fun y => bif Sh.ok (Sh.agg [Sh.int IntKind.i64, Sh.int IntKind.i64, Sh.str,
 Sh.slc, Sh.slc]) y then some (Tree.agg [Tree.int IntKind.i64 (Tree.toInt (List.headD (Tree.cs y) (Tree.bool false))), Tree.int IntKind.i64 (Tree.toInt (List.headD
 (List.tail (Tree.cs y)) (Tree.bool false))), Tree.str (Tree.toStr (List.headD (List.tail (List.tail (Tree.cs y))) (Tree.bool false))), Tree.slc (Tree.elems (List.headD
 (List.tail (List.tail (List.tail (Tree.cs y)))) (Tree.bool false))), Tree.slc (Tree.elems (List.headD (List.tail (List.tail (List.tail (List.tail (Tree.cs y)))))
 (Tree.bool false)))]) else none := by kernel_rfl

theorem e17 (n : Nat) (a00 : Int) (a01 : Int) (a02 : List UInt8) (a03 : List Tree) (a04 : List Tree) (a1 : Int) (a20 : Int) (a21 : Int) (a22 : List UInt8) (a23 : List
 Tree) (a24 : List Tree) : evQ (Tab.env tab) n 17 [Tree.agg [Tree.int IntKind.i64 a00, Tree.int IntKind.i64 a01, Tree.str a02, Tree.slc a03, Tree.slc a04], Tree.int
 IntKind.i64 a1, Tree.agg [Tree.int IntKind.i64 a20, Tree.int IntKind.i64 a21, Tree.str a22, Tree.slc a23, Tree.slc a24]] = bif decide (a1 < 0) then Option.bind (evP
 (Tab.env tab) n 42 [Tree.agg [Tree.int IntKind.i64 a00, Tree.int IntKind.i64 a01, Tree.str a02, Tree.slc a03, Tree.slc a04]]) fun y => bif Sh.ok (Sh.agg [Sh.int
 IntKind.i64, Sh.int IntKind.i64, Sh.str, Sh.slc, Sh.slc]) y then some (Tree.agg [Tree.int IntKind.i64 (Tree.toInt (List.headD (Tree.cs y) (Tree.bool false))), Tree.int
 IntKind.i64 (Tree.toInt (List.headD (List.tail (Tree.cs y)) (Tree.bool false))), Tree.str (Tree.toStr (List.headD (List.tail (List.tail (Tree.cs y))) (Tree.bool false))),
 Tree.slc (Tree.elems (List.headD (List.tail (List.tail (List.tail (Tree.cs y)))) (Tree.bool false))), Tree.slc (Tree.elems (List.headD (List.tail (List.tail (List.tail
 (List.tail (Tree.cs y))))) (Tree.bool false)))]) else none else bif decide (a1 > 2147483648) then Option.bind (evP (Tab.env tab) n 42 [Tree.agg [Tree.int IntKind.i64 a00,
 Tree.int IntKind.i64 a01, Tree.str a02, Tree.slc a03, Tree.slc a04]]) fun y => bif Sh.ok (Sh.agg [Sh.int IntKind.i64, Sh.int IntKind.i64, Sh.str, Sh.slc, Sh.slc]) y then
 some (Tree.agg [Tree.int IntKind.i64 (Tree.toInt (List.headD (Tree.cs y) (Tree.bool false))), Tree.int IntKind.i64 (Tree.toInt (List.headD (List.tail (Tree.cs y))
 (Tree.bool false))), Tree.str (Tree.toStr (List.headD (List.tail (List.tail (Tree.cs y))) (Tree.bool false))), Tree.slc (Tree.elems (List.headD (List.tail (List.tail
 (List.tail (Tree.cs y)))) (Tree.bool false))), Tree.slc (Tree.elems (List.headD (List.tail (List.tail (List.tail (List.tail (Tree.cs y))))) (Tree.bool false)))]) else
 none else Option.bind (evP (Tab.env tab) n 43 [Tree.agg [Tree.int IntKind.i64 a00, Tree.int IntKind.i64 a01, Tree.str a02, Tree.slc a03, Tree.slc a04], Tree.int
 IntKind.i64 0, Tree.fn 44 [] [Tree.ptr (Tree.int IntKind.i64 a1) 0, Tree.ptr (Tree.agg [Tree.int IntKind.i64 a20, Tree.int IntKind.i64 a21, Tree.str a22, Tree.slc a23,
 Tree.slc a24]) 0]]) fun y => bif Sh.ok (Sh.agg [Sh.int IntKind.i64, Sh.int IntKind.i64, Sh.str, Sh.slc, Sh.slc]) y then some (Tree.agg [Tree.int IntKind.i64 (Tree.toInt
 (List.headD (Tree.cs y) (Tree.bool false))), Tree.int IntKind.i64 (Tree.toInt (List.headD (List.tail (Tree.cs y)) (Tree.bool false))), Tree.str (Tree.toStr (List.headD
 (List.tail (List.tail (Tree.cs y))) (Tree.bool false))), Tree.slc (Tree.elems (List.headD (List.tail (List.tail (List.tail (Tree.cs y)))) (Tree.bool false))), Tree.slc
 (Tree.elems (List.headD (List.tail (List.tail (List.tail (List.tail (Tree.cs y))))) (Tree.bool false)))]) else none := by kernel_rfl

theorem e34 (n : Nat) (a00 : Int) (a01 : Int) (a02 : List UInt8) (a03 : List Tree) (a04 : List Tree) : evQ (Tab.env tab) n 34 [Tree.agg [Tree.int IntKind.i64 a00, Tree.int
 IntKind.i64 a01, Tree.str a02, Tree.slc a03, Tree.slc a04]] = bif firstOk (Sh.agg [Sh.int IntKind.i64, Sh.int IntKind.i64, Sh.str, Sh.slc, Sh.slc]) a04 then bif Nat.ble
 (List.length a04 * 80) 140737488355328 then L34_0 n n (↑(List.length a04) : Int) 0 a00 a01 [] a04 0 0 [] else none else none := by kernel_rfl

theorem l34_0 (n q : Nat) (s12 : Int) (s13 : Int) (h0_0_0 : Int) (h0_0_1 : Int) (h0_0_2 : List UInt8) (h1 : List Tree) (h2_0_0 : Int) (h2_0_1 : Int) (h2_0_2 : List UInt8)
 : L34_0 n (Nat.succ q) s12 s13 h0_0_0 h0_0_1 h0_0_2 h1 h2_0_0 h2_0_1 h2_0_2 = bif decide (s13 < s12) then bif decide (0 ≤ s13) && (decide (s13 < (↑(List.length h1) :
 Int)) && Nat.beq (List.length [Sh.int IntKind.i64, Sh.int IntKind.i64, Sh.str, Sh.slc, Sh.slc]) (List.length [Sh.int IntKind.i64, Sh.int IntKind.i64, Sh.str, Sh.slc,
 Sh.slc])) then Option.bind (nth h1 (Int.toNat s13)) fun y => bif Sh.ok (Sh.agg [Sh.int IntKind.i64, Sh.int IntKind.i64, Sh.str, Sh.slc, Sh.slc]) y then Option.bind (evP
 (Tab.env tab) n 34 [Tree.agg [Tree.int IntKind.i64 (Tree.toInt (List.headD (Tree.cs y) (Tree.bool false))), Tree.int IntKind.i64 (Tree.toInt (List.headD (List.tail
 (Tree.cs y)) (Tree.bool false))), Tree.str (Tree.toStr (List.headD (List.tail (List.tail (Tree.cs y))) (Tree.bool false))), Tree.slc (Tree.elems (List.headD (List.tail
 (List.tail (List.tail (Tree.cs y)))) (Tree.bool false))), Tree.slc (Tree.elems (List.headD (List.tail (List.tail (List.tail (List.tail (Tree.cs y))))) (Tree.bool
 false)))]]) fun y => bif Sh.ok (Sh.agg [Sh.int IntKind.i64, Sh.int IntKind.i64, Sh.str, Sh.slc, Sh.slc]) y then bif decide (0 ≤ s13) && (decide (s13 < (↑(List.length h1)
 : Int)) && Nat.beq (List.length [Sh.int IntKind.i64, Sh.int IntKind.i64, Sh.str, Sh.slc, Sh.slc]) (List.length [Sh.int IntKind.i64, Sh.int IntKind.i64, Sh.str, Sh.slc,
 Sh.slc])) then Option.bind (nth h1 (Int.toNat s13)) fun y_1 => bif Sh.ok (Sh.agg [Sh.int IntKind.i64, Sh.int IntKind.i64, Sh.str, Sh.slc, Sh.slc]) y_1 then L34_0 n q s12
 (IntKind.wrap IntKind.i64 (s13 + 1)) h0_0_0 h0_0_1 h0_0_2 (setN h1 (Int.toNat s13) (Tree.agg [Tree.int IntKind.i64 (Tree.toInt (List.headD (Tree.cs y) (Tree.bool
 false))), Tree.int IntKind.i64 (Tree.toInt (List.headD (List.tail (Tree.cs y)) (Tree.bool false))), Tree.str (Tree.toStr (List.headD (List.tail (List.tail (Tree.cs y)))
 (Tree.bool false))), Tree.slc (Tree.elems (List.headD (List.tail (List.tail (List.tail (Tree.cs y)))) (Tree.bool false))), Tree.slc (Tree.elems (List.headD (List.tail
 (List.tail (List.tail (List.tail (Tree.cs y))))) (Tree.bool false)))])) h2_0_0 h2_0_1 h2_0_2 else none else none else none else none else none else some (Tree.agg
 [Tree.int IntKind.i64 h0_0_0, Tree.int IntKind.i64 h0_0_1, Tree.str h0_0_2, Tree.slc [], Tree.slc h1]) := by kernel_rfl

theorem e53 (n : Nat) (a00 : Int) (a01 : Int) (a02 : List UInt8) (a03 : List Tree) (a04 : List Tree) (a1 : Int) (a2 : Int) : evQ (Tab.env tab) n 53 [Tree.agg [Tree.int
 IntKind.i64 a00, Tree.int IntKind.i64 a01, Tree.str a02, Tree.slc a03, Tree.slc a04], Tree.int IntKind.i64 a1, Tree.int IntKind.i64 a2] = bif a00 == 1 then bif decide
 (a01 ≥ 0) then bif decide (a01 ≥ a2) then bif decide (IntKind.wrap IntKind.i64 (a01 + a1) ≥ a2) then L53_0 n n a1 a2 0 a00 a01 a02 a03 a04 0 0 [] a00 (IntKind.wrap
 IntKind.i64 (a01 + a1)) a02 a03 else L53_0 n n a1 a2 0 a00 a01 a02 a03 a04 0 0 [] a00 a01 a02 a03 else L53_0 n n a1 a2 0 a00 a01 a02 a03 a04 0 0 [] a00 a01 a02 a03 else
 L53_0 n n a1 a2 0 a00 a01 a02 a03 a04 0 0 [] a00 a01 a02 a03 else L53_0 n n a1 a2 0 a00 a01 a02 a03 a04 0 0 [] a00 a01 a02 a03 := by kernel_rfl

theorem l53_0 (n q : Nat) (s1 : Int) (s2 : Int) (s8 : Int) (h0_0_0 : Int) (h0_0_1 : Int) (h0_0_2 : List UInt8) (h0_0_3 : List Tree) (h0_0_4 : List Tree) (h1_0_0 : Int)
 (h1_0_1 : Int) (h1_0_2 : List UInt8) (h2_0_0 : Int) (h2_0_1 : Int) (h2_0_2 : List UInt8) (h2_0_3 : List Tree) : L53_0 n (Nat.succ q) s1 s2 s8 h0_0_0 h0_0_1 h0_0_2 h0_0_3
 h0_0_4 h1_0_0 h1_0_1 h1_0_2 h2_0_0 h2_0_1 h2_0_2 h2_0_3 = bif decide (s8 < (↑(List.length h0_0_4) : Int)) then bif decide (0 ≤ s8) then Option.bind (nth h0_0_4 (Int.toNat
 s8)) fun y => bif Sh.ok (Sh.agg [Sh.int IntKind.i64, Sh.int IntKind.i64, Sh.str, Sh.slc, Sh.slc]) y then Option.bind (evP (Tab.env tab) n 77 [Tree.agg [Tree.int
 IntKind.i64 h0_0_0, Tree.int IntKind.i64 h0_0_1, Tree.str h0_0_2, Tree.slc h0_0_3, Tree.slc h0_0_4]]) fun y_1 => bif Sh.ok (Sh.int IntKind.i64) y_1 then Option.bind (evP
 (Tab.env tab) n 53 [Tree.agg [Tree.int IntKind.i64 (Tree.toInt (List.headD (Tree.cs y) (Tree.bool false))), Tree.int IntKind.i64 (Tree.toInt (List.headD (List.tail
 (Tree.cs y)) (Tree.bool false))), Tree.str (Tree.toStr (List.headD (List.tail (List.tail (Tree.cs y))) (Tree.bool false))), Tree.slc (Tree.elems (List.headD (List.tail
 (List.tail (List.tail (Tree.cs y)))) (Tree.bool false))), Tree.slc (Tree.elems (List.headD (List.tail (List.tail (List.tail (List.tail (Tree.cs y))))) (Tree.bool
 false)))], Tree.int IntKind.i64 s1, Tree.int IntKind.i64 (IntKind.wrap IntKind.i64 (s2 + Tree.toInt y_1))]) fun y => bif Sh.ok (Sh.agg [Sh.int IntKind.i64, Sh.int
 IntKind.i64, Sh.str, Sh.slc, Sh.slc]) y then L53_0b n q s1 s2 (IntKind.wrap IntKind.i64 (s8 + 1)) h0_0_0 h0_0_1 h0_0_2 h0_0_3 h0_0_4 h1_0_0 h1_0_1 h1_0_2 h2_0_0 h2_0_1
 h2_0_2 h2_0_3 [Tree.agg [Tree.int IntKind.i64 (Tree.toInt (List.headD (Tree.cs y) (Tree.bool false))), Tree.int IntKind.i64 (Tree.toInt (List.headD (List.tail (Tree.cs
 y)) (Tree.bool false))), Tree.str (Tree.toStr (List.headD (List.tail (List.tail (Tree.cs y))) (Tree.bool false))), Tree.slc (Tree.elems (List.headD (List.tail (List.tail
 (List.tail (Tree.cs y)))) (Tree.bool false))), Tree.slc (Tree.elems (List.headD (List.tail (List.tail (List.tail (List.tail (Tree.cs y))))) (Tree.bool false)))]] else
 none else none else none else none else some (Tree.agg [Tree.int IntKind.i64 h2_0_0, Tree.int IntKind.i64 h2_0_1, Tree.str h2_0_2, Tree.slc h2_0_3, Tree.slc []]) := by
 kernel_rfl

theorem l53_0b (n q : Nat) (s1 : Int) (s2 : Int) (s8 : Int) (h0_0_0 : Int) (h0_0_1 : Int) (h0_0_2 : List UInt8) (h0_0_3 : List Tree) (h0_0_4 : List Tree) (h1_0_0 : Int)
 (h1_0_1 : Int) (h1_0_2 : List UInt8) (h2_0_0 : Int) (h2_0_1 : Int) (h2_0_2 : List UInt8) (h2_0_3 : List Tree) (h3 : List Tree) : L53_0b n (Nat.succ q) s1 s2 s8 h0_0_0
 h0_0_1 h0_0_2 h0_0_3 h0_0_4 h1_0_0 h1_0_1 h1_0_2 h2_0_0 h2_0_1 h2_0_2 h2_0_3 h3 = bif decide (s8 < (↑(List.length h0_0_4) : Int)) then bif decide (0 ≤ s8) then
 Option.bind (nth h0_0_4 (Int.toNat s8)) fun y => bif Sh.ok (Sh.agg [Sh.int IntKind.i64, Sh.int IntKind.i64, Sh.str, Sh.slc, Sh.slc]) y then Option.bind (evP (Tab.env tab)
 n 77 [Tree.agg [Tree.int IntKind.i64 h0_0_0, Tree.int IntKind.i64 h0_0_1, Tree.str h0_0_2, Tree.slc h0_0_3, Tree.slc h0_0_4]]) fun y_1 => bif Sh.ok (Sh.int IntKind.i64)
 y_1 then Option.bind (evP (Tab.env tab) n 53 [Tree.agg [Tree.int IntKind.i64 (Tree.toInt (List.headD (Tree.cs y) (Tree.bool false))), Tree.int IntKind.i64 (Tree.toInt
 (List.headD (List.tail (Tree.cs y)) (Tree.bool false))), Tree.str (Tree.toStr (List.headD (List.tail (List.tail (Tree.cs y))) (Tree.bool false))), Tree.slc (Tree.elems
 (List.headD (List.tail (List.tail (List.tail (Tree.cs y)))) (Tree.bool false))), Tree.slc (Tree.elems (List.headD (List.tail (List.tail (List.tail (List.tail (Tree.cs
 y))))) (Tree.bool false)))], Tree.int IntKind.i64 s1, Tree.int IntKind.i64 (IntKind.wrap IntKind.i64 (s2 + Tree.toInt y_1))]) fun y => bif Sh.ok (Sh.agg [Sh.int
 IntKind.i64, Sh.int IntKind.i64, Sh.str, Sh.slc, Sh.slc]) y then bif Nat.beq (List.length [Sh.int IntKind.i64, Sh.int IntKind.i64, Sh.str, Sh.slc, Sh.slc]) (List.length
 [Sh.int IntKind.i64, Sh.int IntKind.i64, Sh.str, Sh.slc, Sh.slc]) && Nat.ble ((List.length h3 + List.length [Sh.open (Sh.agg [Sh.int IntKind.i64, Sh.int IntKind.i64,
 Sh.str, Sh.slc, Sh.slc]) y]) * 80) 140737488355328 then L53_0b n q s1 s2 (IntKind.wrap IntKind.i64 (s8 + 1)) h0_0_0 h0_0_1 h0_0_2 h0_0_3 h0_0_4 h1_0_0 h1_0_1 h1_0_2
 h2_0_0 h2_0_1 h2_0_2 h2_0_3 (h3 ++ [Sh.open (Sh.agg [Sh.int IntKind.i64, Sh.int IntKind.i64, Sh.str, Sh.slc, Sh.slc]) y]) else none else none else none else none else
 none else some (Tree.agg [Tree.int IntKind.i64 h2_0_0, Tree.int IntKind.i64 h2_0_1, Tree.str h2_0_2, Tree.slc h2_0_3, Tree.slc h3]) := by kernel_rfl

theorem e54 (n : Nat) (a00 : Int) (a01 : Int) (a02 : List UInt8) (a03 : List Tree) (a04 : List Tree) (a1 : Int) (a20 : Int) (a21 : Int) (a22 : List UInt8) (a23 : List
 Tree) (a24 : List Tree) (a3 : Int) : evQ (Tab.env tab) n 54 [Tree.agg [Tree.int IntKind.i64 a00, Tree.int IntKind.i64 a01, Tree.str a02, Tree.slc a03, Tree.slc a04],
 Tree.int IntKind.i64 a1, Tree.agg [Tree.int IntKind.i64 a20, Tree.int IntKind.i64 a21, Tree.str a22, Tree.slc a23, Tree.slc a24], Tree.int IntKind.i64 a3] = bif a00 == 1
 then bif a01 == IntKind.wrap IntKind.i64 (a1 + a3) then Option.bind (evP (Tab.env tab) n 32 [Tree.agg [Tree.int IntKind.i64 a20, Tree.int IntKind.i64 a21, Tree.str a22,
 Tree.slc a23, Tree.slc a24], Tree.int IntKind.i64 a3, Tree.int IntKind.i64 0]) fun y => bif Sh.ok (Sh.agg [Sh.int IntKind.i64, Sh.int IntKind.i64, Sh.str, Sh.slc,
 Sh.slc]) y then some (Tree.agg [Tree.int IntKind.i64 (Tree.toInt (List.headD (Tree.cs y) (Tree.bool false))), Tree.int IntKind.i64 (Tree.toInt (List.headD (List.tail
 (Tree.cs y)) (Tree.bool false))), Tree.str (Tree.toStr (List.headD (List.tail (List.tail (Tree.cs y))) (Tree.bool false))), Tree.slc (Tree.elems (List.headD (List.tail
 (List.tail (List.tail (Tree.cs y)))) (Tree.bool false))), Tree.slc (Tree.elems (List.headD (List.tail (List.tail (List.tail (List.tail (Tree.cs y))))) (Tree.bool
 false)))]) else none else bif a00 == 1 then bif decide (a01 > IntKind.wrap IntKind.i64 (a1 + a3)) then L54_0 n n a1 a3 0 a00 a01 a02 a03 a04 a20 a21 a22 a23 a24 0 0 []
 a00 (IntKind.wrap IntKind.i64 (a01 - 1)) a02 a03 else L54_0 n n a1 a3 0 a00 a01 a02 a03 a04 a20 a21 a22 a23 a24 0 0 [] a00 a01 a02 a03 else L54_0 n n a1 a3 0 a00 a01 a02
 a03 a04 a20 a21 a22 a23 a24 0 0 [] a00 a01 a02 a03 else bif a00 == 1 then bif decide (a01 > IntKind.wrap IntKind.i64 (a1 + a3)) then L54_0 n n a1 a3 0 a00 a01 a02 a03 a04
 a20 a21 a22 a23 a24 0 0 [] a00 (IntKind.wrap IntKind.i64 (a01 - 1)) a02 a03 else L54_0 n n a1 a3 0 a00 a01 a02 a03 a04 a20 a21 a22 a23 a24 0 0 [] a00 a01 a02 a03 else
 L54_0 n n a1 a3 0 a00 a01 a02 a03 a04 a20 a21 a22 a23 a24 0 0 [] a00 a01 a02 a03 := by kernel_rfl

theorem l54_0 (n q : Nat) (s1 : Int) (s3 : Int) (s10 : Int) (h0_0_0 : Int) (h0_0_1 : Int) (h0_0_2 : List UInt8) (h0_0_3 : List Tree) (h0_0_4 : List Tree) (h1_0_0 : Int)
 (h1_0_1 : Int) (h1_0_2 : List UInt8) (h1_0_3 : List Tree) (h1_0_4 : List Tree) (h2_0_0 : Int) (h2_0_1 : Int) (h2_0_2 : List UInt8) (h3_0_0 : Int) (h3_0_1 : Int) (h3_0_2 :
 List UInt8) (h3_0_3 : List Tree) : L54_0 n (Nat.succ q) s1 s3 s10 h0_0_0 h0_0_1 h0_0_2 h0_0_3 h0_0_4 h1_0_0 h1_0_1 h1_0_2 h1_0_3 h1_0_4 h2_0_0 h2_0_1 h2_0_2 h3_0_0 h3_0_1
 h3_0_2 h3_0_3 = bif decide (s10 < (↑(List.length h0_0_4) : Int)) then bif decide (0 ≤ s10) then Option.bind (nth h0_0_4 (Int.toNat s10)) fun y => bif Sh.ok (Sh.agg
 [Sh.int IntKind.i64, Sh.int IntKind.i64, Sh.str, Sh.slc, Sh.slc]) y then Option.bind (evP (Tab.env tab) n 77 [Tree.agg [Tree.int IntKind.i64 h0_0_0, Tree.int IntKind.i64
 h0_0_1, Tree.str h0_0_2, Tree.slc h0_0_3, Tree.slc h0_0_4]]) fun y_1 => bif Sh.ok (Sh.int IntKind.i64) y_1 then Option.bind (evP (Tab.env tab) n 54 [Tree.agg [Tree.int
 IntKind.i64 (Tree.toInt (List.headD (Tree.cs y) (Tree.bool false))), Tree.int IntKind.i64 (Tree.toInt (List.headD (List.tail (Tree.cs y)) (Tree.bool false))), Tree.str
 (Tree.toStr (List.headD (List.tail (List.tail (Tree.cs y))) (Tree.bool false))), Tree.slc (Tree.elems (List.headD (List.tail (List.tail (List.tail (Tree.cs y))))
 (Tree.bool false))), Tree.slc (Tree.elems (List.headD (List.tail (List.tail (List.tail (List.tail (Tree.cs y))))) (Tree.bool false)))], Tree.int IntKind.i64 s1, Tree.agg
 [Tree.int IntKind.i64 h1_0_0, Tree.int IntKind.i64 h1_0_1, Tree.str h1_0_2, Tree.slc h1_0_3, Tree.slc h1_0_4], Tree.int IntKind.i64 (IntKind.wrap IntKind.i64 (s3 +
 Tree.toInt y_1))]) fun y => bif Sh.ok (Sh.agg [Sh.int IntKind.i64, Sh.int IntKind.i64, Sh.str, Sh.slc, Sh.slc]) y then L54_0b n q s1 s3 (IntKind.wrap IntKind.i64 (s10 +
 1)) h0_0_0 h0_0_1 h0_0_2 h0_0_3 h0_0_4 h1_0_0 h1_0_1 h1_0_2 h1_0_3 h1_0_4 h2_0_0 h2_0_1 h2_0_2 h3_0_0 h3_0_1 h3_0_2 h3_0_3 [Tree.agg [Tree.int IntKind.i64 (Tree.toInt
 (List.headD (Tree.cs y) (Tree.bool false))), Tree.int IntKind.i64 (Tree.toInt (List.headD (List.tail (Tree.cs y)) (Tree.bool false))), Tree.str (Tree.toStr (List.headD
 (List.tail (List.tail (Tree.cs y))) (Tree.bool false))), Tree.slc (Tree.elems (List.headD (List.tail (List.tail (List.tail (Tree.cs y)))) (Tree.bool false))), Tree.slc
 (Tree.elems (List.headD (List.tail (List.tail (List.tail (List.tail (Tree.cs y))))) (Tree.bool false)))]] else none else none else none else none else some (Tree.agg
 [Tree.int IntKind.i64 h3_0_0, Tree.int IntKind.i64 h3_0_1, Tree.str h3_0_2, Tree.slc h3_0_3, Tree.slc []]) := by kernel_rfl

theorem l54_0b (n q : Nat) (s1 : Int) (s3 : Int) (s10 : Int) (h0_0_0 : Int) (h0_0_1 : Int) (h0_0_2 : List UInt8) (h0_0_3 : List Tree) (h0_0_4 : List Tree) (h1_0_0 : Int)
 (h1_0_1 : Int) (h1_0_2 : List UInt8) (h1_0_3 : List Tree) (h1_0_4 : List Tree) (h2_0_0 : Int) (h2_0_1 : Int) (h2_0_2 : List UInt8) (h3_0_0 : Int) (h3_0_1 : Int) (h3_0_2 :
 List UInt8) (h3_0_3 : List Tree) (h4 : List Tree) : L54_0b n (Nat.succ q) s1 s3 s10 h0_0_0 h0_0_1 h0_0_2 h0_0_3 h0_0_4 h1_0_0 h1_0_1 h1_0_2 h1_0_3 h1_0_4 h2_0_0 h2_0_1
 h2_0_2 h3_0_0 h3_0_1 h3_0_2 h3_0_3 h4 = bif decide (s10 < (↑(List.length h0_0_4) : Int)) then bif decide (0 ≤ s10) then Option.bind (nth h0_0_4 (Int.toNat s10)) fun y =>
 bif Sh.ok (Sh.agg [Sh.int IntKind.i64, Sh.int IntKind.i64, Sh.str, Sh.slc, Sh.slc]) y then Option.bind (evP (Tab.env tab) n 77 [Tree.agg [Tree.int IntKind.i64 h0_0_0,
 Tree.int IntKind.i64 h0_0_1, Tree.str h0_0_2, Tree.slc h0_0_3, Tree.slc h0_0_4]]) fun y_1 => bif Sh.ok (Sh.int IntKind.i64) y_1 then Option.bind (evP (Tab.env tab) n 54
 [Tree.agg [Tree.int IntKind.i64 (Tree.toInt (List.headD (Tree.cs y) (Tree.bool false))), Tree.int IntKind.i64 (Tree.toInt (List.headD (List.tail (Tree.cs y)) (Tree.bool
 false))), Tree.str (Tree.toStr (List.headD (List.tail (List.tail (Tree.cs y))) (Tree.bool false))), Tree.slc (Tree.elems (List.headD (List.tail (List.tail (List.tail
 (Tree.cs y)))) (Tree.bool false))), Tree.slc (Tree.elems (List.headD (List.tail (List.tail (List.tail (List.tail (Tree.cs y))))) (Tree.bool false)))], Tree.int
 IntKind.i64 s1, Tree.agg [Tree.int IntKind.i64 h1_0_0, Tree.int IntKind.i64 h1_0_1, Tree.str h1_0_2, Tree.slc h1_0_3, Tree.slc h1_0_4], Tree.int IntKind.i64 (IntKind.wrap
 IntKind.i64 (s3 + Tree.toInt y_1))]) fun y => bif Sh.ok (Sh.agg [Sh.int IntKind.i64, Sh.int IntKind.i64, Sh.str, Sh.slc, Sh.slc]) y then bif Nat.beq (List.length [Sh.int
 IntKind.i64, Sh.int IntKind.i64, Sh.str, Sh.slc, Sh.slc]) (List.length [Sh.int IntKind.i64, Sh.int IntKind.i64, Sh.str, Sh.slc, Sh.slc]) && Nat.ble ((List.length h4 +
 List.length [Sh.open (Sh.agg [Sh.int IntKind.i64, Sh.int IntKind.i64, Sh.str, Sh.slc, Sh.slc]) y]) * 80) 140737488355328 then L54_0b n q s1 s3 (IntKind.wrap IntKind.i64
 (s10 + 1)) h0_0_0 h0_0_1 h0_0_2 h0_0_3 h0_0_4 h1_0_0 h1_0_1 h1_0_2 h1_0_3 h1_0_4 h2_0_0 h2_0_1 h2_0_2 h3_0_0 h3_0_1 h3_0_2 h3_0_3 (h4 ++ [Sh.open (Sh.agg [Sh.int
 IntKind.i64, Sh.int IntKind.i64, Sh.str, Sh.slc, Sh.slc]) y]) else none else none else none else none else none else some (Tree.agg [Tree.int IntKind.i64 h3_0_0, Tree.int
 IntKind.i64 h3_0_1, Tree.str h3_0_2, Tree.slc h3_0_3, Tree.slc h4]) := by kernel_rfl

theorem e33 (n : Nat) (a00 : Int) (a01 : Int) (a02 : List UInt8) (a03 : List Tree) (a04 : List Tree) (a1 : Int) (a20 : Int) (a21 : Int) (a22 : List UInt8) (a23 : List
 Tree) (a24 : List Tree) : evQ (Tab.env tab) n 33 [Tree.agg [Tree.int IntKind.i64 a00, Tree.int IntKind.i64 a01, Tree.str a02, Tree.slc a03, Tree.slc a04], Tree.int
 IntKind.i64 a1, Tree.agg [Tree.int IntKind.i64 a20, Tree.int IntKind.i64 a21, Tree.str a22, Tree.slc a23, Tree.slc a24]] = bif decide (a1 < 0) then Option.bind (evP
 (Tab.env tab) n 32 [Tree.agg [Tree.int IntKind.i64 a00, Tree.int IntKind.i64 a01, Tree.str a02, Tree.slc a03, Tree.slc a04], Tree.int IntKind.i64 0, Tree.int IntKind.i64
 0]) fun y => bif Sh.ok (Sh.agg [Sh.int IntKind.i64, Sh.int IntKind.i64, Sh.str, Sh.slc, Sh.slc]) y then some (Tree.agg [Tree.int IntKind.i64 (Tree.toInt (List.headD
 (Tree.cs y) (Tree.bool false))), Tree.int IntKind.i64 (Tree.toInt (List.headD (List.tail (Tree.cs y)) (Tree.bool false))), Tree.str (Tree.toStr (List.headD (List.tail
 (List.tail (Tree.cs y))) (Tree.bool false))), Tree.slc (Tree.elems (List.headD (List.tail (List.tail (List.tail (Tree.cs y)))) (Tree.bool false))), Tree.slc (Tree.elems
 (List.headD (List.tail (List.tail (List.tail (List.tail (Tree.cs y))))) (Tree.bool false)))]) else none else Option.bind (evP (Tab.env tab) n 54 [Tree.agg [Tree.int
 IntKind.i64 a00, Tree.int IntKind.i64 a01, Tree.str a02, Tree.slc a03, Tree.slc a04], Tree.int IntKind.i64 a1, Tree.agg [Tree.int IntKind.i64 a20, Tree.int IntKind.i64
 a21, Tree.str a22, Tree.slc a23, Tree.slc a24], Tree.int IntKind.i64 0]) fun y => bif Sh.ok (Sh.agg [Sh.int IntKind.i64, Sh.int IntKind.i64, Sh.str, Sh.slc, Sh.slc]) y
 then some (Tree.agg [Tree.int IntKind.i64 (Tree.toInt (List.headD (Tree.cs y) (Tree.bool false))), Tree.int IntKind.i64 (Tree.toInt (List.headD (List.tail (Tree.cs y))
 (Tree.bool false))), Tree.str (Tree.toStr (List.headD (List.tail (List.tail (Tree.cs y))) (Tree.bool false))), Tree.slc (Tree.elems (List.headD (List.tail (List.tail
 (List.tail (Tree.cs y)))) (Tree.bool false))), Tree.slc (Tree.elems (List.headD (List.tail (List.tail (List.tail (List.tail (Tree.cs y))))) (Tree.bool false)))]) else
 none := by kernel_rfl

theorem e35 (n : Nat) (a00 : Int) (a01 : Int) (a02 : List UInt8) (a03 : List Tree) (a04 : List Tree) : evQ (Tab.env tab) n 35 [Tree.agg [Tree.int IntKind.i64 a00, Tree.int
 IntKind.i64 a01, Tree.str a02, Tree.slc a03, Tree.slc a04]] = L35_0 n n 0 a00 a01 a02 a03 a04 0 0 [] a00 a01 [] := by kernel_rfl

theorem l35_0 (n q : Nat) (s4 : Int) (h0_0_0 : Int) (h0_0_1 : Int) (h0_0_2 : List UInt8) (h0_0_3 : List Tree) (h0_0_4 : List Tree) (h1_0_0 : Int) (h1_0_1 : Int) (h1_0_2 :
 List UInt8) (h2_0_0 : Int) (h2_0_1 : Int) (h2_0_2 : List UInt8) : L35_0 n (Nat.succ q) s4 h0_0_0 h0_0_1 h0_0_2 h0_0_3 h0_0_4 h1_0_0 h1_0_1 h1_0_2 h2_0_0 h2_0_1 h2_0_2 =
 bif decide (s4 < (↑(List.length h0_0_4) : Int)) then bif decide (0 ≤ s4) then Option.bind (nth h0_0_4 (Int.toNat s4)) fun y => bif Sh.ok (Sh.agg [Sh.int IntKind.i64,
 Sh.int IntKind.i64, Sh.str, Sh.slc, Sh.slc]) y then Option.bind (evP (Tab.env tab) n 35 [Tree.agg [Tree.int IntKind.i64 (Tree.toInt (List.headD (Tree.cs y) (Tree.bool
 false))), Tree.int IntKind.i64 (Tree.toInt (List.headD (List.tail (Tree.cs y)) (Tree.bool false))), Tree.str (Tree.toStr (List.headD (List.tail (List.tail (Tree.cs y)))
 (Tree.bool false))), Tree.slc (Tree.elems (List.headD (List.tail (List.tail (List.tail (Tree.cs y)))) (Tree.bool false))), Tree.slc (Tree.elems (List.headD (List.tail
 (List.tail (List.tail (List.tail (Tree.cs y))))) (Tree.bool false)))]]) fun y => bif Sh.ok (Sh.agg [Sh.int IntKind.i64, Sh.int IntKind.i64, Sh.str, Sh.slc, Sh.slc]) y
 then L35_0b n q (IntKind.wrap IntKind.i64 (s4 + 1)) h0_0_0 h0_0_1 h0_0_2 h0_0_3 h0_0_4 h1_0_0 h1_0_1 h1_0_2 h2_0_0 h2_0_1 h2_0_2 [Tree.agg [Tree.int IntKind.i64
 (Tree.toInt (List.headD (Tree.cs y) (Tree.bool false))), Tree.int IntKind.i64 (Tree.toInt (List.headD (List.tail (Tree.cs y)) (Tree.bool false))), Tree.str (Tree.toStr
 (List.headD (List.tail (List.tail (Tree.cs y))) (Tree.bool false))), Tree.slc (Tree.elems (List.headD (List.tail (List.tail (List.tail (Tree.cs y)))) (Tree.bool false))),
 Tree.slc (Tree.elems (List.headD (List.tail (List.tail (List.tail (List.tail (Tree.cs y))))) (Tree.bool false)))]] else none else none else none else some (Tree.agg
 [Tree.int IntKind.i64 h2_0_0, Tree.int IntKind.i64 h2_0_1, Tree.str h2_0_2, Tree.slc [], Tree.slc []]) := by kernel_rfl

theorem l35_0b (n q : Nat) (s4 : Int) (h0_0_0 : Int) (h0_0_1 : Int) (h0_0_2 : List UInt8) (h0_0_3 : List Tree) (h0_0_4 : List Tree) (h1_0_0 : Int) (h1_0_1 : Int) (h1_0_2 :
 List UInt8) (h2_0_0 : Int) (h2_0_1 : Int) (h2_0_2 : List UInt8) (h3 : List Tree) : L35_0b n (Nat.succ q) s4 h0_0_0 h0_0_1 h0_0_2 h0_0_3 h0_0_4 h1_0_0 h1_0_1 h1_0_2 h2_0_0
 h2_0_1 h2_0_2 h3 = bif decide (s4 < (↑(List.length h0_0_4) : Int)) then bif decide (0 ≤ s4) then Option.bind (nth h0_0_4 (Int.toNat s4)) fun y => bif Sh.ok (Sh.agg
 [Sh.int IntKind.i64, Sh.int IntKind.i64, Sh.str, Sh.slc, Sh.slc]) y then Option.bind (evP (Tab.env tab) n 35 [Tree.agg [Tree.int IntKind.i64 (Tree.toInt (List.headD
 (Tree.cs y) (Tree.bool false))), Tree.int IntKind.i64 (Tree.toInt (List.headD (List.tail (Tree.cs y)) (Tree.bool false))), Tree.str (Tree.toStr (List.headD (List.tail
 (List.tail (Tree.cs y))) (Tree.bool false))), Tree.slc (Tree.elems (List.headD (List.tail (List.tail (List.tail (Tree.cs y)))) (Tree.bool false))), Tree.slc (Tree.elems
 (List.headD (List.tail (List.tail (List.tail (List.tail (Tree.cs y))))) (Tree.bool false)))]]) fun y => bif Sh.ok (Sh.agg [Sh.int IntKind.i64, Sh.int IntKind.i64, Sh.str,
 Sh.slc, Sh.slc]) y then bif Nat.beq (List.length [Sh.int IntKind.i64, Sh.int IntKind.i64, Sh.str, Sh.slc, Sh.slc]) (List.length [Sh.int IntKind.i64, Sh.int IntKind.i64,
 Sh.str, Sh.slc, Sh.slc]) && Nat.ble ((List.length h3 + List.length [Sh.open (Sh.agg [Sh.int IntKind.i64, Sh.int IntKind.i64, Sh.str, Sh.slc, Sh.slc]) y]) * 80)
 140737488355328 then L35_0b n q (IntKind.wrap IntKind.i64 (s4 + 1)) h0_0_0 h0_0_1 h0_0_2 h0_0_3 h0_0_4 h1_0_0 h1_0_1 h1_0_2 h2_0_0 h2_0_1 h2_0_2 (h3 ++ [Sh.open (Sh.agg
 [Sh.int IntKind.i64, Sh.int IntKind.i64, Sh.str, Sh.slc, Sh.slc]) y]) else none else none else none else none else some (Tree.agg [Tree.int IntKind.i64 h2_0_0, Tree.int
 IntKind.i64 h2_0_1, Tree.str h2_0_2, Tree.slc [], Tree.slc h3]) := by kernel_rfl

theorem e19 (n : Nat) (a00 : Int) (a01 : Int) (a02 : List UInt8) (a03 : List Tree) (a04 : List Tree) : evQ (Tab.env tab) n 19 [Tree.agg [Tree.int IntKind.i64 a00, Tree.int
 IntKind.i64 a01, Tree.str a02, Tree.slc a03, Tree.slc a04]] = bif a00 == 1 then bif decide (a01 > 1000000) then some (Tree.bool false) else L19_0 n n 0 a00 a01 a02 a03
 a04 else L19_0 n n 0 a00 a01 a02 a03 a04 := by kernel_rfl

theorem l19_0 (n q : Nat) (s3 : Int) (h0_0_0 : Int) (h0_0_1 : Int) (h0_0_2 : List UInt8) (h0_0_3 : List Tree) (h0_0_4 : List Tree) : L19_0 n (Nat.succ q) s3 h0_0_0 h0_0_1
 h0_0_2 h0_0_3 h0_0_4 = bif decide (s3 < (↑(List.length h0_0_4) : Int)) then bif decide (0 ≤ s3) then Option.bind (nth h0_0_4 (Int.toNat s3)) fun y => bif Sh.ok (Sh.agg
 [Sh.int IntKind.i64, Sh.int IntKind.i64, Sh.str, Sh.slc, Sh.slc]) y then Option.bind (evP (Tab.env tab) n 19 [Tree.agg [Tree.int IntKind.i64 (Tree.toInt (List.headD
 (Tree.cs y) (Tree.bool false))), Tree.int IntKind.i64 (Tree.toInt (List.headD (List.tail (Tree.cs y)) (Tree.bool false))), Tree.str (Tree.toStr (List.headD (List.tail
 (List.tail (Tree.cs y))) (Tree.bool false))), Tree.slc (Tree.elems (List.headD (List.tail (List.tail (List.tail (Tree.cs y)))) (Tree.bool false))), Tree.slc (Tree.elems
 (List.headD (List.tail (List.tail (List.tail (List.tail (Tree.cs y))))) (Tree.bool false)))]]) fun y => bif Sh.ok Sh.bool y then bif !Tree.toBool y then some (Tree.bool
 false) else L19_0 n q (IntKind.wrap IntKind.i64 (s3 + 1)) h0_0_0 h0_0_1 h0_0_2 h0_0_3 h0_0_4 else none else none else none else some (Tree.bool true) := by kernel_rfl

theorem e23 (n : Nat) (a0 : List Tree) (a1 : List Tree) : evQ (Tab.env tab) n 23 [Tree.slc a0, Tree.slc a1] = bif (↑(List.length a0) : Int) != (↑(List.length a1) : Int)
 then some (Tree.bool false) else L23_0 n n a0 a1 0 := by kernel_rfl

theorem l23_0 (n q : Nat) (s0 : List Tree) (s1 : List Tree) (s5 : Int) : L23_0 n (Nat.succ q) s0 s1 s5 = bif decide (s5 < (↑(List.length s0) : Int)) then bif decide (0 ≤
 s5) then Option.bind (nth s0 (Int.toNat s5)) fun y => bif Sh.ok (Sh.int IntKind.i64) y then bif decide (0 ≤ s5) then Option.bind (nth s1 (Int.toNat s5)) fun y_1 => bif
 Sh.ok (Sh.int IntKind.i64) y_1 then bif Tree.toInt y != Tree.toInt y_1 then some (Tree.bool false) else L23_0 n q s0 s1 (IntKind.wrap IntKind.i64 (s5 + 1)) else none else
 none else none else none else some (Tree.bool true) := by kernel_rfl

theorem e26 (n : Nat) (a0 : List UInt8) : evQ (Tab.env tab) n 26 [Tree.str a0] = bif a0 == [84, 111] then some (Tree.int IntKind.i64 2) else bif a0 == [80, 97, 105, 114]
 then some (Tree.int IntKind.i64 7) else some (Tree.int IntKind.i64 4) := by kernel_rfl


end Go.Proofs.Aw.Sa
