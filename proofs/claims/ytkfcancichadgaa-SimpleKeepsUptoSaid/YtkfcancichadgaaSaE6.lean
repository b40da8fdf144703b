/-
  EQUATIONS of the reckoned code: printed by program.
-/
import Derived.Test.YtkfcancichadgaaSaTab
import Derived.Test.YtkfcancichadgaaAw4
set_option linter.unusedSimpArgs false
set_option linter.unusedVariables false
set_option maxRecDepth 100000
namespace Go.Proofs.Aw.Sa
open Go.Proofs

def L40_0 (n q : Nat) (s0 : List Tree) (s7 : List Tree) (s27 : List Tree) (s28 : Int) (s29 : Int) (h0_0_0 : Int) (h0_0_1 : Int) (h0_0_2 : List UInt8) (h0_0_3 : List Tree) (h0_0_4 : List Tree) (h1_0_0 : List UInt8) : Option Tree :=
  evL (Tab.env tab) n 40 [1, 1, 1, 1, 0, 1, 0] [q] { ts := [AV.t (Tree.slc s0), AV.any, AV.any, AV.href 0 0 0, AV.href 1 0 0, AV.any, AV.any, AV.t (Tree.slc s7), AV.nilS, AV.any, AV.any, AV.any, AV.any, AV.any, AV.any, AV.any, AV.any, AV.any, AV.any, AV.any, AV.any, AV.any, AV.any, AV.any, AV.any, AV.any, AV.any, AV.t (Tree.slc s27), AV.t (Tree.int IntKind.i64 s28), AV.t (Tree.int IntKind.i64 s29), AV.any, AV.any, AV.any, AV.any, AV.any, AV.any, AV.any, AV.any, AV.any, AV.any, AV.any, AV.any, AV.any, AV.any, AV.any, AV.any, AV.any, AV.any, AV.any, AV.any, AV.any, AV.any, AV.any, AV.any, AV.any, AV.any, AV.any, AV.any, AV.any, AV.any, AV.any, AV.any], H := [HObj.tre (Sh.agg [Sh.int IntKind.i64, Sh.int IntKind.i64, Sh.str, Sh.slc, Sh.slc]) [Tree.agg [Tree.int IntKind.i64 h0_0_0, Tree.int IntKind.i64 h0_0_1, Tree.str h0_0_2, Tree.slc h0_0_3, Tree.slc h0_0_4]], HObj.mix (Sh.agg [Sh.str, Sh.slc]) [AV.agg [AV.t (Tree.str h1_0_0), AV.nilS]]] }

def L40_0b (n q : Nat) (s0 : List Tree) (s7 : List Tree) (s27 : List Tree) (s28 : Int) (s29 : Int) (h0_0_0 : Int) (h0_0_1 : Int) (h0_0_2 : List UInt8) (h0_0_3 : List Tree) (h0_0_4 : List Tree) (h1_0_0 : List UInt8) (h2 : List Tree) : Option Tree :=
  evL (Tab.env tab) n 40 [1, 1, 1, 1, 0, 1, 0] [q] { ts := [AV.t (Tree.slc s0), AV.any, AV.any, AV.href 0 0 0, AV.href 1 0 0, AV.any, AV.any, AV.t (Tree.slc s7), AV.hsl 2 none, AV.any, AV.any, AV.any, AV.any, AV.any, AV.any, AV.any, AV.any, AV.any, AV.any, AV.any, AV.any, AV.any, AV.any, AV.any, AV.any, AV.any, AV.any, AV.t (Tree.slc s27), AV.t (Tree.int IntKind.i64 s28), AV.t (Tree.int IntKind.i64 s29), AV.any, AV.any, AV.any, AV.any, AV.any, AV.any, AV.any, AV.any, AV.any, AV.any, AV.any, AV.any, AV.any, AV.any, AV.any, AV.any, AV.any, AV.any, AV.any, AV.any, AV.any, AV.any, AV.any, AV.any, AV.any, AV.any, AV.any, AV.any, AV.any, AV.any, AV.any, AV.any], H := [HObj.tre (Sh.agg [Sh.int IntKind.i64, Sh.int IntKind.i64, Sh.str, Sh.slc, Sh.slc]) [Tree.agg [Tree.int IntKind.i64 h0_0_0, Tree.int IntKind.i64 h0_0_1, Tree.str h0_0_2, Tree.slc h0_0_3, Tree.slc h0_0_4]], HObj.mix (Sh.agg [Sh.str, Sh.slc]) [AV.agg [AV.t (Tree.str h1_0_0), AV.nilS]], HObj.tre (Sh.agg [Sh.str, Sh.slc]) h2] }

def L40_0c (n q : Nat) (s0 : List Tree) (s27 : List Tree) (s28 : Int) (s29 : Int) (h0_0_0 : Int) (h0_0_1 : Int) (h0_0_2 : List UInt8) (h0_0_3 : List Tree) (h0_0_4 : List Tree) (h1_0_0 : List UInt8) (h2 : List Tree) : Option Tree :=
  evL (Tab.env tab) n 40 [1, 1, 1, 1, 0, 1, 0] [q] { ts := [AV.t (Tree.slc s0), AV.any, AV.any, AV.href 0 0 0, AV.href 1 0 0, AV.any, AV.any, AV.hsl 2 none, AV.nilS, AV.any, AV.any, AV.any, AV.any, AV.any, AV.any, AV.any, AV.any, AV.any, AV.any, AV.any, AV.any, AV.any, AV.any, AV.any, AV.any, AV.any, AV.any, AV.t (Tree.slc s27), AV.t (Tree.int IntKind.i64 s28), AV.t (Tree.int IntKind.i64 s29), AV.any, AV.any, AV.any, AV.any, AV.any, AV.any, AV.any, AV.any, AV.any, AV.any, AV.any, AV.any, AV.any, AV.any, AV.any, AV.any, AV.any, AV.any, AV.any, AV.any, AV.any, AV.any, AV.any, AV.any, AV.any, AV.any, AV.any, AV.any, AV.any, AV.any, AV.any, AV.any], H := [HObj.tre (Sh.agg [Sh.int IntKind.i64, Sh.int IntKind.i64, Sh.str, Sh.slc, Sh.slc]) [Tree.agg [Tree.int IntKind.i64 h0_0_0, Tree.int IntKind.i64 h0_0_1, Tree.str h0_0_2, Tree.slc h0_0_3, Tree.slc h0_0_4]], HObj.mix (Sh.agg [Sh.str, Sh.slc]) [AV.agg [AV.t (Tree.str h1_0_0), AV.nilS]], HObj.tre (Sh.agg [Sh.str, Sh.slc]) h2] }

def L40_0x3 (n q : Nat) (s0 : List Tree) (s27 : List Tree) (s28 : Int) (s29 : Int) (h0_0_0 : Int) (h0_0_1 : Int) (h0_0_2 : List UInt8) (h0_0_3 : List Tree) (h0_0_4 : List Tree) (h1_0_0 : List UInt8) (h2 : List Tree) (h3 : List Tree) : Option Tree :=
  evL (Tab.env tab) n 40 [1, 1, 1, 1, 0, 1, 0] [q] { ts := [AV.t (Tree.slc s0), AV.any, AV.any, AV.href 0 0 0, AV.href 1 0 0, AV.any, AV.any, AV.hsl 2 none, AV.hsl 3 none, AV.any, AV.any, AV.any, AV.any, AV.any, AV.any, AV.any, AV.any, AV.any, AV.any, AV.any, AV.any, AV.any, AV.any, AV.any, AV.any, AV.any, AV.any, AV.t (Tree.slc s27), AV.t (Tree.int IntKind.i64 s28), AV.t (Tree.int IntKind.i64 s29), AV.any, AV.any, AV.any, AV.any, AV.any, AV.any, AV.any, AV.any, AV.any, AV.any, AV.any, AV.any, AV.any, AV.any, AV.any, AV.any, AV.any, AV.any, AV.any, AV.any, AV.any, AV.any, AV.any, AV.any, AV.any, AV.any, AV.any, AV.any, AV.any, AV.any, AV.any, AV.any], H := [HObj.tre (Sh.agg [Sh.int IntKind.i64, Sh.int IntKind.i64, Sh.str, Sh.slc, Sh.slc]) [Tree.agg [Tree.int IntKind.i64 h0_0_0, Tree.int IntKind.i64 h0_0_1, Tree.str h0_0_2, Tree.slc h0_0_3, Tree.slc h0_0_4]], HObj.mix (Sh.agg [Sh.str, Sh.slc]) [AV.agg [AV.t (Tree.str h1_0_0), AV.nilS]], HObj.froz (Sh.agg [Sh.str, Sh.slc]) h2, HObj.tre (Sh.agg [Sh.str, Sh.slc]) h3] }

def L50_0 (n q : Nat) (s0 : List Tree) (s2 : List Tree) (s9 : List Tree) (s11 : Int) (h0_0_0 : Int) (h0_0_1 : Int) (h0_0_2 : List UInt8) (h0_0_3 : List Tree) (h0_0_4 : List Tree) (h1_0_0 : List UInt8) : Option Tree :=
  evL (Tab.env tab) n 50 [1, 1, 1, 1, 0, 1, 0] [q] { ts := [AV.t (Tree.slc s0), AV.any, AV.t (Tree.slc s2), AV.any, AV.href 0 0 0, AV.any, AV.href 1 0 0, AV.any, AV.any, AV.t (Tree.slc s9), AV.nilS, AV.t (Tree.int IntKind.i64 s11), AV.any, AV.any, AV.any, AV.any, AV.any, AV.any, AV.any, AV.any, AV.any, AV.any, AV.any, AV.any, AV.any, AV.any, AV.any, AV.any, AV.any, AV.any, AV.any, AV.any, AV.any, AV.any, AV.any, AV.any, AV.any, AV.any, AV.any, AV.any, AV.any, AV.any, AV.any, AV.any, AV.any, AV.any, AV.any, AV.any, AV.any, AV.any, AV.any, AV.any, AV.any, AV.any, AV.any, AV.any, AV.any, AV.any, AV.any, AV.any, AV.any, AV.any, AV.any, AV.any, AV.any, AV.any, AV.any, AV.any, AV.any, AV.any, AV.any, AV.any, AV.any, AV.any, AV.any, AV.any, AV.any, AV.any, AV.any, AV.any, AV.any, AV.any, AV.any, AV.any, AV.any, AV.any, AV.any, AV.any, AV.any, AV.any, AV.any, AV.any, AV.any, AV.any, AV.any, AV.any, AV.any, AV.any, AV.any, AV.any, AV.any, AV.any, AV.any, AV.any, AV.any, AV.any, AV.any, AV.any, AV.any, AV.any, AV.any, AV.any, AV.any, AV.any, AV.any, AV.any, AV.any, AV.any, AV.any, AV.any, AV.any, AV.any, AV.any, AV.any, AV.any, AV.any, AV.any, AV.any, AV.any, AV.any, AV.any, AV.any, AV.any, AV.any, AV.any, AV.any, AV.any, AV.any, AV.any, AV.any, AV.any, AV.any, AV.any, AV.any, AV.any, AV.any, AV.any, AV.any, AV.any, AV.any, AV.any, AV.any, AV.any, AV.any, AV.any, AV.any, AV.any, AV.any, AV.any, AV.any, AV.any, AV.any, AV.any, AV.any, AV.any, AV.any, AV.any, AV.any], H := [HObj.tre (Sh.agg [Sh.int IntKind.i64, Sh.int IntKind.i64, Sh.str, Sh.slc, Sh.slc]) [Tree.agg [Tree.int IntKind.i64 h0_0_0, Tree.int IntKind.i64 h0_0_1, Tree.str h0_0_2, Tree.slc h0_0_3, Tree.slc h0_0_4]], HObj.mix (Sh.agg [Sh.str, Sh.slc]) [AV.agg [AV.t (Tree.str h1_0_0), AV.nilS]]] }

def L50_0b (n q : Nat) (s0 : List Tree) (s2 : List Tree) (s9 : List Tree) (s11 : Int) (h0_0_0 : Int) (h0_0_1 : Int) (h0_0_2 : List UInt8) (h0_0_3 : List Tree) (h0_0_4 : List Tree) (h1_0_0 : List UInt8) (h2 : List Tree) : Option Tree :=
  evL (Tab.env tab) n 50 [1, 1, 1, 1, 0, 1, 0] [q] { ts := [AV.t (Tree.slc s0), AV.any, AV.t (Tree.slc s2), AV.any, AV.href 0 0 0, AV.any, AV.href 1 0 0, AV.any, AV.any, AV.t (Tree.slc s9), AV.hsl 2 none, AV.t (Tree.int IntKind.i64 s11), AV.any, AV.any, AV.any, AV.any, AV.any, AV.any, AV.any, AV.any, AV.any, AV.any, AV.any, AV.any, AV.any, AV.any, AV.any, AV.any, AV.any, AV.any, AV.any, AV.any, AV.any, AV.any, AV.any, AV.any, AV.any, AV.any, AV.any, AV.any, AV.any, AV.any, AV.any, AV.any, AV.any, AV.any, AV.any, AV.any, AV.any, AV.any, AV.any, AV.any, AV.any, AV.any, AV.any, AV.any, AV.any, AV.any, AV.any, AV.any, AV.any, AV.any, AV.any, AV.any, AV.any, AV.any, AV.any, AV.any, AV.any, AV.any, AV.any, AV.any, AV.any, AV.any, AV.any, AV.any, AV.any, AV.any, AV.any, AV.any, AV.any, AV.any, AV.any, AV.any, AV.any, AV.any, AV.any, AV.any, AV.any, AV.any, AV.any, AV.any, AV.any, AV.any, AV.any, AV.any, AV.any, AV.any, AV.any, AV.any, AV.any, AV.any, AV.any, AV.any, AV.any, AV.any, AV.any, AV.any, AV.any, AV.any, AV.any, AV.any, AV.any, AV.any, AV.any, AV.any, AV.any, AV.any, AV.any, AV.any, AV.any, AV.any, AV.any, AV.any, AV.any, AV.any, AV.any, AV.any, AV.any, AV.any, AV.any, AV.any, AV.any, AV.any, AV.any, AV.any, AV.any, AV.any, AV.any, AV.any, AV.any, AV.any, AV.any, AV.any, AV.any, AV.any, AV.any, AV.any, AV.any, AV.any, AV.any, AV.any, AV.any, AV.any, AV.any, AV.any, AV.any, AV.any, AV.any, AV.any, AV.any, AV.any, AV.any, AV.any, AV.any, AV.any, AV.any, AV.any], H := [HObj.tre (Sh.agg [Sh.int IntKind.i64, Sh.int IntKind.i64, Sh.str, Sh.slc, Sh.slc]) [Tree.agg [Tree.int IntKind.i64 h0_0_0, Tree.int IntKind.i64 h0_0_1, Tree.str h0_0_2, Tree.slc h0_0_3, Tree.slc h0_0_4]], HObj.mix (Sh.agg [Sh.str, Sh.slc]) [AV.agg [AV.t (Tree.str h1_0_0), AV.nilS]], HObj.tre (Sh.agg [Sh.str, Sh.slc]) h2] }

def L50_0c (n q : Nat) (s0 : List Tree) (s2 : List Tree) (s11 : Int) (h0_0_0 : Int) (h0_0_1 : Int) (h0_0_2 : List UInt8) (h0_0_3 : List Tree) (h0_0_4 : List Tree) (h1_0_0 : List UInt8) (h2 : List Tree) : Option Tree :=
  evL (Tab.env tab) n 50 [1, 1, 1, 1, 0, 1, 0] [q] { ts := [AV.t (Tree.slc s0), AV.any, AV.t (Tree.slc s2), AV.any, AV.href 0 0 0, AV.any, AV.href 1 0 0, AV.any, AV.any, AV.hsl 2 none, AV.nilS, AV.t (Tree.int IntKind.i64 s11), AV.any, AV.any, AV.any, AV.any, AV.any, AV.any, AV.any, AV.any, AV.any, AV.any, AV.any, AV.any, AV.any, AV.any, AV.any, AV.any, AV.any, AV.any, AV.any, AV.any, AV.any, AV.any, AV.any, AV.any, AV.any, AV.any, AV.any, AV.any, AV.any, AV.any, AV.any, AV.any, AV.any, AV.any, AV.any, AV.any, AV.any, AV.any, AV.any, AV.any, AV.any, AV.any, AV.any, AV.any, AV.any, AV.any, AV.any, AV.any, AV.any, AV.any, AV.any, AV.any, AV.any, AV.any, AV.any, AV.any, AV.any, AV.any, AV.any, AV.any, AV.any, AV.any, AV.any, AV.any, AV.any, AV.any, AV.any, AV.any, AV.any, AV.any, AV.any, AV.any, AV.any, AV.any, AV.any, AV.any, AV.any, AV.any, AV.any, AV.any, AV.any, AV.any, AV.any, AV.any, AV.any, AV.any, AV.any, AV.any, AV.any, AV.any, AV.any, AV.any, AV.any, AV.any, AV.any, AV.any, AV.any, AV.any, AV.any, AV.any, AV.any, AV.any, AV.any, AV.any, AV.any, AV.any, AV.any, AV.any, AV.any, AV.any, AV.any, AV.any, AV.any, AV.any, AV.any, AV.any, AV.any, AV.any, AV.any, AV.any, AV.any, AV.any, AV.any, AV.any, AV.any, AV.any, AV.any, AV.any, AV.any, AV.any, AV.any, AV.any, AV.any, AV.any, AV.any, AV.any, AV.any, AV.any, AV.any, AV.any, AV.any, AV.any, AV.any, AV.any, AV.any, AV.any, AV.any, AV.any, AV.any, AV.any, AV.any, AV.any, AV.any, AV.any, AV.any, AV.any], H := [HObj.tre (Sh.agg [Sh.int IntKind.i64, Sh.int IntKind.i64, Sh.str, Sh.slc, Sh.slc]) [Tree.agg [Tree.int IntKind.i64 h0_0_0, Tree.int IntKind.i64 h0_0_1, Tree.str h0_0_2, Tree.slc h0_0_3, Tree.slc h0_0_4]], HObj.mix (Sh.agg [Sh.str, Sh.slc]) [AV.agg [AV.t (Tree.str h1_0_0), AV.nilS]], HObj.tre (Sh.agg [Sh.str, Sh.slc]) h2] }

def L50_0x3 (n q : Nat) (s0 : List Tree) (s2 : List Tree) (s11 : Int) (h0_0_0 : Int) (h0_0_1 : Int) (h0_0_2 : List UInt8) (h0_0_3 : List Tree) (h0_0_4 : List Tree) (h1_0_0 : List UInt8) (h2 : List Tree) (h3 : List Tree) : Option Tree :=
  evL (Tab.env tab) n 50 [1, 1, 1, 1, 0, 1, 0] [q] { ts := [AV.t (Tree.slc s0), AV.any, AV.t (Tree.slc s2), AV.any, AV.href 0 0 0, AV.any, AV.href 1 0 0, AV.any, AV.any, AV.hsl 2 none, AV.hsl 3 none, AV.t (Tree.int IntKind.i64 s11), AV.any, AV.any, AV.any, AV.any, AV.any, AV.any, AV.any, AV.any, AV.any, AV.any, AV.any, AV.any, AV.any, AV.any, AV.any, AV.any, AV.any, AV.any, AV.any, AV.any, AV.any, AV.any, AV.any, AV.any, AV.any, AV.any, AV.any, AV.any, AV.any, AV.any, AV.any, AV.any, AV.any, AV.any, AV.any, AV.any, AV.any, AV.any, AV.any, AV.any, AV.any, AV.any, AV.any, AV.any, AV.any, AV.any, AV.any, AV.any, AV.any, AV.any, AV.any, AV.any, AV.any, AV.any, AV.any, AV.any, AV.any, AV.any, AV.any, AV.any, AV.any, AV.any, AV.any, AV.any, AV.any, AV.any, AV.any, AV.any, AV.any, AV.any, AV.any, AV.any, AV.any, AV.any, AV.any, AV.any, AV.any, AV.any, AV.any, AV.any, AV.any, AV.any, AV.any, AV.any, AV.any, AV.any, AV.any, AV.any, AV.any, AV.any, AV.any, AV.any, AV.any, AV.any, AV.any, AV.any, AV.any, AV.any, AV.any, AV.any, AV.any, AV.any, AV.any, AV.any, AV.any, AV.any, AV.any, AV.any, AV.any, AV.any, AV.any, AV.any, AV.any, AV.any, AV.any, AV.any, AV.any, AV.any, AV.any, AV.any, AV.any, AV.any, AV.any, AV.any, AV.any, AV.any, AV.any, AV.any, AV.any, AV.any, AV.any, AV.any, AV.any, AV.any, AV.any, AV.any, AV.any, AV.any, AV.any, AV.any, AV.any, AV.any, AV.any, AV.any, AV.any, AV.any, AV.any, AV.any, AV.any, AV.any, AV.any, AV.any, AV.any, AV.any, AV.any, AV.any], H := [HObj.tre (Sh.agg [Sh.int IntKind.i64, Sh.int IntKind.i64, Sh.str, Sh.slc, Sh.slc]) [Tree.agg [Tree.int IntKind.i64 h0_0_0, Tree.int IntKind.i64 h0_0_1, Tree.str h0_0_2, Tree.slc h0_0_3, Tree.slc h0_0_4]], HObj.mix (Sh.agg [Sh.str, Sh.slc]) [AV.agg [AV.t (Tree.str h1_0_0), AV.nilS]], HObj.froz (Sh.agg [Sh.str, Sh.slc]) h2, HObj.tre (Sh.agg [Sh.str, Sh.slc]) h3] }

theorem e40 (n : Nat) (a0 : List Tree) (a10 : Int) (a11 : Int) (a12 : List UInt8) (a13 : List Tree) (a14 : List Tree) : evQ (Tab.env tab) n 40 [Tree.slc a0, Tree.agg
 [Tree.int IntKind.i64 a10, Tree.int IntKind.i64 a11, Tree.str a12, Tree.slc a13, Tree.slc a14]] = bif a10 == 2 then Option.bind (runFn (Tab.env tab) n 61 [AV.t (Tree.slc
 a0)] []) fun y => bif isClip (Prod.fst y) then bif firstOk (Sh.agg [Sh.str, Sh.slc]) (clipOf (Prod.fst y)) && ((Nat.ble 1 (List.length [Tree.agg [Tree.str a12, Tree.slc
 a13]]) || Nat.beq (List.length (clipOf (Prod.fst y))) 0) && Nat.ble ((List.length (clipOf (Prod.fst y)) + List.length [Tree.agg [Tree.str a12, Tree.slc a13]]) * 40)
 140737488355328) then L40_0c n n a0 a14 (↑(List.length a14) : Int) 0 a10 a11 a12 a13 a14 [] (clipOf (Prod.fst y) ++ [Tree.agg [Tree.str a12, Tree.slc a13]]) else none
 else none else L40_0 n n a0 a0 a14 (↑(List.length a14) : Int) 0 a10 a11 a12 a13 a14 [] := by kernel_rfl

theorem l40_0 (n q : Nat) (s0 : List Tree) (s7 : List Tree) (s27 : List Tree) (s28 : Int) (s29 : Int) (h0_0_0 : Int) (h0_0_1 : Int) (h0_0_2 : List UInt8) (h0_0_3 : List
 Tree) (h0_0_4 : List Tree) (h1_0_0 : List UInt8) : L40_0 n (Nat.succ q) s0 s7 s27 s28 s29 h0_0_0 h0_0_1 h0_0_2 h0_0_3 h0_0_4 h1_0_0 = bif decide (s29 < s28) then bif
 decide (0 ≤ s29) then Option.bind (nth s27 (Int.toNat s29)) fun y => bif Sh.ok (Sh.agg [Sh.int IntKind.i64, Sh.int IntKind.i64, Sh.str, Sh.slc, Sh.slc]) y then
 Option.bind (evP (Tab.env tab) n 40 [Tree.slc s7, Tree.agg [Tree.int IntKind.i64 (Tree.toInt (List.headD (Tree.cs y) (Tree.bool false))), Tree.int IntKind.i64 (Tree.toInt
 (List.headD (List.tail (Tree.cs y)) (Tree.bool false))), Tree.str (Tree.toStr (List.headD (List.tail (List.tail (Tree.cs y))) (Tree.bool false))), Tree.slc (Tree.elems
 (List.headD (List.tail (List.tail (List.tail (Tree.cs y)))) (Tree.bool false))), Tree.slc (Tree.elems (List.headD (List.tail (List.tail (List.tail (List.tail (Tree.cs
 y))))) (Tree.bool false)))]]) fun y => bif Sh.ok (Sh.tup [Sh.agg [Sh.str, Sh.slc], Sh.slc, Sh.bool]) y then bif !Tree.toBool (List.headD (List.tail (List.tail (Tree.tupl
 y))) (Tree.bool false)) then bif firstOk (Sh.int IntKind.i64) (Tree.elems (List.headD (List.tail (Tree.tupl y)) (Tree.bool false))) then bif Nat.beq 1 1 && Nat.ble
 ((List.length [Tree.int IntKind.i64 s29] + List.length (Tree.elems (List.headD (List.tail (Tree.tupl y)) (Tree.bool false)))) * 8) 140737488355328 then some (Tree.tup
 [Tree.agg [Tree.str [], Tree.slc []], Tree.slc (Tree.int IntKind.i64 s29 :: Tree.elems (List.headD (List.tail (Tree.tupl y)) (Tree.bool false))), Tree.bool false]) else
 none else none else L40_0b n q s0 s7 s27 s28 (IntKind.wrap IntKind.i64 (s29 + 1)) h0_0_0 h0_0_1 h0_0_2 h0_0_3 h0_0_4 h1_0_0 [Tree.agg [Tree.str (Tree.toStr (List.headD
 (Tree.cs (List.headD (Tree.tupl y) (Tree.bool false))) (Tree.bool false))), Tree.slc (Tree.elems (List.headD (List.tail (Tree.cs (List.headD (Tree.tupl y) (Tree.bool
 false)))) (Tree.bool false)))]] else none else none else none else Option.bind (evP (Tab.env tab) n 62 [Tree.slc s0, Tree.agg [Tree.int IntKind.i64 h0_0_0, Tree.int
 IntKind.i64 h0_0_1, Tree.str h0_0_2, Tree.slc h0_0_3, Tree.slc h0_0_4], Tree.slc []]) fun y => bif Sh.ok (Sh.tup [Sh.agg [Sh.str, Sh.slc], Sh.bool]) y then some (Tree.tup
 [Tree.agg [Tree.str (Tree.toStr (List.headD (Tree.cs (List.headD (Tree.tupl y) (Tree.bool false))) (Tree.bool false))), Tree.slc (Tree.elems (List.headD (List.tail
 (Tree.cs (List.headD (Tree.tupl y) (Tree.bool false)))) (Tree.bool false)))], Tree.slc [], Tree.bool (Tree.toBool (List.headD (List.tail (Tree.tupl y)) (Tree.bool
 false)))]) else none := by kernel_rfl

theorem l40_0b (n q : Nat) (s0 : List Tree) (s7 : List Tree) (s27 : List Tree) (s28 : Int) (s29 : Int) (h0_0_0 : Int) (h0_0_1 : Int) (h0_0_2 : List UInt8) (h0_0_3 : List
 Tree) (h0_0_4 : List Tree) (h1_0_0 : List UInt8) (h2 : List Tree) : L40_0b n (Nat.succ q) s0 s7 s27 s28 s29 h0_0_0 h0_0_1 h0_0_2 h0_0_3 h0_0_4 h1_0_0 h2 = bif decide (s29
 < s28) then bif decide (0 ≤ s29) then Option.bind (nth s27 (Int.toNat s29)) fun y => bif Sh.ok (Sh.agg [Sh.int IntKind.i64, Sh.int IntKind.i64, Sh.str, Sh.slc, Sh.slc]) y
 then Option.bind (evP (Tab.env tab) n 40 [Tree.slc s7, Tree.agg [Tree.int IntKind.i64 (Tree.toInt (List.headD (Tree.cs y) (Tree.bool false))), Tree.int IntKind.i64
 (Tree.toInt (List.headD (List.tail (Tree.cs y)) (Tree.bool false))), Tree.str (Tree.toStr (List.headD (List.tail (List.tail (Tree.cs y))) (Tree.bool false))), Tree.slc
 (Tree.elems (List.headD (List.tail (List.tail (List.tail (Tree.cs y)))) (Tree.bool false))), Tree.slc (Tree.elems (List.headD (List.tail (List.tail (List.tail (List.tail
 (Tree.cs y))))) (Tree.bool false)))]]) fun y => bif Sh.ok (Sh.tup [Sh.agg [Sh.str, Sh.slc], Sh.slc, Sh.bool]) y then bif !Tree.toBool (List.headD (List.tail (List.tail
 (Tree.tupl y))) (Tree.bool false)) then bif firstOk (Sh.int IntKind.i64) (Tree.elems (List.headD (List.tail (Tree.tupl y)) (Tree.bool false))) then bif Nat.beq 1 1 &&
 Nat.ble ((List.length [Tree.int IntKind.i64 s29] + List.length (Tree.elems (List.headD (List.tail (Tree.tupl y)) (Tree.bool false)))) * 8) 140737488355328 then some
 (Tree.tup [Tree.agg [Tree.str [], Tree.slc []], Tree.slc (Tree.int IntKind.i64 s29 :: Tree.elems (List.headD (List.tail (Tree.tupl y)) (Tree.bool false))), Tree.bool
 false]) else none else none else bif Nat.beq (List.length [Sh.str, Sh.slc]) (List.length [Sh.str, Sh.slc]) && Nat.ble ((List.length h2 + List.length [Tree.agg [Tree.str
 (Tree.toStr (List.headD (Tree.cs (List.headD (Tree.tupl y) (Tree.bool false))) (Tree.bool false))), Tree.slc (Tree.elems (List.headD (List.tail (Tree.cs (List.headD
 (Tree.tupl y) (Tree.bool false)))) (Tree.bool false)))]]) * 40) 140737488355328 then L40_0b n q s0 s7 s27 s28 (IntKind.wrap IntKind.i64 (s29 + 1)) h0_0_0 h0_0_1 h0_0_2
 h0_0_3 h0_0_4 h1_0_0 (h2 ++ [Tree.agg [Tree.str (Tree.toStr (List.headD (Tree.cs (List.headD (Tree.tupl y) (Tree.bool false))) (Tree.bool false))), Tree.slc (Tree.elems
 (List.headD (List.tail (Tree.cs (List.headD (Tree.tupl y) (Tree.bool false)))) (Tree.bool false)))]]) else none else none else none else none else Option.bind (evP
 (Tab.env tab) n 62 [Tree.slc s0, Tree.agg [Tree.int IntKind.i64 h0_0_0, Tree.int IntKind.i64 h0_0_1, Tree.str h0_0_2, Tree.slc h0_0_3, Tree.slc h0_0_4], Tree.slc h2]) fun
 y => bif Sh.ok (Sh.tup [Sh.agg [Sh.str, Sh.slc], Sh.bool]) y then some (Tree.tup [Tree.agg [Tree.str (Tree.toStr (List.headD (Tree.cs (List.headD (Tree.tupl y) (Tree.bool
 false))) (Tree.bool false))), Tree.slc (Tree.elems (List.headD (List.tail (Tree.cs (List.headD (Tree.tupl y) (Tree.bool false)))) (Tree.bool false)))], Tree.slc [],
 Tree.bool (Tree.toBool (List.headD (List.tail (Tree.tupl y)) (Tree.bool false)))]) else none := by kernel_rfl

theorem l40_0c (n q : Nat) (s0 : List Tree) (s27 : List Tree) (s28 : Int) (s29 : Int) (h0_0_0 : Int) (h0_0_1 : Int) (h0_0_2 : List UInt8) (h0_0_3 : List Tree) (h0_0_4 :
 List Tree) (h1_0_0 : List UInt8) (h2 : List Tree) : L40_0c n (Nat.succ q) s0 s27 s28 s29 h0_0_0 h0_0_1 h0_0_2 h0_0_3 h0_0_4 h1_0_0 h2 = bif decide (s29 < s28) then bif
 decide (0 ≤ s29) then Option.bind (nth s27 (Int.toNat s29)) fun y => bif Sh.ok (Sh.agg [Sh.int IntKind.i64, Sh.int IntKind.i64, Sh.str, Sh.slc, Sh.slc]) y then
 Option.bind (evP (Tab.env tab) n 40 [Tree.slc h2, Tree.agg [Tree.int IntKind.i64 (Tree.toInt (List.headD (Tree.cs y) (Tree.bool false))), Tree.int IntKind.i64 (Tree.toInt
 (List.headD (List.tail (Tree.cs y)) (Tree.bool false))), Tree.str (Tree.toStr (List.headD (List.tail (List.tail (Tree.cs y))) (Tree.bool false))), Tree.slc (Tree.elems
 (List.headD (List.tail (List.tail (List.tail (Tree.cs y)))) (Tree.bool false))), Tree.slc (Tree.elems (List.headD (List.tail (List.tail (List.tail (List.tail (Tree.cs
 y))))) (Tree.bool false)))]]) fun y => bif Sh.ok (Sh.tup [Sh.agg [Sh.str, Sh.slc], Sh.slc, Sh.bool]) y then bif !Tree.toBool (List.headD (List.tail (List.tail (Tree.tupl
 y))) (Tree.bool false)) then bif firstOk (Sh.int IntKind.i64) (Tree.elems (List.headD (List.tail (Tree.tupl y)) (Tree.bool false))) then bif Nat.beq 1 1 && Nat.ble
 ((List.length [Tree.int IntKind.i64 s29] + List.length (Tree.elems (List.headD (List.tail (Tree.tupl y)) (Tree.bool false)))) * 8) 140737488355328 then some (Tree.tup
 [Tree.agg [Tree.str [], Tree.slc []], Tree.slc (Tree.int IntKind.i64 s29 :: Tree.elems (List.headD (List.tail (Tree.tupl y)) (Tree.bool false))), Tree.bool false]) else
 none else none else L40_0x3 n q s0 s27 s28 (IntKind.wrap IntKind.i64 (s29 + 1)) h0_0_0 h0_0_1 h0_0_2 h0_0_3 h0_0_4 h1_0_0 h2 [Tree.agg [Tree.str (Tree.toStr (List.headD
 (Tree.cs (List.headD (Tree.tupl y) (Tree.bool false))) (Tree.bool false))), Tree.slc (Tree.elems (List.headD (List.tail (Tree.cs (List.headD (Tree.tupl y) (Tree.bool
 false)))) (Tree.bool false)))]] else none else none else none else Option.bind (evP (Tab.env tab) n 62 [Tree.slc s0, Tree.agg [Tree.int IntKind.i64 h0_0_0, Tree.int
 IntKind.i64 h0_0_1, Tree.str h0_0_2, Tree.slc h0_0_3, Tree.slc h0_0_4], Tree.slc []]) fun y => bif Sh.ok (Sh.tup [Sh.agg [Sh.str, Sh.slc], Sh.bool]) y then some (Tree.tup
 [Tree.agg [Tree.str (Tree.toStr (List.headD (Tree.cs (List.headD (Tree.tupl y) (Tree.bool false))) (Tree.bool false))), Tree.slc (Tree.elems (List.headD (List.tail
 (Tree.cs (List.headD (Tree.tupl y) (Tree.bool false)))) (Tree.bool false)))], Tree.slc [], Tree.bool (Tree.toBool (List.headD (List.tail (Tree.tupl y)) (Tree.bool
 false)))]) else none := by kernel_rfl

theorem l40_0x3 (n q : Nat) (s0 : List Tree) (s27 : List Tree) (s28 : Int) (s29 : Int) (h0_0_0 : Int) (h0_0_1 : Int) (h0_0_2 : List UInt8) (h0_0_3 : List Tree) (h0_0_4 :
 List Tree) (h1_0_0 : List UInt8) (h2 : List Tree) (h3 : List Tree) : L40_0x3 n (Nat.succ q) s0 s27 s28 s29 h0_0_0 h0_0_1 h0_0_2 h0_0_3 h0_0_4 h1_0_0 h2 h3 = bif decide
 (s29 < s28) then bif decide (0 ≤ s29) then Option.bind (nth s27 (Int.toNat s29)) fun y => bif Sh.ok (Sh.agg [Sh.int IntKind.i64, Sh.int IntKind.i64, Sh.str, Sh.slc,
 Sh.slc]) y then Option.bind (evP (Tab.env tab) n 40 [Tree.slc h2, Tree.agg [Tree.int IntKind.i64 (Tree.toInt (List.headD (Tree.cs y) (Tree.bool false))), Tree.int
 IntKind.i64 (Tree.toInt (List.headD (List.tail (Tree.cs y)) (Tree.bool false))), Tree.str (Tree.toStr (List.headD (List.tail (List.tail (Tree.cs y))) (Tree.bool false))),
 Tree.slc (Tree.elems (List.headD (List.tail (List.tail (List.tail (Tree.cs y)))) (Tree.bool false))), Tree.slc (Tree.elems (List.headD (List.tail (List.tail (List.tail
 (List.tail (Tree.cs y))))) (Tree.bool false)))]]) fun y => bif Sh.ok (Sh.tup [Sh.agg [Sh.str, Sh.slc], Sh.slc, Sh.bool]) y then bif !Tree.toBool (List.headD (List.tail
 (List.tail (Tree.tupl y))) (Tree.bool false)) then bif firstOk (Sh.int IntKind.i64) (Tree.elems (List.headD (List.tail (Tree.tupl y)) (Tree.bool false))) then bif Nat.beq
 1 1 && Nat.ble ((List.length [Tree.int IntKind.i64 s29] + List.length (Tree.elems (List.headD (List.tail (Tree.tupl y)) (Tree.bool false)))) * 8) 140737488355328 then
 some (Tree.tup [Tree.agg [Tree.str [], Tree.slc []], Tree.slc (Tree.int IntKind.i64 s29 :: Tree.elems (List.headD (List.tail (Tree.tupl y)) (Tree.bool false))), Tree.bool
 false]) else none else none else bif Nat.beq (List.length [Sh.str, Sh.slc]) (List.length [Sh.str, Sh.slc]) && Nat.ble ((List.length h3 + List.length [Tree.agg [Tree.str
 (Tree.toStr (List.headD (Tree.cs (List.headD (Tree.tupl y) (Tree.bool false))) (Tree.bool false))), Tree.slc (Tree.elems (List.headD (List.tail (Tree.cs (List.headD
 (Tree.tupl y) (Tree.bool false)))) (Tree.bool false)))]]) * 40) 140737488355328 then L40_0x3 n q s0 s27 s28 (IntKind.wrap IntKind.i64 (s29 + 1)) h0_0_0 h0_0_1 h0_0_2
 h0_0_3 h0_0_4 h1_0_0 h2 (h3 ++ [Tree.agg [Tree.str (Tree.toStr (List.headD (Tree.cs (List.headD (Tree.tupl y) (Tree.bool false))) (Tree.bool false))), Tree.slc
 (Tree.elems (List.headD (List.tail (Tree.cs (List.headD (Tree.tupl y) (Tree.bool false)))) (Tree.bool false)))]]) else none else none else none else none else Option.bind
 (evP (Tab.env tab) n 62 [Tree.slc s0, Tree.agg [Tree.int IntKind.i64 h0_0_0, Tree.int IntKind.i64 h0_0_1, Tree.str h0_0_2, Tree.slc h0_0_3, Tree.slc h0_0_4], Tree.slc
 h3]) fun y => bif Sh.ok (Sh.tup [Sh.agg [Sh.str, Sh.slc], Sh.bool]) y then some (Tree.tup [Tree.agg [Tree.str (Tree.toStr (List.headD (Tree.cs (List.headD (Tree.tupl y)
 (Tree.bool false))) (Tree.bool false))), Tree.slc (Tree.elems (List.headD (List.tail (Tree.cs (List.headD (Tree.tupl y) (Tree.bool false)))) (Tree.bool false)))],
 Tree.slc [], Tree.bool (Tree.toBool (List.headD (List.tail (Tree.tupl y)) (Tree.bool false)))]) else none := by kernel_rfl

theorem e50 (n : Nat) (a0 : List Tree) (a10 : Int) (a11 : Int) (a12 : List UInt8) (a13 : List Tree) (a14 : List Tree) (a2 : List Tree) : evQ (Tab.env tab) n 50 [Tree.slc
 a0, Tree.agg [Tree.int IntKind.i64 a10, Tree.int IntKind.i64 a11, Tree.str a12, Tree.slc a13, Tree.slc a14], Tree.slc a2] = bif a10 == 2 then bif firstOk (Sh.agg [Sh.str,
 Sh.slc]) a0 then bif Nat.beq (List.length [Sh.str, Sh.slc]) (List.length [Sh.str, Sh.slc]) && Nat.ble ((List.length ([] : List Tree) + List.length a0) * 40)
 140737488355328 then bif Nat.beq (List.length [Sh.str, Sh.slc]) (List.length [Sh.str, Sh.slc]) && Nat.ble ((List.length ([] ++ a0) + List.length [Tree.agg [Tree.str a12,
 Tree.slc a13]]) * 40) 140737488355328 then L50_0c n n a0 a2 0 a10 a11 a12 a13 a14 [] ([] ++ a0 ++ [Tree.agg [Tree.str a12, Tree.slc a13]]) else none else none else none
 else L50_0 n n a0 a2 a0 0 a10 a11 a12 a13 a14 [] := by kernel_rfl

theorem l50_0 (n q : Nat) (s0 : List Tree) (s2 : List Tree) (s9 : List Tree) (s11 : Int) (h0_0_0 : Int) (h0_0_1 : Int) (h0_0_2 : List UInt8) (h0_0_3 : List Tree) (h0_0_4 :
 List Tree) (h1_0_0 : List UInt8) : L50_0 n (Nat.succ q) s0 s2 s9 s11 h0_0_0 h0_0_1 h0_0_2 h0_0_3 h0_0_4 h1_0_0 = bif decide (s11 < (↑(List.length h0_0_4) : Int)) then bif
 decide (0 ≤ s11) then Option.bind (nth h0_0_4 (Int.toNat s11)) fun y => bif Sh.ok (Sh.agg [Sh.int IntKind.i64, Sh.int IntKind.i64, Sh.str, Sh.slc, Sh.slc]) y then
 Option.bind (evP (Tab.env tab) n 70 [Tree.slc s2, Tree.int IntKind.i64 s11]) fun y_1 => bif Sh.ok Sh.slc y_1 then Option.bind (evP (Tab.env tab) n 50 [Tree.slc s9,
 Tree.agg [Tree.int IntKind.i64 (Tree.toInt (List.headD (Tree.cs y) (Tree.bool false))), Tree.int IntKind.i64 (Tree.toInt (List.headD (List.tail (Tree.cs y)) (Tree.bool
 false))), Tree.str (Tree.toStr (List.headD (List.tail (List.tail (Tree.cs y))) (Tree.bool false))), Tree.slc (Tree.elems (List.headD (List.tail (List.tail (List.tail
 (Tree.cs y)))) (Tree.bool false))), Tree.slc (Tree.elems (List.headD (List.tail (List.tail (List.tail (List.tail (Tree.cs y))))) (Tree.bool false)))], Tree.slc
 (Tree.elems y_1)]) fun y => bif Sh.ok (Sh.tup [Sh.agg [Sh.str, Sh.slc], Sh.slc, Sh.bool]) y then bif !Tree.toBool (List.headD (List.tail (List.tail (Tree.tupl y)))
 (Tree.bool false)) then some (Tree.tup [Tree.agg [Tree.str [], Tree.slc []], Tree.slc (Tree.elems (List.headD (List.tail (Tree.tupl y)) (Tree.bool false))), Tree.bool
 false]) else L50_0b n q s0 s2 s9 (IntKind.wrap IntKind.i64 (s11 + 1)) h0_0_0 h0_0_1 h0_0_2 h0_0_3 h0_0_4 h1_0_0 [Tree.agg [Tree.str (Tree.toStr (List.headD (Tree.cs
 (List.headD (Tree.tupl y) (Tree.bool false))) (Tree.bool false))), Tree.slc (Tree.elems (List.headD (List.tail (Tree.cs (List.headD (Tree.tupl y) (Tree.bool false))))
 (Tree.bool false)))]] else none else none else none else none else bif h0_0_0 == 1 then bif decide (h0_0_1 < (↑(List.length s0) : Int)) then bif decide (0 ≤ IntKind.wrap
 IntKind.i64 (IntKind.wrap IntKind.i64 ((↑(List.length s0) : Int) - 1) - h0_0_1)) then Option.bind (nth s0 (Int.toNat (IntKind.wrap IntKind.i64 (IntKind.wrap IntKind.i64
 ((↑(List.length s0) : Int) - 1) - h0_0_1)))) fun y => bif Sh.ok (Sh.agg [Sh.str, Sh.slc]) y then some (Tree.tup [Tree.agg [Tree.str (Tree.toStr (List.headD (Tree.cs y)
 (Tree.bool false))), Tree.slc (Tree.elems (List.headD (List.tail (Tree.cs y)) (Tree.bool false)))], Tree.slc [], Tree.bool true]) else none else none else some (Tree.tup
 [Tree.agg [Tree.str [], Tree.slc []], Tree.slc s2, Tree.bool false]) else bif h0_0_0 == 2 then none else bif h0_0_0 == 3 then none else bif h0_0_0 == 4 then Option.bind
 (evP (Tab.env tab) n 72 []) fun y => bif Sh.ok (Sh.agg [Sh.str, Sh.slc]) y then some (Tree.tup [Tree.agg [Tree.str (Tree.toStr (List.headD (Tree.cs y) (Tree.bool
 false))), Tree.slc (Tree.elems (List.headD (List.tail (Tree.cs y)) (Tree.bool false)))], Tree.slc [], Tree.bool true]) else none else bif h0_0_0 == 5 then none else bif
 h0_0_0 == 6 then none else bif h0_0_0 == 7 then none else bif h0_0_0 == 8 then none else bif h0_0_0 == 9 then none else some (Tree.tup [Tree.agg [Tree.str [], Tree.slc
 []], Tree.slc s2, Tree.bool false]) := by kernel_rfl

theorem l50_0b (n q : Nat) (s0 : List Tree) (s2 : List Tree) (s9 : List Tree) (s11 : Int) (h0_0_0 : Int) (h0_0_1 : Int) (h0_0_2 : List UInt8) (h0_0_3 : List Tree) (h0_0_4
 : List Tree) (h1_0_0 : List UInt8) (h2 : List Tree) : L50_0b n (Nat.succ q) s0 s2 s9 s11 h0_0_0 h0_0_1 h0_0_2 h0_0_3 h0_0_4 h1_0_0 h2 = bif decide (s11 < (↑(List.length
 h0_0_4) : Int)) then bif decide (0 ≤ s11) then Option.bind (nth h0_0_4 (Int.toNat s11)) fun y => bif Sh.ok (Sh.agg [Sh.int IntKind.i64, Sh.int IntKind.i64, Sh.str,
 Sh.slc, Sh.slc]) y then Option.bind (evP (Tab.env tab) n 70 [Tree.slc s2, Tree.int IntKind.i64 s11]) fun y_1 => bif Sh.ok Sh.slc y_1 then Option.bind (evP (Tab.env tab) n
 50 [Tree.slc s9, Tree.agg [Tree.int IntKind.i64 (Tree.toInt (List.headD (Tree.cs y) (Tree.bool false))), Tree.int IntKind.i64 (Tree.toInt (List.headD (List.tail (Tree.cs
 y)) (Tree.bool false))), Tree.str (Tree.toStr (List.headD (List.tail (List.tail (Tree.cs y))) (Tree.bool false))), Tree.slc (Tree.elems (List.headD (List.tail (List.tail
 (List.tail (Tree.cs y)))) (Tree.bool false))), Tree.slc (Tree.elems (List.headD (List.tail (List.tail (List.tail (List.tail (Tree.cs y))))) (Tree.bool false)))], Tree.slc
 (Tree.elems y_1)]) fun y => bif Sh.ok (Sh.tup [Sh.agg [Sh.str, Sh.slc], Sh.slc, Sh.bool]) y then bif !Tree.toBool (List.headD (List.tail (List.tail (Tree.tupl y)))
 (Tree.bool false)) then some (Tree.tup [Tree.agg [Tree.str [], Tree.slc []], Tree.slc (Tree.elems (List.headD (List.tail (Tree.tupl y)) (Tree.bool false))), Tree.bool
 false]) else bif Nat.beq (List.length [Sh.str, Sh.slc]) (List.length [Sh.str, Sh.slc]) && Nat.ble ((List.length h2 + List.length [Tree.agg [Tree.str (Tree.toStr
 (List.headD (Tree.cs (List.headD (Tree.tupl y) (Tree.bool false))) (Tree.bool false))), Tree.slc (Tree.elems (List.headD (List.tail (Tree.cs (List.headD (Tree.tupl y)
 (Tree.bool false)))) (Tree.bool false)))]]) * 40) 140737488355328 then L50_0b n q s0 s2 s9 (IntKind.wrap IntKind.i64 (s11 + 1)) h0_0_0 h0_0_1 h0_0_2 h0_0_3 h0_0_4 h1_0_0
 (h2 ++ [Tree.agg [Tree.str (Tree.toStr (List.headD (Tree.cs (List.headD (Tree.tupl y) (Tree.bool false))) (Tree.bool false))), Tree.slc (Tree.elems (List.headD (List.tail
 (Tree.cs (List.headD (Tree.tupl y) (Tree.bool false)))) (Tree.bool false)))]]) else none else none else none else none else none else bif h0_0_0 == 1 then bif decide
 (h0_0_1 < (↑(List.length s0) : Int)) then bif decide (0 ≤ IntKind.wrap IntKind.i64 (IntKind.wrap IntKind.i64 ((↑(List.length s0) : Int) - 1) - h0_0_1)) then Option.bind
 (nth s0 (Int.toNat (IntKind.wrap IntKind.i64 (IntKind.wrap IntKind.i64 ((↑(List.length s0) : Int) - 1) - h0_0_1)))) fun y => bif Sh.ok (Sh.agg [Sh.str, Sh.slc]) y then
 some (Tree.tup [Tree.agg [Tree.str (Tree.toStr (List.headD (Tree.cs y) (Tree.bool false))), Tree.slc (Tree.elems (List.headD (List.tail (Tree.cs y)) (Tree.bool false)))],
 Tree.slc [], Tree.bool true]) else none else none else some (Tree.tup [Tree.agg [Tree.str [], Tree.slc []], Tree.slc s2, Tree.bool false]) else bif h0_0_0 == 2 then bif
 decide (0 ≤ 0) && (decide (0 < (↑(List.length h2) : Int)) && Nat.beq (List.length [Sh.str, Sh.slc]) (List.length [Sh.str, Sh.slc])) then Option.bind (nth h2 (Int.toNat
 0)) fun y => bif Sh.ok (Sh.agg [Sh.str, Sh.slc]) y then Option.bind (evP (Tab.env tab) n 71 [Tree.str [84, 111], Tree.agg [Tree.str h0_0_2, Tree.slc h0_0_3], Tree.agg
 [Tree.str (Tree.toStr (List.headD (Tree.cs y) (Tree.bool false))), Tree.slc (Tree.elems (List.headD (List.tail (Tree.cs y)) (Tree.bool false)))]]) fun y => bif Sh.ok
 (Sh.agg [Sh.str, Sh.slc]) y then some (Tree.tup [Tree.agg [Tree.str (Tree.toStr (List.headD (Tree.cs y) (Tree.bool false))), Tree.slc (Tree.elems (List.headD (List.tail
 (Tree.cs y)) (Tree.bool false)))], Tree.slc [], Tree.bool true]) else none else none else none else bif h0_0_0 == 3 then bif decide (0 ≤ 0) && (decide (0 < (↑(List.length
 h2) : Int)) && Nat.beq (List.length [Sh.str, Sh.slc]) (List.length [Sh.str, Sh.slc])) then Option.bind (nth h2 (Int.toNat 0)) fun y => bif Sh.ok (Sh.agg [Sh.str, Sh.slc])
 y then bif Tree.toStr (List.headD (Tree.cs y) (Tree.bool false)) == [84, 111] then bif decide (0 ≤ 0) && (decide (0 < (↑(List.length h2) : Int)) && Nat.beq (List.length
 [Sh.str, Sh.slc]) (List.length [Sh.str, Sh.slc])) then Option.bind (nth h2 (Int.toNat 0)) fun y => bif Sh.ok (Sh.agg [Sh.str, Sh.slc]) y then Option.bind (nth (Tree.elems
 (List.headD (List.tail (Tree.cs y)) (Tree.bool false))) (Int.toNat 0)) fun y => bif Sh.ok (Sh.agg [Sh.str, Sh.slc]) y then bif decide (0 ≤ 1) && (decide (1 <
 (↑(List.length h2) : Int)) && Nat.beq (List.length [Sh.str, Sh.slc]) (List.length [Sh.str, Sh.slc])) then Option.bind (nth h2 (Int.toNat 1)) fun y_1 => bif Sh.ok (Sh.agg
 [Sh.str, Sh.slc]) y_1 then Option.bind (evP (Tab.env tab) n 16 [Tree.agg [Tree.str (Tree.toStr (List.headD (Tree.cs y) (Tree.bool false))), Tree.slc (Tree.elems
 (List.headD (List.tail (Tree.cs y)) (Tree.bool false)))], Tree.agg [Tree.str (Tree.toStr (List.headD (Tree.cs y_1) (Tree.bool false))), Tree.slc (Tree.elems (List.headD
 (List.tail (Tree.cs y_1)) (Tree.bool false)))]]) fun y => bif Sh.ok Sh.bool y then bif Tree.toBool y then bif decide (0 ≤ 0) && (decide (0 < (↑(List.length h2) : Int)) &&
 Nat.beq (List.length [Sh.str, Sh.slc]) (List.length [Sh.str, Sh.slc])) then Option.bind (nth h2 (Int.toNat 0)) fun y => bif Sh.ok (Sh.agg [Sh.str, Sh.slc]) y then
 Option.bind (nth (Tree.elems (List.headD (List.tail (Tree.cs y)) (Tree.bool false))) (Int.toNat 1)) fun y => bif Sh.ok (Sh.agg [Sh.str, Sh.slc]) y then some (Tree.tup
 [Tree.agg [Tree.str (Tree.toStr (List.headD (Tree.cs y) (Tree.bool false))), Tree.slc (Tree.elems (List.headD (List.tail (Tree.cs y)) (Tree.bool false)))], Tree.slc [],
 Tree.bool true]) else none else none else none else some (Tree.tup [Tree.agg [Tree.str [], Tree.slc []], Tree.slc s2, Tree.bool false]) else none else none else none else
 none else none else none else some (Tree.tup [Tree.agg [Tree.str [], Tree.slc []], Tree.slc s2, Tree.bool false]) else none else none else bif h0_0_0 == 4 then
 Option.bind (evP (Tab.env tab) n 72 []) fun y => bif Sh.ok (Sh.agg [Sh.str, Sh.slc]) y then some (Tree.tup [Tree.agg [Tree.str (Tree.toStr (List.headD (Tree.cs y)
 (Tree.bool false))), Tree.slc (Tree.elems (List.headD (List.tail (Tree.cs y)) (Tree.bool false)))], Tree.slc [], Tree.bool true]) else none else bif h0_0_0 == 5 then bif
 decide (0 ≤ 0) && (decide (0 < (↑(List.length h2) : Int)) && Nat.beq (List.length [Sh.str, Sh.slc]) (List.length [Sh.str, Sh.slc])) then Option.bind (nth h2 (Int.toNat
 0)) fun y => bif Sh.ok (Sh.agg [Sh.str, Sh.slc]) y then bif Tree.toStr (List.headD (Tree.cs y) (Tree.bool false)) == [78, 97, 116] then Option.bind (evP (Tab.env tab) n
 72 []) fun y => bif Sh.ok (Sh.agg [Sh.str, Sh.slc]) y then some (Tree.tup [Tree.agg [Tree.str (Tree.toStr (List.headD (Tree.cs y) (Tree.bool false))), Tree.slc
 (Tree.elems (List.headD (List.tail (Tree.cs y)) (Tree.bool false)))], Tree.slc [], Tree.bool true]) else none else some (Tree.tup [Tree.agg [Tree.str [], Tree.slc []],
 Tree.slc s2, Tree.bool false]) else none else none else bif h0_0_0 == 6 then bif decide (0 ≤ 0) && (decide (0 < (↑(List.length h2) : Int)) && Nat.beq (List.length
 [Sh.str, Sh.slc]) (List.length [Sh.str, Sh.slc])) then Option.bind (nth h2 (Int.toNat 0)) fun y => bif Sh.ok (Sh.agg [Sh.str, Sh.slc]) y then bif Tree.toStr (List.headD
 (Tree.cs y) (Tree.bool false)) == [78, 97, 116] then bif decide (0 ≤ 1) && (decide (1 < (↑(List.length h2) : Int)) && Nat.beq (List.length [Sh.str, Sh.slc]) (List.length
 [Sh.str, Sh.slc])) then Option.bind (nth h2 (Int.toNat 1)) fun y => bif Sh.ok (Sh.agg [Sh.str, Sh.slc]) y then bif decide (0 ≤ 2) && (decide (2 < (↑(List.length h2) :
 Int)) && Nat.beq (List.length [Sh.str, Sh.slc]) (List.length [Sh.str, Sh.slc])) then Option.bind (nth h2 (Int.toNat 2)) fun y_1 => bif Sh.ok (Sh.agg [Sh.str, Sh.slc]) y_1
 then bif decide (0 ≤ 2) && (decide (2 < (↑(List.length h2) : Int)) && Nat.beq (List.length [Sh.str, Sh.slc]) (List.length [Sh.str, Sh.slc])) then Option.bind (nth h2
 (Int.toNat 2)) fun y_2 => bif Sh.ok (Sh.agg [Sh.str, Sh.slc]) y_2 then Option.bind (evP (Tab.env tab) n 71 [Tree.str [84, 111], Tree.agg [Tree.str (Tree.toStr (List.headD
 (Tree.cs y_1) (Tree.bool false))), Tree.slc (Tree.elems (List.headD (List.tail (Tree.cs y_1)) (Tree.bool false)))], Tree.agg [Tree.str (Tree.toStr (List.headD (Tree.cs
 y_2) (Tree.bool false))), Tree.slc (Tree.elems (List.headD (List.tail (Tree.cs y_2)) (Tree.bool false)))]]) fun y_3 => bif Sh.ok (Sh.agg [Sh.str, Sh.slc]) y_3 then
 Option.bind (evP (Tab.env tab) n 16 [Tree.agg [Tree.str (Tree.toStr (List.headD (Tree.cs y) (Tree.bool false))), Tree.slc (Tree.elems (List.headD (List.tail (Tree.cs y))
 (Tree.bool false)))], Tree.agg [Tree.str (Tree.toStr (List.headD (Tree.cs y_3) (Tree.bool false))), Tree.slc (Tree.elems (List.headD (List.tail (Tree.cs y_3)) (Tree.bool
 false)))]]) fun y => bif Sh.ok Sh.bool y then bif Tree.toBool y then bif decide (0 ≤ 2) && (decide (2 < (↑(List.length h2) : Int)) && Nat.beq (List.length [Sh.str,
 Sh.slc]) (List.length [Sh.str, Sh.slc])) then Option.bind (nth h2 (Int.toNat 2)) fun y => bif Sh.ok (Sh.agg [Sh.str, Sh.slc]) y then some (Tree.tup [Tree.agg [Tree.str
 (Tree.toStr (List.headD (Tree.cs y) (Tree.bool false))), Tree.slc (Tree.elems (List.headD (List.tail (Tree.cs y)) (Tree.bool false)))], Tree.slc [], Tree.bool true]) else
 none else none else some (Tree.tup [Tree.agg [Tree.str [], Tree.slc []], Tree.slc s2, Tree.bool false]) else none else none else none else none else none else none else
 none else none else some (Tree.tup [Tree.agg [Tree.str [], Tree.slc []], Tree.slc s2, Tree.bool false]) else none else none else bif h0_0_0 == 7 then bif decide (0 ≤ 0)
 && (decide (0 < (↑(List.length h2) : Int)) && Nat.beq (List.length [Sh.str, Sh.slc]) (List.length [Sh.str, Sh.slc])) then Option.bind (nth h2 (Int.toNat 0)) fun y => bif
 Sh.ok (Sh.agg [Sh.str, Sh.slc]) y then bif decide (0 ≤ 1) && (decide (1 < (↑(List.length h2) : Int)) && Nat.beq (List.length [Sh.str, Sh.slc]) (List.length [Sh.str,
 Sh.slc])) then Option.bind (nth h2 (Int.toNat 1)) fun y_1 => bif Sh.ok (Sh.agg [Sh.str, Sh.slc]) y_1 then Option.bind (evP (Tab.env tab) n 71 [Tree.str [80, 97, 105,
 114], Tree.agg [Tree.str (Tree.toStr (List.headD (Tree.cs y) (Tree.bool false))), Tree.slc (Tree.elems (List.headD (List.tail (Tree.cs y)) (Tree.bool false)))], Tree.agg
 [Tree.str (Tree.toStr (List.headD (Tree.cs y_1) (Tree.bool false))), Tree.slc (Tree.elems (List.headD (List.tail (Tree.cs y_1)) (Tree.bool false)))]]) fun y => bif Sh.ok
 (Sh.agg [Sh.str, Sh.slc]) y then some (Tree.tup [Tree.agg [Tree.str (Tree.toStr (List.headD (Tree.cs y) (Tree.bool false))), Tree.slc (Tree.elems (List.headD (List.tail
 (Tree.cs y)) (Tree.bool false)))], Tree.slc [], Tree.bool true]) else none else none else none else none else none else bif h0_0_0 == 8 then bif decide (0 ≤ 0) && (decide
 (0 < (↑(List.length h2) : Int)) && Nat.beq (List.length [Sh.str, Sh.slc]) (List.length [Sh.str, Sh.slc])) then Option.bind (nth h2 (Int.toNat 0)) fun y => bif Sh.ok
 (Sh.agg [Sh.str, Sh.slc]) y then bif Tree.toStr (List.headD (Tree.cs y) (Tree.bool false)) == [80, 97, 105, 114] then bif decide (0 ≤ 0) && (decide (0 < (↑(List.length
 h2) : Int)) && Nat.beq (List.length [Sh.str, Sh.slc]) (List.length [Sh.str, Sh.slc])) then Option.bind (nth h2 (Int.toNat 0)) fun y => bif Sh.ok (Sh.agg [Sh.str, Sh.slc])
 y then bif decide (0 ≤ IntKind.wrap IntKind.i64 (h0_0_0 - 8)) then Option.bind (nth (Tree.elems (List.headD (List.tail (Tree.cs y)) (Tree.bool false))) (Int.toNat
 (IntKind.wrap IntKind.i64 (h0_0_0 - 8)))) fun y => bif Sh.ok (Sh.agg [Sh.str, Sh.slc]) y then some (Tree.tup [Tree.agg [Tree.str (Tree.toStr (List.headD (Tree.cs y)
 (Tree.bool false))), Tree.slc (Tree.elems (List.headD (List.tail (Tree.cs y)) (Tree.bool false)))], Tree.slc [], Tree.bool true]) else none else none else none else none
 else some (Tree.tup [Tree.agg [Tree.str [], Tree.slc []], Tree.slc s2, Tree.bool false]) else none else none else bif h0_0_0 == 9 then bif decide (0 ≤ 0) && (decide (0 <
 (↑(List.length h2) : Int)) && Nat.beq (List.length [Sh.str, Sh.slc]) (List.length [Sh.str, Sh.slc])) then Option.bind (nth h2 (Int.toNat 0)) fun y => bif Sh.ok (Sh.agg
 [Sh.str, Sh.slc]) y then bif Tree.toStr (List.headD (Tree.cs y) (Tree.bool false)) == [80, 97, 105, 114] then bif decide (0 ≤ 0) && (decide (0 < (↑(List.length h2) :
 Int)) && Nat.beq (List.length [Sh.str, Sh.slc]) (List.length [Sh.str, Sh.slc])) then Option.bind (nth h2 (Int.toNat 0)) fun y => bif Sh.ok (Sh.agg [Sh.str, Sh.slc]) y
 then bif decide (0 ≤ IntKind.wrap IntKind.i64 (h0_0_0 - 8)) then Option.bind (nth (Tree.elems (List.headD (List.tail (Tree.cs y)) (Tree.bool false))) (Int.toNat
 (IntKind.wrap IntKind.i64 (h0_0_0 - 8)))) fun y => bif Sh.ok (Sh.agg [Sh.str, Sh.slc]) y then some (Tree.tup [Tree.agg [Tree.str (Tree.toStr (List.headD (Tree.cs y)
 (Tree.bool false))), Tree.slc (Tree.elems (List.headD (List.tail (Tree.cs y)) (Tree.bool false)))], Tree.slc [], Tree.bool true]) else none else none else none else none
 else some (Tree.tup [Tree.agg [Tree.str [], Tree.slc []], Tree.slc s2, Tree.bool false]) else none else none else some (Tree.tup [Tree.agg [Tree.str [], Tree.slc []],
 Tree.slc s2, Tree.bool false]) := by kernel_rfl

theorem l50_0c (n q : Nat) (s0 : List Tree) (s2 : List Tree) (s11 : Int) (h0_0_0 : Int) (h0_0_1 : Int) (h0_0_2 : List UInt8) (h0_0_3 : List Tree) (h0_0_4 : List Tree)
 (h1_0_0 : List UInt8) (h2 : List Tree) : L50_0c n (Nat.succ q) s0 s2 s11 h0_0_0 h0_0_1 h0_0_2 h0_0_3 h0_0_4 h1_0_0 h2 = bif decide (s11 < (↑(List.length h0_0_4) : Int))
 then bif decide (0 ≤ s11) then Option.bind (nth h0_0_4 (Int.toNat s11)) fun y => bif Sh.ok (Sh.agg [Sh.int IntKind.i64, Sh.int IntKind.i64, Sh.str, Sh.slc, Sh.slc]) y
 then Option.bind (evP (Tab.env tab) n 70 [Tree.slc s2, Tree.int IntKind.i64 s11]) fun y_1 => bif Sh.ok Sh.slc y_1 then Option.bind (evP (Tab.env tab) n 50 [Tree.slc h2,
 Tree.agg [Tree.int IntKind.i64 (Tree.toInt (List.headD (Tree.cs y) (Tree.bool false))), Tree.int IntKind.i64 (Tree.toInt (List.headD (List.tail (Tree.cs y)) (Tree.bool
 false))), Tree.str (Tree.toStr (List.headD (List.tail (List.tail (Tree.cs y))) (Tree.bool false))), Tree.slc (Tree.elems (List.headD (List.tail (List.tail (List.tail
 (Tree.cs y)))) (Tree.bool false))), Tree.slc (Tree.elems (List.headD (List.tail (List.tail (List.tail (List.tail (Tree.cs y))))) (Tree.bool false)))], Tree.slc
 (Tree.elems y_1)]) fun y => bif Sh.ok (Sh.tup [Sh.agg [Sh.str, Sh.slc], Sh.slc, Sh.bool]) y then bif !Tree.toBool (List.headD (List.tail (List.tail (Tree.tupl y)))
 (Tree.bool false)) then some (Tree.tup [Tree.agg [Tree.str [], Tree.slc []], Tree.slc (Tree.elems (List.headD (List.tail (Tree.tupl y)) (Tree.bool false))), Tree.bool
 false]) else L50_0x3 n q s0 s2 (IntKind.wrap IntKind.i64 (s11 + 1)) h0_0_0 h0_0_1 h0_0_2 h0_0_3 h0_0_4 h1_0_0 h2 [Tree.agg [Tree.str (Tree.toStr (List.headD (Tree.cs
 (List.headD (Tree.tupl y) (Tree.bool false))) (Tree.bool false))), Tree.slc (Tree.elems (List.headD (List.tail (Tree.cs (List.headD (Tree.tupl y) (Tree.bool false))))
 (Tree.bool false)))]] else none else none else none else none else bif h0_0_0 == 1 then bif decide (h0_0_1 < (↑(List.length s0) : Int)) then bif decide (0 ≤ IntKind.wrap
 IntKind.i64 (IntKind.wrap IntKind.i64 ((↑(List.length s0) : Int) - 1) - h0_0_1)) then Option.bind (nth s0 (Int.toNat (IntKind.wrap IntKind.i64 (IntKind.wrap IntKind.i64
 ((↑(List.length s0) : Int) - 1) - h0_0_1)))) fun y => bif Sh.ok (Sh.agg [Sh.str, Sh.slc]) y then some (Tree.tup [Tree.agg [Tree.str (Tree.toStr (List.headD (Tree.cs y)
 (Tree.bool false))), Tree.slc (Tree.elems (List.headD (List.tail (Tree.cs y)) (Tree.bool false)))], Tree.slc [], Tree.bool true]) else none else none else some (Tree.tup
 [Tree.agg [Tree.str [], Tree.slc []], Tree.slc s2, Tree.bool false]) else bif h0_0_0 == 2 then none else bif h0_0_0 == 3 then none else bif h0_0_0 == 4 then Option.bind
 (evP (Tab.env tab) n 72 []) fun y => bif Sh.ok (Sh.agg [Sh.str, Sh.slc]) y then some (Tree.tup [Tree.agg [Tree.str (Tree.toStr (List.headD (Tree.cs y) (Tree.bool
 false))), Tree.slc (Tree.elems (List.headD (List.tail (Tree.cs y)) (Tree.bool false)))], Tree.slc [], Tree.bool true]) else none else bif h0_0_0 == 5 then none else bif
 h0_0_0 == 6 then none else bif h0_0_0 == 7 then none else bif h0_0_0 == 8 then none else bif h0_0_0 == 9 then none else some (Tree.tup [Tree.agg [Tree.str [], Tree.slc
 []], Tree.slc s2, Tree.bool false]) := by kernel_rfl

theorem l50_0x3 (n q : Nat) (s0 : List Tree) (s2 : List Tree) (s11 : Int) (h0_0_0 : Int) (h0_0_1 : Int) (h0_0_2 : List UInt8) (h0_0_3 : List Tree) (h0_0_4 : List Tree)
 (h1_0_0 : List UInt8) (h2 : List Tree) (h3 : List Tree) : L50_0x3 n (Nat.succ q) s0 s2 s11 h0_0_0 h0_0_1 h0_0_2 h0_0_3 h0_0_4 h1_0_0 h2 h3 = bif decide (s11 <
 (↑(List.length h0_0_4) : Int)) then bif decide (0 ≤ s11) then Option.bind (nth h0_0_4 (Int.toNat s11)) fun y => bif Sh.ok (Sh.agg [Sh.int IntKind.i64, Sh.int IntKind.i64,
 Sh.str, Sh.slc, Sh.slc]) y then Option.bind (evP (Tab.env tab) n 70 [Tree.slc s2, Tree.int IntKind.i64 s11]) fun y_1 => bif Sh.ok Sh.slc y_1 then Option.bind (evP
 (Tab.env tab) n 50 [Tree.slc h2, Tree.agg [Tree.int IntKind.i64 (Tree.toInt (List.headD (Tree.cs y) (Tree.bool false))), Tree.int IntKind.i64 (Tree.toInt (List.headD
 (List.tail (Tree.cs y)) (Tree.bool false))), Tree.str (Tree.toStr (List.headD (List.tail (List.tail (Tree.cs y))) (Tree.bool false))), Tree.slc (Tree.elems (List.headD
 (List.tail (List.tail (List.tail (Tree.cs y)))) (Tree.bool false))), Tree.slc (Tree.elems (List.headD (List.tail (List.tail (List.tail (List.tail (Tree.cs y)))))
 (Tree.bool false)))], Tree.slc (Tree.elems y_1)]) fun y => bif Sh.ok (Sh.tup [Sh.agg [Sh.str, Sh.slc], Sh.slc, Sh.bool]) y then bif !Tree.toBool (List.headD (List.tail
 (List.tail (Tree.tupl y))) (Tree.bool false)) then some (Tree.tup [Tree.agg [Tree.str [], Tree.slc []], Tree.slc (Tree.elems (List.headD (List.tail (Tree.tupl y))
 (Tree.bool false))), Tree.bool false]) else bif Nat.beq (List.length [Sh.str, Sh.slc]) (List.length [Sh.str, Sh.slc]) && Nat.ble ((List.length h3 + List.length [Tree.agg
 [Tree.str (Tree.toStr (List.headD (Tree.cs (List.headD (Tree.tupl y) (Tree.bool false))) (Tree.bool false))), Tree.slc (Tree.elems (List.headD (List.tail (Tree.cs
 (List.headD (Tree.tupl y) (Tree.bool false)))) (Tree.bool false)))]]) * 40) 140737488355328 then L50_0x3 n q s0 s2 (IntKind.wrap IntKind.i64 (s11 + 1)) h0_0_0 h0_0_1
 h0_0_2 h0_0_3 h0_0_4 h1_0_0 h2 (h3 ++ [Tree.agg [Tree.str (Tree.toStr (List.headD (Tree.cs (List.headD (Tree.tupl y) (Tree.bool false))) (Tree.bool false))), Tree.slc
 (Tree.elems (List.headD (List.tail (Tree.cs (List.headD (Tree.tupl y) (Tree.bool false)))) (Tree.bool false)))]]) else none else none else none else none else none else
 bif h0_0_0 == 1 then bif decide (h0_0_1 < (↑(List.length s0) : Int)) then bif decide (0 ≤ IntKind.wrap IntKind.i64 (IntKind.wrap IntKind.i64 ((↑(List.length s0) : Int) -
 1) - h0_0_1)) then Option.bind (nth s0 (Int.toNat (IntKind.wrap IntKind.i64 (IntKind.wrap IntKind.i64 ((↑(List.length s0) : Int) - 1) - h0_0_1)))) fun y => bif Sh.ok
 (Sh.agg [Sh.str, Sh.slc]) y then some (Tree.tup [Tree.agg [Tree.str (Tree.toStr (List.headD (Tree.cs y) (Tree.bool false))), Tree.slc (Tree.elems (List.headD (List.tail
 (Tree.cs y)) (Tree.bool false)))], Tree.slc [], Tree.bool true]) else none else none else some (Tree.tup [Tree.agg [Tree.str [], Tree.slc []], Tree.slc s2, Tree.bool
 false]) else bif h0_0_0 == 2 then bif decide (0 ≤ 0) && (decide (0 < (↑(List.length h3) : Int)) && Nat.beq (List.length [Sh.str, Sh.slc]) (List.length [Sh.str, Sh.slc]))
 then Option.bind (nth h3 (Int.toNat 0)) fun y => bif Sh.ok (Sh.agg [Sh.str, Sh.slc]) y then Option.bind (evP (Tab.env tab) n 71 [Tree.str [84, 111], Tree.agg [Tree.str
 h0_0_2, Tree.slc h0_0_3], Tree.agg [Tree.str (Tree.toStr (List.headD (Tree.cs y) (Tree.bool false))), Tree.slc (Tree.elems (List.headD (List.tail (Tree.cs y)) (Tree.bool
 false)))]]) fun y => bif Sh.ok (Sh.agg [Sh.str, Sh.slc]) y then some (Tree.tup [Tree.agg [Tree.str (Tree.toStr (List.headD (Tree.cs y) (Tree.bool false))), Tree.slc
 (Tree.elems (List.headD (List.tail (Tree.cs y)) (Tree.bool false)))], Tree.slc [], Tree.bool true]) else none else none else none else bif h0_0_0 == 3 then bif decide (0
 ≤ 0) && (decide (0 < (↑(List.length h3) : Int)) && Nat.beq (List.length [Sh.str, Sh.slc]) (List.length [Sh.str, Sh.slc])) then Option.bind (nth h3 (Int.toNat 0)) fun y =>
 bif Sh.ok (Sh.agg [Sh.str, Sh.slc]) y then bif Tree.toStr (List.headD (Tree.cs y) (Tree.bool false)) == [84, 111] then bif decide (0 ≤ 0) && (decide (0 < (↑(List.length
 h3) : Int)) && Nat.beq (List.length [Sh.str, Sh.slc]) (List.length [Sh.str, Sh.slc])) then Option.bind (nth h3 (Int.toNat 0)) fun y => bif Sh.ok (Sh.agg [Sh.str, Sh.slc])
 y then Option.bind (nth (Tree.elems (List.headD (List.tail (Tree.cs y)) (Tree.bool false))) (Int.toNat 0)) fun y => bif Sh.ok (Sh.agg [Sh.str, Sh.slc]) y then bif decide
 (0 ≤ 1) && (decide (1 < (↑(List.length h3) : Int)) && Nat.beq (List.length [Sh.str, Sh.slc]) (List.length [Sh.str, Sh.slc])) then Option.bind (nth h3 (Int.toNat 1)) fun
 y_1 => bif Sh.ok (Sh.agg [Sh.str, Sh.slc]) y_1 then Option.bind (evP (Tab.env tab) n 16 [Tree.agg [Tree.str (Tree.toStr (List.headD (Tree.cs y) (Tree.bool false))),
 Tree.slc (Tree.elems (List.headD (List.tail (Tree.cs y)) (Tree.bool false)))], Tree.agg [Tree.str (Tree.toStr (List.headD (Tree.cs y_1) (Tree.bool false))), Tree.slc
 (Tree.elems (List.headD (List.tail (Tree.cs y_1)) (Tree.bool false)))]]) fun y => bif Sh.ok Sh.bool y then bif Tree.toBool y then bif decide (0 ≤ 0) && (decide (0 <
 (↑(List.length h3) : Int)) && Nat.beq (List.length [Sh.str, Sh.slc]) (List.length [Sh.str, Sh.slc])) then Option.bind (nth h3 (Int.toNat 0)) fun y => bif Sh.ok (Sh.agg
 [Sh.str, Sh.slc]) y then Option.bind (nth (Tree.elems (List.headD (List.tail (Tree.cs y)) (Tree.bool false))) (Int.toNat 1)) fun y => bif Sh.ok (Sh.agg [Sh.str, Sh.slc])
 y then some (Tree.tup [Tree.agg [Tree.str (Tree.toStr (List.headD (Tree.cs y) (Tree.bool false))), Tree.slc (Tree.elems (List.headD (List.tail (Tree.cs y)) (Tree.bool
 false)))], Tree.slc [], Tree.bool true]) else none else none else none else some (Tree.tup [Tree.agg [Tree.str [], Tree.slc []], Tree.slc s2, Tree.bool false]) else none
 else none else none else none else none else none else some (Tree.tup [Tree.agg [Tree.str [], Tree.slc []], Tree.slc s2, Tree.bool false]) else none else none else bif
 h0_0_0 == 4 then Option.bind (evP (Tab.env tab) n 72 []) fun y => bif Sh.ok (Sh.agg [Sh.str, Sh.slc]) y then some (Tree.tup [Tree.agg [Tree.str (Tree.toStr (List.headD
 (Tree.cs y) (Tree.bool false))), Tree.slc (Tree.elems (List.headD (List.tail (Tree.cs y)) (Tree.bool false)))], Tree.slc [], Tree.bool true]) else none else bif h0_0_0 ==
 5 then bif decide (0 ≤ 0) && (decide (0 < (↑(List.length h3) : Int)) && Nat.beq (List.length [Sh.str, Sh.slc]) (List.length [Sh.str, Sh.slc])) then Option.bind (nth h3
 (Int.toNat 0)) fun y => bif Sh.ok (Sh.agg [Sh.str, Sh.slc]) y then bif Tree.toStr (List.headD (Tree.cs y) (Tree.bool false)) == [78, 97, 116] then Option.bind (evP
 (Tab.env tab) n 72 []) fun y => bif Sh.ok (Sh.agg [Sh.str, Sh.slc]) y then some (Tree.tup [Tree.agg [Tree.str (Tree.toStr (List.headD (Tree.cs y) (Tree.bool false))),
 Tree.slc (Tree.elems (List.headD (List.tail (Tree.cs y)) (Tree.bool false)))], Tree.slc [], Tree.bool true]) else none else some (Tree.tup [Tree.agg [Tree.str [],
 Tree.slc []], Tree.slc s2, Tree.bool false]) else none else none else bif h0_0_0 == 6 then bif decide (0 ≤ 0) && (decide (0 < (↑(List.length h3) : Int)) && Nat.beq
 (List.length [Sh.str, Sh.slc]) (List.length [Sh.str, Sh.slc])) then Option.bind (nth h3 (Int.toNat 0)) fun y => bif Sh.ok (Sh.agg [Sh.str, Sh.slc]) y then bif Tree.toStr
 (List.headD (Tree.cs y) (Tree.bool false)) == [78, 97, 116] then bif decide (0 ≤ 1) && (decide (1 < (↑(List.length h3) : Int)) && Nat.beq (List.length [Sh.str, Sh.slc])
 (List.length [Sh.str, Sh.slc])) then Option.bind (nth h3 (Int.toNat 1)) fun y => bif Sh.ok (Sh.agg [Sh.str, Sh.slc]) y then bif decide (0 ≤ 2) && (decide (2 <
 (↑(List.length h3) : Int)) && Nat.beq (List.length [Sh.str, Sh.slc]) (List.length [Sh.str, Sh.slc])) then Option.bind (nth h3 (Int.toNat 2)) fun y_1 => bif Sh.ok (Sh.agg
 [Sh.str, Sh.slc]) y_1 then bif decide (0 ≤ 2) && (decide (2 < (↑(List.length h3) : Int)) && Nat.beq (List.length [Sh.str, Sh.slc]) (List.length [Sh.str, Sh.slc])) then
 Option.bind (nth h3 (Int.toNat 2)) fun y_2 => bif Sh.ok (Sh.agg [Sh.str, Sh.slc]) y_2 then Option.bind (evP (Tab.env tab) n 71 [Tree.str [84, 111], Tree.agg [Tree.str
 (Tree.toStr (List.headD (Tree.cs y_1) (Tree.bool false))), Tree.slc (Tree.elems (List.headD (List.tail (Tree.cs y_1)) (Tree.bool false)))], Tree.agg [Tree.str (Tree.toStr
 (List.headD (Tree.cs y_2) (Tree.bool false))), Tree.slc (Tree.elems (List.headD (List.tail (Tree.cs y_2)) (Tree.bool false)))]]) fun y_3 => bif Sh.ok (Sh.agg [Sh.str,
 Sh.slc]) y_3 then Option.bind (evP (Tab.env tab) n 16 [Tree.agg [Tree.str (Tree.toStr (List.headD (Tree.cs y) (Tree.bool false))), Tree.slc (Tree.elems (List.headD
 (List.tail (Tree.cs y)) (Tree.bool false)))], Tree.agg [Tree.str (Tree.toStr (List.headD (Tree.cs y_3) (Tree.bool false))), Tree.slc (Tree.elems (List.headD (List.tail
 (Tree.cs y_3)) (Tree.bool false)))]]) fun y => bif Sh.ok Sh.bool y then bif Tree.toBool y then bif decide (0 ≤ 2) && (decide (2 < (↑(List.length h3) : Int)) && Nat.beq
 (List.length [Sh.str, Sh.slc]) (List.length [Sh.str, Sh.slc])) then Option.bind (nth h3 (Int.toNat 2)) fun y => bif Sh.ok (Sh.agg [Sh.str, Sh.slc]) y then some (Tree.tup
 [Tree.agg [Tree.str (Tree.toStr (List.headD (Tree.cs y) (Tree.bool false))), Tree.slc (Tree.elems (List.headD (List.tail (Tree.cs y)) (Tree.bool false)))], Tree.slc [],
 Tree.bool true]) else none else none else some (Tree.tup [Tree.agg [Tree.str [], Tree.slc []], Tree.slc s2, Tree.bool false]) else none else none else none else none else
 none else none else none else none else some (Tree.tup [Tree.agg [Tree.str [], Tree.slc []], Tree.slc s2, Tree.bool false]) else none else none else bif h0_0_0 == 7 then
 bif decide (0 ≤ 0) && (decide (0 < (↑(List.length h3) : Int)) && Nat.beq (List.length [Sh.str, Sh.slc]) (List.length [Sh.str, Sh.slc])) then Option.bind (nth h3
 (Int.toNat 0)) fun y => bif Sh.ok (Sh.agg [Sh.str, Sh.slc]) y then bif decide (0 ≤ 1) && (decide (1 < (↑(List.length h3) : Int)) && Nat.beq (List.length [Sh.str, Sh.slc])
 (List.length [Sh.str, Sh.slc])) then Option.bind (nth h3 (Int.toNat 1)) fun y_1 => bif Sh.ok (Sh.agg [Sh.str, Sh.slc]) y_1 then Option.bind (evP (Tab.env tab) n 71
 [Tree.str [80, 97, 105, 114], Tree.agg [Tree.str (Tree.toStr (List.headD (Tree.cs y) (Tree.bool false))), Tree.slc (Tree.elems (List.headD (List.tail (Tree.cs y))
 (Tree.bool false)))], Tree.agg [Tree.str (Tree.toStr (List.headD (Tree.cs y_1) (Tree.bool false))), Tree.slc (Tree.elems (List.headD (List.tail (Tree.cs y_1)) (Tree.bool
 false)))]]) fun y => bif Sh.ok (Sh.agg [Sh.str, Sh.slc]) y then some (Tree.tup [Tree.agg [Tree.str (Tree.toStr (List.headD (Tree.cs y) (Tree.bool false))), Tree.slc
 (Tree.elems (List.headD (List.tail (Tree.cs y)) (Tree.bool false)))], Tree.slc [], Tree.bool true]) else none else none else none else none else none else bif h0_0_0 == 8
 then bif decide (0 ≤ 0) && (decide (0 < (↑(List.length h3) : Int)) && Nat.beq (List.length [Sh.str, Sh.slc]) (List.length [Sh.str, Sh.slc])) then Option.bind (nth h3
 (Int.toNat 0)) fun y => bif Sh.ok (Sh.agg [Sh.str, Sh.slc]) y then bif Tree.toStr (List.headD (Tree.cs y) (Tree.bool false)) == [80, 97, 105, 114] then bif decide (0 ≤ 0)
 && (decide (0 < (↑(List.length h3) : Int)) && Nat.beq (List.length [Sh.str, Sh.slc]) (List.length [Sh.str, Sh.slc])) then Option.bind (nth h3 (Int.toNat 0)) fun y => bif
 Sh.ok (Sh.agg [Sh.str, Sh.slc]) y then bif decide (0 ≤ IntKind.wrap IntKind.i64 (h0_0_0 - 8)) then Option.bind (nth (Tree.elems (List.headD (List.tail (Tree.cs y))
 (Tree.bool false))) (Int.toNat (IntKind.wrap IntKind.i64 (h0_0_0 - 8)))) fun y => bif Sh.ok (Sh.agg [Sh.str, Sh.slc]) y then some (Tree.tup [Tree.agg [Tree.str
 (Tree.toStr (List.headD (Tree.cs y) (Tree.bool false))), Tree.slc (Tree.elems (List.headD (List.tail (Tree.cs y)) (Tree.bool false)))], Tree.slc [], Tree.bool true]) else
 none else none else none else none else some (Tree.tup [Tree.agg [Tree.str [], Tree.slc []], Tree.slc s2, Tree.bool false]) else none else none else bif h0_0_0 == 9 then
 bif decide (0 ≤ 0) && (decide (0 < (↑(List.length h3) : Int)) && Nat.beq (List.length [Sh.str, Sh.slc]) (List.length [Sh.str, Sh.slc])) then Option.bind (nth h3
 (Int.toNat 0)) fun y => bif Sh.ok (Sh.agg [Sh.str, Sh.slc]) y then bif Tree.toStr (List.headD (Tree.cs y) (Tree.bool false)) == [80, 97, 105, 114] then bif decide (0 ≤ 0)
 && (decide (0 < (↑(List.length h3) : Int)) && Nat.beq (List.length [Sh.str, Sh.slc]) (List.length [Sh.str, Sh.slc])) then Option.bind (nth h3 (Int.toNat 0)) fun y => bif
 Sh.ok (Sh.agg [Sh.str, Sh.slc]) y then bif decide (0 ≤ IntKind.wrap IntKind.i64 (h0_0_0 - 8)) then Option.bind (nth (Tree.elems (List.headD (List.tail (Tree.cs y))
 (Tree.bool false))) (Int.toNat (IntKind.wrap IntKind.i64 (h0_0_0 - 8)))) fun y => bif Sh.ok (Sh.agg [Sh.str, Sh.slc]) y then some (Tree.tup [Tree.agg [Tree.str
 (Tree.toStr (List.headD (Tree.cs y) (Tree.bool false))), Tree.slc (Tree.elems (List.headD (List.tail (Tree.cs y)) (Tree.bool false)))], Tree.slc [], Tree.bool true]) else
 none else none else none else none else some (Tree.tup [Tree.agg [Tree.str [], Tree.slc []], Tree.slc s2, Tree.bool false]) else none else none else some (Tree.tup
 [Tree.agg [Tree.str [], Tree.slc []], Tree.slc s2, Tree.bool false]) := by kernel_rfl


end Go.Proofs.Aw.Sa
