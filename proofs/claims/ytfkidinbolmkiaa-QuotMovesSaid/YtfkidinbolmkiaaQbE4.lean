/-
  EQUATIONS of the reckoned code: printed by program.
-/
import Derived.Test.YtfkidinbolmkiaaQbTab
import Derived.Test.YtfkidinbolmkiaaBw4
set_option linter.unusedSimpArgs false
set_option linter.unusedVariables false
set_option maxRecDepth 100000
namespace Go.Proofs.Bw.Qb
open Go.Proofs

/-- The lengths of bytes. -/
def len8 : List UInt8 := [0, 1, 2, 2, 3, 3, 3, 3, 4, 4, 4, 4, 4, 4, 4, 4, 5, 5, 5, 5, 5, 5, 5, 5, 5, 5, 5, 5, 5, 5, 5, 5, 6, 6, 6, 6, 6, 6, 6, 6, 6, 6, 6, 6, 6, 6, 6, 6, 6, 6, 6, 6, 6, 6, 6, 6, 6, 6, 6, 6, 6, 6, 6, 6, 7, 7, 7, 7, 7, 7, 7, 7, 7, 7, 7, 7, 7, 7, 7, 7, 7, 7, 7, 7, 7, 7, 7, 7, 7, 7, 7, 7, 7, 7, 7, 7, 7, 7, 7, 7, 7, 7, 7, 7, 7, 7, 7, 7, 7, 7, 7, 7, 7, 7, 7, 7, 7, 7, 7, 7, 7, 7, 7, 7, 7, 7, 7, 7, 8, 8, 8, 8, 8, 8, 8, 8, 8, 8, 8, 8, 8, 8, 8, 8, 8, 8, 8, 8, 8, 8, 8, 8, 8, 8, 8, 8, 8, 8, 8, 8, 8, 8, 8, 8, 8, 8, 8, 8, 8, 8, 8, 8, 8, 8, 8, 8, 8, 8, 8, 8, 8, 8, 8, 8, 8, 8, 8, 8, 8, 8, 8, 8, 8, 8, 8, 8, 8, 8, 8, 8, 8, 8, 8, 8, 8, 8, 8, 8, 8, 8, 8, 8, 8, 8, 8, 8, 8, 8, 8, 8, 8, 8, 8, 8, 8, 8, 8, 8, 8, 8, 8, 8, 8, 8, 8, 8, 8, 8, 8, 8, 8, 8, 8, 8, 8, 8, 8, 8, 8, 8, 8, 8, 8, 8, 8, 8]

def L105_0 (n q : Nat) (s2 : Int) (s8 : Int) (s9 : Int) (s10 : Int) (s11 : Int) (s13 : Int) (s14 : Int) (s15 : Int) (s16 : Int) : Option Tree :=
  evL (Tab.env tab) n 105 [1, 1, 1, 1, 1, 1, 1, 1, 1, 1, 1, 1, 1, 1, 0, 0] [q] { ts := [AV.any, AV.any, AV.t (Tree.int IntKind.u64 s2), AV.any, AV.any, AV.any, AV.any, AV.any, AV.t (Tree.int IntKind.u64 s8), AV.t (Tree.int IntKind.u64 s9), AV.t (Tree.int IntKind.u64 s10), AV.t (Tree.int IntKind.u64 s11), AV.any, AV.t (Tree.int IntKind.u64 s13), AV.t (Tree.int IntKind.u64 s14), AV.t (Tree.int IntKind.u64 s15), AV.t (Tree.int IntKind.u64 s16), AV.any, AV.any, AV.any, AV.any, AV.any, AV.any, AV.any, AV.any, AV.any, AV.any, AV.any, AV.any, AV.any, AV.any, AV.any, AV.any, AV.any, AV.any, AV.any, AV.any, AV.any, AV.any, AV.any, AV.any, AV.any, AV.any, AV.any, AV.any, AV.any, AV.any, AV.any, AV.any, AV.any, AV.any, AV.any, AV.any, AV.any, AV.any, AV.any, AV.any, AV.any, AV.any, AV.any, AV.any, AV.any, AV.any, AV.any, AV.any, AV.any, AV.any, AV.any, AV.any, AV.any, AV.any, AV.any, AV.any, AV.any, AV.any, AV.any, AV.any, AV.any, AV.any, AV.any, AV.any, AV.any, AV.any, AV.any, AV.any, AV.any, AV.any, AV.any, AV.any, AV.any, AV.any, AV.any, AV.any, AV.any, AV.any, AV.any, AV.any, AV.any, AV.any, AV.any, AV.any, AV.any, AV.any, AV.any, AV.any, AV.any, AV.any, AV.any, AV.any, AV.any, AV.any, AV.any, AV.any, AV.any, AV.any, AV.any, AV.any, AV.any, AV.any, AV.any, AV.any, AV.any, AV.any, AV.any, AV.any, AV.any, AV.any, AV.any, AV.any, AV.any, AV.any, AV.any, AV.any, AV.any, AV.any], H := [] }

def L105_1 (n q : Nat) (s2 : Int) (s8 : Int) (s9 : Int) (s10 : Int) (s14 : Int) (s15 : Int) (s16 : Int) (s17 : Int) (s18 : Int) : Option Tree :=
  evL (Tab.env tab) n 105 [1, 1, 1, 1, 1, 1, 1, 1, 1, 1, 1, 1, 1, 1, 1, 1, 1, 1, 0, 0] [q] { ts := [AV.any, AV.any, AV.t (Tree.int IntKind.u64 s2), AV.any, AV.any, AV.any, AV.any, AV.any, AV.t (Tree.int IntKind.u64 s8), AV.t (Tree.int IntKind.u64 s9), AV.t (Tree.int IntKind.u64 s10), AV.any, AV.any, AV.any, AV.t (Tree.int IntKind.u64 s14), AV.t (Tree.int IntKind.u64 s15), AV.t (Tree.int IntKind.u64 s16), AV.t (Tree.int IntKind.u64 s17), AV.t (Tree.int IntKind.u64 s18), AV.any, AV.any, AV.any, AV.any, AV.any, AV.any, AV.any, AV.any, AV.any, AV.any, AV.any, AV.any, AV.any, AV.any, AV.any, AV.any, AV.any, AV.any, AV.any, AV.any, AV.any, AV.any, AV.any, AV.any, AV.any, AV.any, AV.any, AV.any, AV.any, AV.any, AV.any, AV.any, AV.any, AV.any, AV.any, AV.any, AV.any, AV.any, AV.any, AV.any, AV.any, AV.any, AV.any, AV.any, AV.any, AV.any, AV.any, AV.any, AV.any, AV.any, AV.any, AV.any, AV.any, AV.any, AV.any, AV.any, AV.any, AV.any, AV.any, AV.any, AV.any, AV.any, AV.any, AV.any, AV.any, AV.any, AV.any, AV.any, AV.any, AV.any, AV.any, AV.any, AV.any, AV.any, AV.any, AV.any, AV.any, AV.any, AV.any, AV.any, AV.any, AV.any, AV.any, AV.any, AV.any, AV.any, AV.any, AV.any, AV.any, AV.any, AV.any, AV.any, AV.any, AV.any, AV.any, AV.any, AV.any, AV.any, AV.any, AV.any, AV.any, AV.any, AV.any, AV.any, AV.any, AV.any, AV.any, AV.any, AV.any, AV.any, AV.any, AV.any, AV.any, AV.any, AV.any, AV.any], H := [] }

def L102_0 (n q : Nat) (s27 : Int) (h0_0_0 : Bool) (h0_0_1 : Int) (h0_0_2 : Int) (h1_0_0 : Bool) (h1_0_1 : Int) (h1_0_2 : Int) (h2_0_0 : Bool) (h2_0_1 : Int) (h2_0_2 : Int) (h3_0_0 : Bool) (h3_0_1 : Int) (h3_0_2 : Int) (h4_0_0 : Bool) (h4_0_1 : Int) (h4_0_2 : Int) (h5_0_0 : Bool) (h5_0_1 : Int) (h5_0_2 : Int) : Option Tree :=
  evL (Tab.env tab) n 102 [1, 1, 1, 0, 1, 0] [q] { ts := [AV.any, AV.any, AV.href 0 0 0, AV.href (0 + 1) 0 0, AV.href (0 + 1 + 1) 0 0, AV.href (0 + 1 + 1 + 1) 0 0, AV.any, AV.href (0 + 1 + 1 + 1 + 1) 0 0, AV.href (0 + 1 + 1 + 1 + 1 + 1) 0 0, AV.any, AV.any, AV.any, AV.any, AV.any, AV.any, AV.any, AV.any, AV.any, AV.any, AV.any, AV.any, AV.any, AV.any, AV.any, AV.any, AV.any, AV.any, AV.t (Tree.int IntKind.i64 s27), AV.any, AV.any, AV.any, AV.any, AV.any, AV.any, AV.any, AV.any, AV.any, AV.any, AV.any, AV.any, AV.any, AV.any, AV.any, AV.any, AV.any, AV.any, AV.any, AV.any, AV.any, AV.any, AV.any, AV.any, AV.any, AV.any, AV.any, AV.any, AV.any, AV.any, AV.any, AV.any, AV.any, AV.any, AV.any, AV.any, AV.any, AV.any, AV.any, AV.any, AV.any, AV.any, AV.any, AV.any, AV.any, AV.any, AV.any, AV.any, AV.any, AV.any, AV.any, AV.any, AV.any, AV.any, AV.any, AV.any, AV.any, AV.any, AV.any], H := [HObj.tre (Sh.agg [Sh.bool, Sh.int IntKind.u64, Sh.int IntKind.u64]) [Tree.agg [Tree.bool h0_0_0, Tree.int IntKind.u64 h0_0_1, Tree.int IntKind.u64 h0_0_2]], HObj.tre (Sh.agg [Sh.bool, Sh.int IntKind.u64, Sh.int IntKind.u64]) [Tree.agg [Tree.bool h1_0_0, Tree.int IntKind.u64 h1_0_1, Tree.int IntKind.u64 h1_0_2]], HObj.tre (Sh.agg [Sh.bool, Sh.int IntKind.u64, Sh.int IntKind.u64]) [Tree.agg [Tree.bool h2_0_0, Tree.int IntKind.u64 h2_0_1, Tree.int IntKind.u64 h2_0_2]], HObj.tre (Sh.agg [Sh.bool, Sh.int IntKind.u64, Sh.int IntKind.u64]) [Tree.agg [Tree.bool h3_0_0, Tree.int IntKind.u64 h3_0_1, Tree.int IntKind.u64 h3_0_2]], HObj.tre (Sh.agg [Sh.bool, Sh.int IntKind.u64, Sh.int IntKind.u64]) [Tree.agg [Tree.bool h4_0_0, Tree.int IntKind.u64 h4_0_1, Tree.int IntKind.u64 h4_0_2]], HObj.tre (Sh.agg [Sh.bool, Sh.int IntKind.u64, Sh.int IntKind.u64]) [Tree.agg [Tree.bool h5_0_0, Tree.int IntKind.u64 h5_0_1, Tree.int IntKind.u64 h5_0_2]]] }

def L103_0 (n q : Nat) (s3 : Int) (s6 : List Tree) (s7 : Int) (s8 : Int) : Option Tree :=
  evL (Tab.env tab) n 103 [1, 1, 0, 1, 0] [q] { ts := [AV.any, AV.any, AV.any, AV.t (Tree.int IntKind.i64 s3), AV.any, AV.any, AV.t (Tree.slc s6), AV.t (Tree.int IntKind.i64 s7), AV.t (Tree.int IntKind.i64 s8), AV.any, AV.any, AV.any, AV.any, AV.any, AV.any, AV.any, AV.any, AV.any], H := [] }

def L86_0 (n q : Nat) (s0 : Int) (s1 : Int) : Option Tree :=
  evL (Tab.env tab) n 86 [1, 0, 0] [q] { ts := [AV.t (Tree.int IntKind.u64 s0), AV.t (Tree.int IntKind.u64 s1), AV.any, AV.any, AV.any, AV.any, AV.any, AV.any, AV.any, AV.any, AV.any, AV.any], H := [] }

def L61_0 (n q : Nat) (h0_0_0 : Bool) (h0_0_1 : Int) (h0_0_2 : Int) (h1_0_0 : Bool) (h1_0_1 : Int) (h1_0_2 : Int) (h2_0_0 : Int) (h2_0_1 : Int) (h3_0_0 : Bool) (h3_0_1 : Int) (h3_0_2 : Int) (h4_0_0 : Bool) (h4_0_1 : Int) (h4_0_2 : Int) : Option Tree :=
  evL (Tab.env tab) n 61 [1, 1, 1, 0, 0] [q] { ts := [AV.any, AV.any, AV.href 0 0 0, AV.href (0 + 1) 0 0, AV.href (0 + 1 + 1) 0 0, AV.any, AV.href (0 + 1 + 1 + 1) 0 0, AV.href (0 + 1 + 1 + 1 + 1) 0 0, AV.any, AV.any, AV.any, AV.any, AV.any, AV.any, AV.any, AV.any, AV.any, AV.any, AV.any, AV.any, AV.any, AV.any, AV.any, AV.any, AV.any, AV.any, AV.any, AV.any, AV.any, AV.any, AV.any, AV.any, AV.any, AV.any, AV.any, AV.any, AV.any, AV.any, AV.any, AV.any, AV.any, AV.any, AV.any, AV.any, AV.any, AV.any, AV.any, AV.any, AV.any, AV.any, AV.any, AV.any, AV.any, AV.any, AV.any], H := [HObj.tre (Sh.agg [Sh.bool, Sh.int IntKind.u64, Sh.int IntKind.u64]) [Tree.agg [Tree.bool h0_0_0, Tree.int IntKind.u64 h0_0_1, Tree.int IntKind.u64 h0_0_2]], HObj.tre (Sh.agg [Sh.bool, Sh.int IntKind.u64, Sh.int IntKind.u64]) [Tree.agg [Tree.bool h1_0_0, Tree.int IntKind.u64 h1_0_1, Tree.int IntKind.u64 h1_0_2]], HObj.tre (Sh.agg [Sh.int IntKind.i64, Sh.int IntKind.i64]) [Tree.agg [Tree.int IntKind.i64 h2_0_0, Tree.int IntKind.i64 h2_0_1]], HObj.tre (Sh.agg [Sh.bool, Sh.int IntKind.u64, Sh.int IntKind.u64]) [Tree.agg [Tree.bool h3_0_0, Tree.int IntKind.u64 h3_0_1, Tree.int IntKind.u64 h3_0_2]], HObj.tre (Sh.agg [Sh.bool, Sh.int IntKind.u64, Sh.int IntKind.u64]) [Tree.agg [Tree.bool h4_0_0, Tree.int IntKind.u64 h4_0_1, Tree.int IntKind.u64 h4_0_2]]] }

theorem e122 (n : Nat) (a0 : Int) : evQ (Tab.env tab) n 122 [Tree.int IntKind.u64 a0] = bif decide (a0 ≥ 4294967296) then bif decide (Int.fdiv a0 (2 ^ min (Int.toNat 32) 64) ≥ 65536) then bif decide (Int.fdiv (Int.fdiv a0 (2 ^ min (Int.toNat 32) 64)) (2 ^ min (Int.toNat 16) 64) ≥ 256) then bif decide (0 ≤ IntKind.wrap IntKind.u8 (Int.fdiv (Int.fdiv (Int.fdiv a0 (2 ^ min (Int.toNat 32) 64)) (2 ^ min (Int.toNat 16) 64)) (2 ^ min (Int.toNat 8) 64))) then Option.bind (nth len8 (Int.toNat (IntKind.wrap IntKind.u8 (Int.fdiv (Int.fdiv (Int.fdiv a0 (2 ^ min (Int.toNat 32) 64)) (2 ^ min (Int.toNat 16) 64)) (2 ^ min (Int.toNat 8) 64))))) fun y => some (Tree.int IntKind.i64 (IntKind.wrap IntKind.i64 (IntKind.wrap IntKind.i64 (IntKind.wrap IntKind.i64 (32 + 16) + 8) + IntKind.wrap IntKind.i64 ↑(UInt8.toNat y)))) else none else bif decide (0 ≤ IntKind.wrap IntKind.u8 (Int.fdiv (Int.fdiv a0 (2 ^ min (Int.toNat 32) 64)) (2 ^ min (Int.toNat 16) 64))) then Option.bind (nth len8 (Int.toNat (IntKind.wrap IntKind.u8 (Int.fdiv (Int.fdiv a0 (2 ^ min (Int.toNat 32) 64)) (2 ^ min (Int.toNat 16) 64))))) fun y => some (Tree.int IntKind.i64 (IntKind.wrap IntKind.i64 (IntKind.wrap IntKind.i64 (32 + 16) + IntKind.wrap IntKind.i64 ↑(UInt8.toNat y)))) else none else bif decide (Int.fdiv a0 (2 ^ min (Int.toNat 32) 64) ≥ 256) then bif decide (0 ≤ IntKind.wrap IntKind.u8 (Int.fdiv (Int.fdiv a0 (2 ^ min (Int.toNat 32) 64)) (2 ^ min (Int.toNat 8) 64))) then Option.bind (nth len8 (Int.toNat (IntKind.wrap IntKind.u8 (Int.fdiv (Int.fdiv a0 (2 ^ min (Int.toNat 32) 64)) (2 ^ min (Int.toNat 8) 64))))) fun y => some (Tree.int IntKind.i64 (IntKind.wrap IntKind.i64 (IntKind.wrap IntKind.i64 (32 + 8) + IntKind.wrap IntKind.i64 ↑(UInt8.toNat y)))) else none else bif decide (0 ≤ IntKind.wrap IntKind.u8 (Int.fdiv a0 (2 ^ min (Int.toNat 32) 64))) then Option.bind (nth len8 (Int.toNat (IntKind.wrap IntKind.u8 (Int.fdiv a0 (2 ^ min (Int.toNat 32) 64))))) fun y => some (Tree.int IntKind.i64 (IntKind.wrap IntKind.i64 (32 + IntKind.wrap IntKind.i64 ↑(UInt8.toNat y)))) else none else bif decide (a0 ≥ 65536) then bif decide (Int.fdiv a0 (2 ^ min (Int.toNat 16) 64) ≥ 256) then bif decide (0 ≤ IntKind.wrap IntKind.u8 (Int.fdiv (Int.fdiv a0 (2 ^ min (Int.toNat 16) 64)) (2 ^ min (Int.toNat 8) 64))) then Option.bind (nth len8 (Int.toNat (IntKind.wrap IntKind.u8 (Int.fdiv (Int.fdiv a0 (2 ^ min (Int.toNat 16) 64)) (2 ^ min (Int.toNat 8) 64))))) fun y => some (Tree.int IntKind.i64 (IntKind.wrap IntKind.i64 (IntKind.wrap IntKind.i64 (IntKind.wrap IntKind.i64 (0 + 16) + 8) + IntKind.wrap IntKind.i64 ↑(UInt8.toNat y)))) else none else bif decide (0 ≤ IntKind.wrap IntKind.u8 (Int.fdiv a0 (2 ^ min (Int.toNat 16) 64))) then Option.bind (nth len8 (Int.toNat (IntKind.wrap IntKind.u8 (Int.fdiv a0 (2 ^ min (Int.toNat 16) 64))))) fun y => some (Tree.int IntKind.i64 (IntKind.wrap IntKind.i64 (IntKind.wrap IntKind.i64 (0 + 16) + IntKind.wrap IntKind.i64 ↑(UInt8.toNat y)))) else none else bif decide (a0 ≥ 256) then bif decide (0 ≤ IntKind.wrap IntKind.u8 (Int.fdiv a0 (2 ^ min (Int.toNat 8) 64))) then Option.bind (nth len8 (Int.toNat (IntKind.wrap IntKind.u8 (Int.fdiv a0 (2 ^ min (Int.toNat 8) 64))))) fun y => some (Tree.int IntKind.i64 (IntKind.wrap IntKind.i64 (IntKind.wrap IntKind.i64 (0 + 8) + IntKind.wrap IntKind.i64 ↑(UInt8.toNat y)))) else none else bif decide (0 ≤ IntKind.wrap IntKind.u8 a0) then Option.bind (nth len8 (Int.toNat (IntKind.wrap IntKind.u8 a0))) fun y => some (Tree.int IntKind.i64 (IntKind.wrap IntKind.i64 (0 + IntKind.wrap IntKind.i64 ↑(UInt8.toNat y)))) else none := by kernel_rfl

theorem e111 (n : Nat) (a0 : Int) : evQ (Tab.env tab) n 111 [Tree.int IntKind.u64 a0] =
    Option.bind (evP (Tab.env tab) n 122 [Tree.int IntKind.u64 a0]) fun y =>
    bif Sh.ok (Sh.int IntKind.i64) y then some (Tree.int IntKind.i64 (IntKind.wrap IntKind.i64 (64 - Tree.toInt y))) else none := by kernel_rfl

theorem l105_0 (n q : Nat) (s2 : Int) (s8 : Int) (s9 : Int) (s10 : Int) (s11 : Int) (s13 : Int) (s14 : Int) (s15 : Int) (s16 : Int) : L105_0 n (Nat.succ q) s2 s8 s9 s10 s11 s13 s14 s15 s16 =
    bif decide (s15 ≥ 4294967296) then
    bif decide (IntKind.wrap IntKind.u64 (s16 + s9) ≥ 4294967296) then
      bif decide (s9 = 0) then none
      else
        L105_1 n n s2 s8 s9 s10 s14 (IntKind.wrap IntKind.u64 (s15 - 1)) (IntKind.wrap IntKind.u64 (IntKind.wrap IntKind.u64 (IntKind.wrap IntKind.u64 (IntKind.wrap IntKind.u64 (s11 * 4294967296) + s13) - IntKind.wrap IntKind.u64 (IntKind.wrap IntKind.u64 (s15 - 1) * s2)) - IntKind.wrap IntKind.u64 (IntKind.wrap IntKind.u64 (Int.tdiv (IntKind.wrap IntKind.u64 (IntKind.wrap IntKind.u64 (IntKind.wrap IntKind.u64 (s11 * 4294967296) + s13) - IntKind.wrap IntKind.u64 (IntKind.wrap IntKind.u64 (s15 - 1) * s2))) s9) * s9))) (IntKind.wrap IntKind.u64 (IntKind.wrap IntKind.u64 (IntKind.wrap IntKind.u64 (s11 * 4294967296) + s13) - IntKind.wrap IntKind.u64 (IntKind.wrap IntKind.u64 (s15 - 1) * s2))) (IntKind.wrap IntKind.u64 (Int.tdiv (IntKind.wrap IntKind.u64 (IntKind.wrap IntKind.u64 (IntKind.wrap IntKind.u64 (s11 * 4294967296) + s13) - IntKind.wrap IntKind.u64 (IntKind.wrap IntKind.u64 (s15 - 1) * s2))) s9))
    else
      L105_0 n q s2 s8 s9 s10 s11 s13 s14 (IntKind.wrap IntKind.u64 (s15 - 1)) (IntKind.wrap IntKind.u64 (s16 + s9))
  else
    bif decide (IntKind.wrap IntKind.u64 (s15 * s10) > IntKind.wrap IntKind.u64 (IntKind.wrap IntKind.u64 (4294967296 * s16) + s13)) then
      bif decide (IntKind.wrap IntKind.u64 (s16 + s9) ≥ 4294967296) then
        bif decide (s9 = 0) then none
        else
          L105_1 n n s2 s8 s9 s10 s14 (IntKind.wrap IntKind.u64 (s15 - 1)) (IntKind.wrap IntKind.u64 (IntKind.wrap IntKind.u64 (IntKind.wrap IntKind.u64 (IntKind.wrap IntKind.u64 (s11 * 4294967296) + s13) - IntKind.wrap IntKind.u64 (IntKind.wrap IntKind.u64 (s15 - 1) * s2)) - IntKind.wrap IntKind.u64 (IntKind.wrap IntKind.u64 (Int.tdiv (IntKind.wrap IntKind.u64 (IntKind.wrap IntKind.u64 (IntKind.wrap IntKind.u64 (s11 * 4294967296) + s13) - IntKind.wrap IntKind.u64 (IntKind.wrap IntKind.u64 (s15 - 1) * s2))) s9) * s9))) (IntKind.wrap IntKind.u64 (IntKind.wrap IntKind.u64 (IntKind.wrap IntKind.u64 (s11 * 4294967296) + s13) - IntKind.wrap IntKind.u64 (IntKind.wrap IntKind.u64 (s15 - 1) * s2))) (IntKind.wrap IntKind.u64 (Int.tdiv (IntKind.wrap IntKind.u64 (IntKind.wrap IntKind.u64 (IntKind.wrap IntKind.u64 (s11 * 4294967296) + s13) - IntKind.wrap IntKind.u64 (IntKind.wrap IntKind.u64 (s15 - 1) * s2))) s9))
      else
        L105_0 n q s2 s8 s9 s10 s11 s13 s14 (IntKind.wrap IntKind.u64 (s15 - 1)) (IntKind.wrap IntKind.u64 (s16 + s9))
    else
      bif decide (s9 = 0) then none
      else
        L105_1 n n s2 s8 s9 s10 s14 s15 (IntKind.wrap IntKind.u64 (IntKind.wrap IntKind.u64 (IntKind.wrap IntKind.u64 (IntKind.wrap IntKind.u64 (s11 * 4294967296) + s13) - IntKind.wrap IntKind.u64 (s15 * s2)) - IntKind.wrap IntKind.u64 (IntKind.wrap IntKind.u64 (Int.tdiv (IntKind.wrap IntKind.u64 (IntKind.wrap IntKind.u64 (IntKind.wrap IntKind.u64 (s11 * 4294967296) + s13) - IntKind.wrap IntKind.u64 (s15 * s2))) s9) * s9))) (IntKind.wrap IntKind.u64 (IntKind.wrap IntKind.u64 (IntKind.wrap IntKind.u64 (s11 * 4294967296) + s13) - IntKind.wrap IntKind.u64 (s15 * s2))) (IntKind.wrap IntKind.u64 (Int.tdiv (IntKind.wrap IntKind.u64 (IntKind.wrap IntKind.u64 (IntKind.wrap IntKind.u64 (s11 * 4294967296) + s13) - IntKind.wrap IntKind.u64 (s15 * s2))) s9)) := by kernel_rfl

theorem l105_1 (n q : Nat) (s2 : Int) (s8 : Int) (s9 : Int) (s10 : Int) (s14 : Int) (s15 : Int) (s16 : Int) (s17 : Int) (s18 : Int) : L105_1 n (Nat.succ q) s2 s8 s9 s10 s14 s15 s16 s17 s18 =
    bif decide (s18 ≥ 4294967296) then
    bif decide (IntKind.wrap IntKind.u64 (s16 + s9) ≥ 4294967296) then
      bif decide (s8 < 0) then none
      else
        some
          (Tree.tup
            [Tree.int IntKind.u64 (IntKind.wrap IntKind.u64 (IntKind.wrap IntKind.u64 (s15 * 4294967296) + IntKind.wrap IntKind.u64 (s18 - 1))),
              Tree.int IntKind.u64
                (Int.fdiv
                  (IntKind.wrap IntKind.u64
                    (IntKind.wrap IntKind.u64 (IntKind.wrap IntKind.u64 (s17 * 4294967296) + s14) -
                      IntKind.wrap IntKind.u64 (IntKind.wrap IntKind.u64 (s18 - 1) * s2)))
                  (2 ^ min (Int.toNat s8) 64))])
    else
      L105_1 n q s2 s8 s9 s10 s14 s15 (IntKind.wrap IntKind.u64 (s16 + s9)) s17 (IntKind.wrap IntKind.u64 (s18 - 1))
  else
    bif decide (IntKind.wrap IntKind.u64 (s18 * s10) > IntKind.wrap IntKind.u64 (IntKind.wrap IntKind.u64 (4294967296 * s16) + s14)) then
      bif decide (IntKind.wrap IntKind.u64 (s16 + s9) ≥ 4294967296) then
        bif decide (s8 < 0) then none
        else
          some
            (Tree.tup
              [Tree.int IntKind.u64 (IntKind.wrap IntKind.u64 (IntKind.wrap IntKind.u64 (s15 * 4294967296) + IntKind.wrap IntKind.u64 (s18 - 1))),
                Tree.int IntKind.u64
                  (Int.fdiv
                    (IntKind.wrap IntKind.u64
                      (IntKind.wrap IntKind.u64 (IntKind.wrap IntKind.u64 (s17 * 4294967296) + s14) -
                        IntKind.wrap IntKind.u64 (IntKind.wrap IntKind.u64 (s18 - 1) * s2)))
                    (2 ^ min (Int.toNat s8) 64))])
      else
        L105_1 n q s2 s8 s9 s10 s14 s15 (IntKind.wrap IntKind.u64 (s16 + s9)) s17 (IntKind.wrap IntKind.u64 (s18 - 1))
    else
      bif decide (s8 < 0) then none
      else
        some
          (Tree.tup
            [Tree.int IntKind.u64 (IntKind.wrap IntKind.u64 (IntKind.wrap IntKind.u64 (s15 * 4294967296) + s18)),
              Tree.int IntKind.u64
                (Int.fdiv
                  (IntKind.wrap IntKind.u64 (IntKind.wrap IntKind.u64 (IntKind.wrap IntKind.u64 (s17 * 4294967296) + s14) - IntKind.wrap IntKind.u64 (s18 * s2)))
                  (2 ^ min (Int.toNat s8) 64))]) := by kernel_rfl

theorem e105 (n : Nat) (a0 : Int) (a1 : Int) (a2 : Int) : evQ (Tab.env tab) n 105 [Tree.int IntKind.u64 a0, Tree.int IntKind.u64 a1, Tree.int IntKind.u64 a2] =
    bif a2 == 0 then none
  else
    bif decide (a2 ≤ a0) then none
    else
      bif a0 == 0 then
        bif decide (a2 = 0) then none
        else
          bif decide (a2 = 0) then none
          else some (Tree.tup [Tree.int IntKind.u64 (IntKind.wrap IntKind.u64 (Int.tdiv a1 a2)), Tree.int IntKind.u64 (Int.tmod a1 a2)])
      else
        Option.bind (evP (Tab.env tab) n 111 [Tree.int IntKind.u64 a2]) fun y =>
          bif Sh.ok (Sh.int IntKind.i64) y then
            bif decide (IntKind.wrap IntKind.u64 (Tree.toInt y) < 0) then none
            else
              bif decide (IntKind.wrap IntKind.u64 (Tree.toInt y) < 0) then none
              else
                bif decide (IntKind.wrap IntKind.u64 (64 - IntKind.wrap IntKind.u64 (Tree.toInt y)) < 0) then none
                else
                  bif decide (IntKind.wrap IntKind.u64 (Tree.toInt y) < 0) then none
                  else
                    bif
                        decide
                          (Int.fdiv (IntKind.wrap IntKind.u64 (a2 * 2 ^ min (Int.toNat (IntKind.wrap IntKind.u64 (Tree.toInt y))) 64))
                              (2 ^ min (Int.toNat 32) 64) =
                            0) then
                      none
                    else
                      L105_0 n n (IntKind.wrap IntKind.u64 (a2 * 2 ^ min (Int.toNat (IntKind.wrap IntKind.u64 (Tree.toInt y))) 64)) (IntKind.wrap IntKind.u64 (Tree.toInt y)) (Int.fdiv (IntKind.wrap IntKind.u64 (a2 * 2 ^ min (Int.toNat (IntKind.wrap IntKind.u64 (Tree.toInt y))) 64)) (2 ^ min (Int.toNat 32) 64)) (gate (IntKind.wrap IntKind.u64 (a2 * 2 ^ min (Int.toNat (IntKind.wrap IntKind.u64 (Tree.toInt y))) 64)) (gate 4294967295 (IntKind.wrap IntKind.u64 ↑(BitVec.toNat (BitVec.ofInt 64 (IntKind.wrap IntKind.u64 (a2 * 2 ^ min (Int.toNat (IntKind.wrap IntKind.u64 (Tree.toInt y))) 64)) &&& BitVec.ofInt 64 4294967295))))) (gate (IntKind.wrap IntKind.u64 (a0 * 2 ^ min (Int.toNat (IntKind.wrap IntKind.u64 (Tree.toInt y))) 64)) (gate (Int.fdiv a1 (2 ^ min (Int.toNat (IntKind.wrap IntKind.u64 (64 - IntKind.wrap IntKind.u64 (Tree.toInt y)))) 64)) (IntKind.wrap IntKind.u64 ↑(BitVec.toNat (BitVec.ofInt 64 (IntKind.wrap IntKind.u64 (a0 * 2 ^ min (Int.toNat (IntKind.wrap IntKind.u64 (Tree.toInt y))) 64)) ||| BitVec.ofInt 64 (Int.fdiv a1 (2 ^ min (Int.toNat (IntKind.wrap IntKind.u64 (64 - IntKind.wrap IntKind.u64 (Tree.toInt y)))) 64))))))) (Int.fdiv (IntKind.wrap IntKind.u64 (a1 * 2 ^ min (Int.toNat (IntKind.wrap IntKind.u64 (Tree.toInt y))) 64)) (2 ^ min (Int.toNat 32) 64)) (gate (IntKind.wrap IntKind.u64 (a1 * 2 ^ min (Int.toNat (IntKind.wrap IntKind.u64 (Tree.toInt y))) 64)) (gate 4294967295 (IntKind.wrap IntKind.u64 ↑(BitVec.toNat (BitVec.ofInt 64 (IntKind.wrap IntKind.u64 (a1 * 2 ^ min (Int.toNat (IntKind.wrap IntKind.u64 (Tree.toInt y))) 64)) &&& BitVec.ofInt 64 4294967295))))) (IntKind.wrap IntKind.u64 (Int.tdiv (gate (IntKind.wrap IntKind.u64 (a0 * 2 ^ min (Int.toNat (IntKind.wrap IntKind.u64 (Tree.toInt y))) 64)) (gate (Int.fdiv a1 (2 ^ min (Int.toNat (IntKind.wrap IntKind.u64 (64 - IntKind.wrap IntKind.u64 (Tree.toInt y)))) 64)) (IntKind.wrap IntKind.u64 ↑(BitVec.toNat (BitVec.ofInt 64 (IntKind.wrap IntKind.u64 (a0 * 2 ^ min (Int.toNat (IntKind.wrap IntKind.u64 (Tree.toInt y))) 64)) ||| BitVec.ofInt 64 (Int.fdiv a1 (2 ^ min (Int.toNat (IntKind.wrap IntKind.u64 (64 - IntKind.wrap IntKind.u64 (Tree.toInt y)))) 64))))))) (Int.fdiv (IntKind.wrap IntKind.u64 (a2 * 2 ^ min (Int.toNat (IntKind.wrap IntKind.u64 (Tree.toInt y))) 64)) (2 ^ min (Int.toNat 32) 64)))) (IntKind.wrap IntKind.u64 (gate (IntKind.wrap IntKind.u64 (a0 * 2 ^ min (Int.toNat (IntKind.wrap IntKind.u64 (Tree.toInt y))) 64)) (gate (Int.fdiv a1 (2 ^ min (Int.toNat (IntKind.wrap IntKind.u64 (64 - IntKind.wrap IntKind.u64 (Tree.toInt y)))) 64)) (IntKind.wrap IntKind.u64 ↑(BitVec.toNat (BitVec.ofInt 64 (IntKind.wrap IntKind.u64 (a0 * 2 ^ min (Int.toNat (IntKind.wrap IntKind.u64 (Tree.toInt y))) 64)) ||| BitVec.ofInt 64 (Int.fdiv a1 (2 ^ min (Int.toNat (IntKind.wrap IntKind.u64 (64 - IntKind.wrap IntKind.u64 (Tree.toInt y)))) 64)))))) - IntKind.wrap IntKind.u64 (IntKind.wrap IntKind.u64 (Int.tdiv (gate (IntKind.wrap IntKind.u64 (a0 * 2 ^ min (Int.toNat (IntKind.wrap IntKind.u64 (Tree.toInt y))) 64)) (gate (Int.fdiv a1 (2 ^ min (Int.toNat (IntKind.wrap IntKind.u64 (64 - IntKind.wrap IntKind.u64 (Tree.toInt y)))) 64)) (IntKind.wrap IntKind.u64 ↑(BitVec.toNat (BitVec.ofInt 64 (IntKind.wrap IntKind.u64 (a0 * 2 ^ min (Int.toNat (IntKind.wrap IntKind.u64 (Tree.toInt y))) 64)) ||| BitVec.ofInt 64 (Int.fdiv a1 (2 ^ min (Int.toNat (IntKind.wrap IntKind.u64 (64 - IntKind.wrap IntKind.u64 (Tree.toInt y)))) 64))))))) (Int.fdiv (IntKind.wrap IntKind.u64 (a2 * 2 ^ min (Int.toNat (IntKind.wrap IntKind.u64 (Tree.toInt y))) 64)) (2 ^ min (Int.toNat 32) 64))) * Int.fdiv (IntKind.wrap IntKind.u64 (a2 * 2 ^ min (Int.toNat (IntKind.wrap IntKind.u64 (Tree.toInt y))) 64)) (2 ^ min (Int.toNat 32) 64))))
          else none := by kernel_rfl

theorem e123 (n : Nat) (a0 : Int) (a1 : Int) (a2 : Int) : evQ (Tab.env tab) n 123 [Tree.int IntKind.u64 a0, Tree.int IntKind.u64 a1, Tree.int IntKind.u64 a2] =
    bif decide (a2 = 0) then none
  else
    Option.bind (evP (Tab.env tab) n 105 [Tree.int IntKind.u64 (Int.tmod a0 a2), Tree.int IntKind.u64 a1, Tree.int IntKind.u64 a2]) fun y =>
      bif Sh.ok (Sh.tup [Sh.int IntKind.u64, Sh.int IntKind.u64]) y then
        some (Tree.int IntKind.u64 (Tree.toInt (List.headD (List.tail (Tree.tupl y)) (Tree.bool false))))
      else none := by kernel_rfl

theorem l102_0 (n q : Nat) (s27 : Int) (h0_0_0 : Bool) (h0_0_1 : Int) (h0_0_2 : Int) (h1_0_0 : Bool) (h1_0_1 : Int) (h1_0_2 : Int) (h2_0_0 : Bool) (h2_0_1 : Int) (h2_0_2 : Int) (h3_0_0 : Bool) (h3_0_1 : Int) (h3_0_2 : Int) (h4_0_0 : Bool) (h4_0_1 : Int) (h4_0_2 : Int) (h5_0_0 : Bool) (h5_0_1 : Int) (h5_0_2 : Int) : L102_0 n (Nat.succ q) s27 h0_0_0 h0_0_1 h0_0_2 h1_0_0 h1_0_1 h1_0_2 h2_0_0 h2_0_1 h2_0_2 h3_0_0 h3_0_1 h3_0_2 h4_0_0 h4_0_1 h4_0_2 h5_0_0 h5_0_1 h5_0_2 =
    bif decide (s27 < 128) then
    Option.bind
      (evP (Tab.env tab) n 90
        [Tree.agg
            [Tree.bool h5_0_0,
              Tree.int IntKind.u64
                (gate (IntKind.wrap IntKind.u64 (h5_0_1 * 2 ^ min (Int.toNat 1) 64))
                  (gate (Int.fdiv h5_0_2 (2 ^ min (Int.toNat 63) 64))
                    (IntKind.wrap IntKind.u64
                      ↑(BitVec.toNat
                          (BitVec.ofInt 64 (IntKind.wrap IntKind.u64 (h5_0_1 * 2 ^ min (Int.toNat 1) 64)) |||
                            BitVec.ofInt 64 (Int.fdiv h5_0_2 (2 ^ min (Int.toNat 63) 64))))))),
              Tree.int IntKind.u64
                (gate (IntKind.wrap IntKind.u64 (h5_0_2 * 2 ^ min (Int.toNat 1) 64))
                  (gate (Int.fdiv h0_0_1 (2 ^ min (Int.toNat 63) 64))
                    (IntKind.wrap IntKind.u64
                      ↑(BitVec.toNat
                          (BitVec.ofInt 64 (IntKind.wrap IntKind.u64 (h5_0_2 * 2 ^ min (Int.toNat 1) 64)) |||
                            BitVec.ofInt 64 (Int.fdiv h0_0_1 (2 ^ min (Int.toNat 63) 64)))))))],
          Tree.agg [Tree.bool h1_0_0, Tree.int IntKind.u64 h1_0_1, Tree.int IntKind.u64 h1_0_2]])
      fun y =>
      bif Sh.ok (Sh.int IntKind.i64) y then
        bif decide (Tree.toInt y ≥ 0) then
          Option.bind
            (evP (Tab.env tab) n 62
              [Tree.agg
                  [Tree.bool false,
                    Tree.int IntKind.u64
                      (gate (IntKind.wrap IntKind.u64 (h5_0_1 * 2 ^ min (Int.toNat 1) 64))
                        (gate (Int.fdiv h5_0_2 (2 ^ min (Int.toNat 63) 64))
                          (IntKind.wrap IntKind.u64
                            ↑(BitVec.toNat
                                (BitVec.ofInt 64 (IntKind.wrap IntKind.u64 (h5_0_1 * 2 ^ min (Int.toNat 1) 64)) |||
                                  BitVec.ofInt 64 (Int.fdiv h5_0_2 (2 ^ min (Int.toNat 63) 64))))))),
                    Tree.int IntKind.u64
                      (gate (IntKind.wrap IntKind.u64 (h5_0_2 * 2 ^ min (Int.toNat 1) 64))
                        (gate (Int.fdiv h0_0_1 (2 ^ min (Int.toNat 63) 64))
                          (IntKind.wrap IntKind.u64
                            ↑(BitVec.toNat
                                (BitVec.ofInt 64 (IntKind.wrap IntKind.u64 (h5_0_2 * 2 ^ min (Int.toNat 1) 64)) |||
                                  BitVec.ofInt 64 (Int.fdiv h0_0_1 (2 ^ min (Int.toNat 63) 64)))))))],
                Tree.agg [Tree.bool true, Tree.int IntKind.u64 h1_0_1, Tree.int IntKind.u64 h1_0_2]])
            fun y =>
            bif Sh.ok (Sh.agg [Sh.bool, Sh.int IntKind.u64, Sh.int IntKind.u64]) y then
              L102_0 n q (IntKind.wrap IntKind.i64 (s27 + 1)) h0_0_0 (gate (IntKind.wrap IntKind.u64 (h0_0_1 * 2 ^ min (Int.toNat 1) 64)) (gate (Int.fdiv h0_0_2 (2 ^ min (Int.toNat 63) 64)) (IntKind.wrap IntKind.u64 ↑(BitVec.toNat (BitVec.ofInt 64 (IntKind.wrap IntKind.u64 (h0_0_1 * 2 ^ min (Int.toNat 1) 64)) ||| BitVec.ofInt 64 (Int.fdiv h0_0_2 (2 ^ min (Int.toNat 63) 64))))))) (IntKind.wrap IntKind.u64 (h0_0_2 * 2 ^ min (Int.toNat 1) 64)) false h1_0_1 h1_0_2 h2_0_0 h2_0_1 h2_0_2 h3_0_0 h3_0_1 h3_0_2 h4_0_0 (gate (IntKind.wrap IntKind.u64 (h4_0_1 * 2 ^ min (Int.toNat 1) 64)) (gate (Int.fdiv h4_0_2 (2 ^ min (Int.toNat 63) 64)) (IntKind.wrap IntKind.u64 ↑(BitVec.toNat (BitVec.ofInt 64 (IntKind.wrap IntKind.u64 (h4_0_1 * 2 ^ min (Int.toNat 1) 64)) ||| BitVec.ofInt 64 (Int.fdiv h4_0_2 (2 ^ min (Int.toNat 63) 64))))))) (gate (IntKind.wrap IntKind.u64 (h4_0_2 * 2 ^ min (Int.toNat 1) 64)) (gate 1 (IntKind.wrap IntKind.u64 ↑(BitVec.toNat (BitVec.ofInt 64 (IntKind.wrap IntKind.u64 (h4_0_2 * 2 ^ min (Int.toNat 1) 64)) ||| BitVec.ofInt 64 1))))) (Tree.toBool (List.headD (Tree.cs y) (Tree.bool false))) (Tree.toInt (List.headD (List.tail (Tree.cs y)) (Tree.bool false))) (Tree.toInt (List.headD (List.tail (List.tail (Tree.cs y))) (Tree.bool false)))
            else none
        else
          L102_0 n q (IntKind.wrap IntKind.i64 (s27 + 1)) h0_0_0 (gate (IntKind.wrap IntKind.u64 (h0_0_1 * 2 ^ min (Int.toNat 1) 64)) (gate (Int.fdiv h0_0_2 (2 ^ min (Int.toNat 63) 64)) (IntKind.wrap IntKind.u64 ↑(BitVec.toNat (BitVec.ofInt 64 (IntKind.wrap IntKind.u64 (h0_0_1 * 2 ^ min (Int.toNat 1) 64)) ||| BitVec.ofInt 64 (Int.fdiv h0_0_2 (2 ^ min (Int.toNat 63) 64))))))) (IntKind.wrap IntKind.u64 (h0_0_2 * 2 ^ min (Int.toNat 1) 64)) h1_0_0 h1_0_1 h1_0_2 h2_0_0 h2_0_1 h2_0_2 h3_0_0 h3_0_1 h3_0_2 h4_0_0 (gate (IntKind.wrap IntKind.u64 (h4_0_1 * 2 ^ min (Int.toNat 1) 64)) (gate (Int.fdiv h4_0_2 (2 ^ min (Int.toNat 63) 64)) (IntKind.wrap IntKind.u64 ↑(BitVec.toNat (BitVec.ofInt 64 (IntKind.wrap IntKind.u64 (h4_0_1 * 2 ^ min (Int.toNat 1) 64)) ||| BitVec.ofInt 64 (Int.fdiv h4_0_2 (2 ^ min (Int.toNat 63) 64))))))) (IntKind.wrap IntKind.u64 (h4_0_2 * 2 ^ min (Int.toNat 1) 64)) h5_0_0 (gate (IntKind.wrap IntKind.u64 (h5_0_1 * 2 ^ min (Int.toNat 1) 64)) (gate (Int.fdiv h5_0_2 (2 ^ min (Int.toNat 63) 64)) (IntKind.wrap IntKind.u64 ↑(BitVec.toNat (BitVec.ofInt 64 (IntKind.wrap IntKind.u64 (h5_0_1 * 2 ^ min (Int.toNat 1) 64)) ||| BitVec.ofInt 64 (Int.fdiv h5_0_2 (2 ^ min (Int.toNat 63) 64))))))) (gate (IntKind.wrap IntKind.u64 (h5_0_2 * 2 ^ min (Int.toNat 1) 64)) (gate (Int.fdiv h0_0_1 (2 ^ min (Int.toNat 63) 64)) (IntKind.wrap IntKind.u64 ↑(BitVec.toNat (BitVec.ofInt 64 (IntKind.wrap IntKind.u64 (h5_0_2 * 2 ^ min (Int.toNat 1) 64)) ||| BitVec.ofInt 64 (Int.fdiv h0_0_1 (2 ^ min (Int.toNat 63) 64)))))))
      else none
  else
    some
      (Tree.tup
        [Tree.agg [Tree.bool h4_0_0, Tree.int IntKind.u64 h4_0_1, Tree.int IntKind.u64 h4_0_2],
          Tree.agg [Tree.bool h5_0_0, Tree.int IntKind.u64 h5_0_1, Tree.int IntKind.u64 h5_0_2]]) := by kernel_rfl

theorem e102 (n : Nat) (a00 : Bool) (a01 : Int) (a02 : Int) (a10 : Bool) (a11 : Int) (a12 : Int) : evQ (Tab.env tab) n 102 [Tree.agg [Tree.bool a00, Tree.int IntKind.u64 a01, Tree.int IntKind.u64 a02], Tree.agg [Tree.bool a10, Tree.int IntKind.u64 a11, Tree.int IntKind.u64 a12]] =
    bif a11 == 0 then
    Option.bind (evP (Tab.env tab) n 108 [Tree.agg [Tree.bool a00, Tree.int IntKind.u64 a01, Tree.int IntKind.u64 a02], Tree.int IntKind.u64 a12]) fun y =>
      bif Sh.ok (Sh.agg [Sh.bool, Sh.int IntKind.u64, Sh.int IntKind.u64]) y then
        Option.bind (evP (Tab.env tab) n 109 [Tree.agg [Tree.bool a00, Tree.int IntKind.u64 a01, Tree.int IntKind.u64 a02], Tree.int IntKind.u64 a12]) fun y_1 =>
          bif Sh.ok (Sh.int IntKind.u64) y_1 then
            some
              (Tree.tup
                [Tree.agg
                    [Tree.bool false, Tree.int IntKind.u64 (Tree.toInt (List.headD (List.tail (Tree.cs y)) (Tree.bool false))),
                      Tree.int IntKind.u64 (Tree.toInt (List.headD (List.tail (List.tail (Tree.cs y))) (Tree.bool false)))],
                  Tree.agg [Tree.bool false, Tree.int IntKind.u64 0, Tree.int IntKind.u64 (Tree.toInt y_1)]])
          else none
      else none
  else
    L102_0 n n 0 a00 a01 a02 a10 a11 a12 false 0 0 false 0 0 false 0 0 false 0 0 := by kernel_rfl

theorem e108 (n : Nat) (a00 : Bool) (a01 : Int) (a02 : Int) (a1 : Int) : evQ (Tab.env tab) n 108 [Tree.agg [Tree.bool a00, Tree.int IntKind.u64 a01, Tree.int IntKind.u64 a02], Tree.int IntKind.u64 a1] =
    bif decide (a1 = 0) then none
  else
    bif decide (a1 = 0) then none
    else
      Option.bind (evP (Tab.env tab) n 105 [Tree.int IntKind.u64 (Int.tmod a01 a1), Tree.int IntKind.u64 a02, Tree.int IntKind.u64 a1]) fun y =>
        bif Sh.ok (Sh.tup [Sh.int IntKind.u64, Sh.int IntKind.u64]) y then
          some
            (Tree.agg
              [Tree.bool a00, Tree.int IntKind.u64 (IntKind.wrap IntKind.u64 (Int.tdiv a01 a1)),
                Tree.int IntKind.u64 (Tree.toInt (List.headD (Tree.tupl y) (Tree.bool false)))])
        else none := by kernel_rfl

theorem e109 (n : Nat) (a00 : Bool) (a01 : Int) (a02 : Int) (a1 : Int) : evQ (Tab.env tab) n 109 [Tree.agg [Tree.bool a00, Tree.int IntKind.u64 a01, Tree.int IntKind.u64 a02], Tree.int IntKind.u64 a1] =
    Option.bind (evP (Tab.env tab) n 123 [Tree.int IntKind.u64 a01, Tree.int IntKind.u64 a02, Tree.int IntKind.u64 a1]) fun y =>
    bif Sh.ok (Sh.int IntKind.u64) y then some (Tree.int IntKind.u64 (Tree.toInt y)) else none := by kernel_rfl

theorem e87 (n : Nat) (a00 : Bool) (a01 : Int) (a02 : Int) (a10 : Bool) (a11 : Int) (a12 : Int) : evQ (Tab.env tab) n 87 [Tree.agg [Tree.bool a00, Tree.int IntKind.u64 a01, Tree.int IntKind.u64 a02], Tree.agg [Tree.bool a10, Tree.int IntKind.u64 a11, Tree.int IntKind.u64 a12]] =
    Option.bind
    (evP (Tab.env tab) n 102
      [Tree.agg [Tree.bool a00, Tree.int IntKind.u64 a01, Tree.int IntKind.u64 a02],
        Tree.agg [Tree.bool a10, Tree.int IntKind.u64 a11, Tree.int IntKind.u64 a12]])
    fun y =>
    bif Sh.ok (Sh.tup [Sh.agg [Sh.bool, Sh.int IntKind.u64, Sh.int IntKind.u64], Sh.agg [Sh.bool, Sh.int IntKind.u64, Sh.int IntKind.u64]]) y then
      some
        (Tree.agg
          [Tree.bool (Tree.toBool (List.headD (Tree.cs (List.headD (List.tail (Tree.tupl y)) (Tree.bool false))) (Tree.bool false))),
            Tree.int IntKind.u64 (Tree.toInt (List.headD (List.tail (Tree.cs (List.headD (List.tail (Tree.tupl y)) (Tree.bool false)))) (Tree.bool false))),
            Tree.int IntKind.u64
              (Tree.toInt (List.headD (List.tail (List.tail (Tree.cs (List.headD (List.tail (Tree.tupl y)) (Tree.bool false))))) (Tree.bool false)))])
    else none := by kernel_rfl

theorem e88 (n : Nat) (a00 : Bool) (a01 : Int) (a02 : Int) (a10 : Bool) (a11 : Int) (a12 : Int) : evQ (Tab.env tab) n 88 [Tree.agg [Tree.bool a00, Tree.int IntKind.u64 a01, Tree.int IntKind.u64 a02], Tree.agg [Tree.bool a10, Tree.int IntKind.u64 a11, Tree.int IntKind.u64 a12]] =
    Option.bind
    (evP (Tab.env tab) n 102
      [Tree.agg [Tree.bool a00, Tree.int IntKind.u64 a01, Tree.int IntKind.u64 a02],
        Tree.agg [Tree.bool a10, Tree.int IntKind.u64 a11, Tree.int IntKind.u64 a12]])
    fun y =>
    bif Sh.ok (Sh.tup [Sh.agg [Sh.bool, Sh.int IntKind.u64, Sh.int IntKind.u64], Sh.agg [Sh.bool, Sh.int IntKind.u64, Sh.int IntKind.u64]]) y then
      bif a00 then
        some
          (Tree.agg
            [Tree.bool
                (gate (Tree.toInt (List.headD (List.tail (Tree.cs (List.headD (Tree.tupl y) (Tree.bool false)))) (Tree.bool false)))
                    (gate (Tree.toInt (List.headD (List.tail (List.tail (Tree.cs (List.headD (Tree.tupl y) (Tree.bool false))))) (Tree.bool false)))
                      (IntKind.wrap IntKind.u64
                        ↑(BitVec.toNat
                            (BitVec.ofInt 64 (Tree.toInt (List.headD (List.tail (Tree.cs (List.headD (Tree.tupl y) (Tree.bool false)))) (Tree.bool false))) |||
                              BitVec.ofInt 64
                                (Tree.toInt (List.headD (List.tail (List.tail (Tree.cs (List.headD (Tree.tupl y) (Tree.bool false))))) (Tree.bool false))))))) !=
                  0),
              Tree.int IntKind.u64 (Tree.toInt (List.headD (List.tail (Tree.cs (List.headD (Tree.tupl y) (Tree.bool false)))) (Tree.bool false))),
              Tree.int IntKind.u64 (Tree.toInt (List.headD (List.tail (List.tail (Tree.cs (List.headD (Tree.tupl y) (Tree.bool false))))) (Tree.bool false)))])
      else
        some
          (Tree.agg
            [Tree.bool false, Tree.int IntKind.u64 (Tree.toInt (List.headD (List.tail (Tree.cs (List.headD (Tree.tupl y) (Tree.bool false)))) (Tree.bool false))),
              Tree.int IntKind.u64 (Tree.toInt (List.headD (List.tail (List.tail (Tree.cs (List.headD (Tree.tupl y) (Tree.bool false))))) (Tree.bool false)))])
    else none := by kernel_rfl

theorem e110 (n : Nat) (a0 : Int) : evQ (Tab.env tab) n 110 [Tree.int IntKind.u64 a0] =
    some (Tree.bool (a0 != a0)) := by kernel_rfl

theorem e104 (n : Nat) (a0 : Int) (a1 : Int) : evQ (Tab.env tab) n 104 [Tree.int IntKind.u64 a0, Tree.int IntKind.u64 a1] =
    Option.bind (evP (Tab.env tab) n 110 [Tree.int IntKind.u64 a0]) fun y =>
    bif Sh.ok Sh.bool y then
      Option.bind (evP (Tab.env tab) n 110 [Tree.int IntKind.u64 a1]) fun y_1 =>
        bif Sh.ok Sh.bool y_1 then
          bif Tree.toBool y then bif Tree.toBool y_1 then some (Tree.int IntKind.i64 0) else some (Tree.int IntKind.i64 (-1))
          else
            bif Tree.toBool y_1 then some (Tree.int IntKind.i64 1)
            else
              bif decide (a0 < a1) then some (Tree.int IntKind.i64 (-1))
              else bif decide (a0 > a1) then some (Tree.int IntKind.i64 1) else some (Tree.int IntKind.i64 0)
        else none
    else none := by kernel_rfl

theorem l103_0 (n q : Nat) (s3 : Int) (s6 : List Tree) (s7 : Int) (s8 : Int) : L103_0 n (Nat.succ q) s3 s6 s7 s8 =
    bif decide (s8 < s7) then
    bif decide (0 ≤ s8) then
      Option.bind (nth s6 (Int.toNat s8)) fun y =>
        bif Sh.ok (Sh.int IntKind.i64) y then
          bif Tree.toInt y != s3 then some (Tree.int IntKind.i64 (Tree.toInt y))
          else
            L103_0 n q s3 s6 s7 (IntKind.wrap IntKind.i64 (s8 + 1))
        else none
    else none
  else some (Tree.int IntKind.i64 s3) := by kernel_rfl

theorem e103 (n : Nat) (a0 : List Tree) : evQ (Tab.env tab) n 103 [Tree.slc a0] =
    L103_0 n n 0 a0 (↑(List.length a0)) 0 := by kernel_rfl

theorem e90 (n : Nat) (a00 : Bool) (a01 : Int) (a02 : Int) (a10 : Bool) (a11 : Int) (a12 : Int) : evQ (Tab.env tab) n 90 [Tree.agg [Tree.bool a00, Tree.int IntKind.u64 a01, Tree.int IntKind.u64 a02], Tree.agg [Tree.bool a10, Tree.int IntKind.u64 a11, Tree.int IntKind.u64 a12]] =
    Option.bind (evP (Tab.env tab) n 104 [Tree.int IntKind.u64 a01, Tree.int IntKind.u64 a11]) fun y =>
    bif Sh.ok (Sh.int IntKind.i64) y then
      Option.bind (evP (Tab.env tab) n 104 [Tree.int IntKind.u64 a02, Tree.int IntKind.u64 a12]) fun y_1 =>
        bif Sh.ok (Sh.int IntKind.i64) y_1 then
          Option.bind (evP (Tab.env tab) n 103 [Tree.slc [Tree.int IntKind.i64 (Tree.toInt y), Tree.int IntKind.i64 (Tree.toInt y_1)]]) fun y =>
            bif Sh.ok (Sh.int IntKind.i64) y then some (Tree.int IntKind.i64 (Tree.toInt y)) else none
        else none
    else none := by kernel_rfl

theorem e62 (n : Nat) (a00 : Bool) (a01 : Int) (a02 : Int) (a10 : Bool) (a11 : Int) (a12 : Int) : evQ (Tab.env tab) n 62 [Tree.agg [Tree.bool a00, Tree.int IntKind.u64 a01, Tree.int IntKind.u64 a02], Tree.agg [Tree.bool a10, Tree.int IntKind.u64 a11, Tree.int IntKind.u64 a12]] =
    bif a00 == a10 then
    bif
        decide (gate a02 (gate a12 ↑((Int.toNat a02 + Int.toNat a12 + Int.toNat 0) / 18446744073709551616)) = 0) ||
          decide (gate a02 (gate a12 ↑((Int.toNat a02 + Int.toNat a12 + Int.toNat 0) / 18446744073709551616)) = 1) then
      some
        (Tree.agg
          [Tree.bool a00,
            Tree.int IntKind.u64
              (gate a01
                (gate a11
                  ↑((Int.toNat a01 + Int.toNat a11 + Int.toNat (gate a02 (gate a12 ↑((Int.toNat a02 + Int.toNat a12 + Int.toNat 0) / 18446744073709551616)))) %
                      18446744073709551616))),
            Tree.int IntKind.u64 (gate a02 (gate a12 ↑((Int.toNat a02 + Int.toNat a12 + Int.toNat 0) % 18446744073709551616)))])
    else none
  else
    Option.bind
      (evP (Tab.env tab) n 90
        [Tree.agg [Tree.bool a00, Tree.int IntKind.u64 a01, Tree.int IntKind.u64 a02],
          Tree.agg [Tree.bool a10, Tree.int IntKind.u64 a11, Tree.int IntKind.u64 a12]])
      fun y =>
      bif Sh.ok (Sh.int IntKind.i64) y then
        bif decide (Tree.toInt y < 0) then
          bif
              decide
                  (gate a12
                      (gate a02
                        (match decide (Int.toNat a12 < Int.toNat a02 + Int.toNat 0) with
                        | true => 1
                        | false => 0)) =
                    0) ||
                decide
                  (gate a12
                      (gate a02
                        (match decide (Int.toNat a12 < Int.toNat a02 + Int.toNat 0) with
                        | true => 1
                        | false => 0)) =
                    1) then
            bif a10 then
              some
                (Tree.agg
                  [Tree.bool
                      (gate
                          (gate a11
                            (gate a01
                              ↑((Int.toNat a11 + 18446744073709551616 - Int.toNat a01 -
                                    Int.toNat
                                      (gate a12
                                        (gate a02
                                          (match decide (Int.toNat a12 < Int.toNat a02 + Int.toNat 0) with
                                          | true => 1
                                          | false => 0)))) %
                                  18446744073709551616)))
                          (gate (gate a12 (gate a02 ↑((Int.toNat a12 + 18446744073709551616 - Int.toNat a02 - Int.toNat 0) % 18446744073709551616)))
                            (IntKind.wrap IntKind.u64
                              ↑(BitVec.toNat
                                  (BitVec.ofInt 64
                                      (gate a11
                                        (gate a01
                                          ↑((Int.toNat a11 + 18446744073709551616 - Int.toNat a01 -
                                                Int.toNat
                                                  (gate a12
                                                    (gate a02
                                                      (match decide (Int.toNat a12 < Int.toNat a02 + Int.toNat 0) with
                                                      | true => 1
                                                      | false => 0)))) %
                                              18446744073709551616))) |||
                                    BitVec.ofInt 64
                                      (gate a12 (gate a02 ↑((Int.toNat a12 + 18446744073709551616 - Int.toNat a02 - Int.toNat 0) % 18446744073709551616))))))) !=
                        0),
                    Tree.int IntKind.u64
                      (gate a11
                        (gate a01
                          ↑((Int.toNat a11 + 18446744073709551616 - Int.toNat a01 -
                                Int.toNat
                                  (gate a12
                                    (gate a02
                                      (match decide (Int.toNat a12 < Int.toNat a02 + Int.toNat 0) with
                                      | true => 1
                                      | false => 0)))) %
                              18446744073709551616))),
                    Tree.int IntKind.u64 (gate a12 (gate a02 ↑((Int.toNat a12 + 18446744073709551616 - Int.toNat a02 - Int.toNat 0) % 18446744073709551616)))])
            else
              some
                (Tree.agg
                  [Tree.bool false,
                    Tree.int IntKind.u64
                      (gate a11
                        (gate a01
                          ↑((Int.toNat a11 + 18446744073709551616 - Int.toNat a01 -
                                Int.toNat
                                  (gate a12
                                    (gate a02
                                      (match decide (Int.toNat a12 < Int.toNat a02 + Int.toNat 0) with
                                      | true => 1
                                      | false => 0)))) %
                              18446744073709551616))),
                    Tree.int IntKind.u64 (gate a12 (gate a02 ↑((Int.toNat a12 + 18446744073709551616 - Int.toNat a02 - Int.toNat 0) % 18446744073709551616)))])
          else none
        else
          bif
              decide
                  (gate a02
                      (gate a12
                        (match decide (Int.toNat a02 < Int.toNat a12 + Int.toNat 0) with
                        | true => 1
                        | false => 0)) =
                    0) ||
                decide
                  (gate a02
                      (gate a12
                        (match decide (Int.toNat a02 < Int.toNat a12 + Int.toNat 0) with
                        | true => 1
                        | false => 0)) =
                    1) then
            bif a00 then
              some
                (Tree.agg
                  [Tree.bool
                      (gate
                          (gate a01
                            (gate a11
                              ↑((Int.toNat a01 + 18446744073709551616 - Int.toNat a11 -
                                    Int.toNat
                                      (gate a02
                                        (gate a12
                                          (match decide (Int.toNat a02 < Int.toNat a12 + Int.toNat 0) with
                                          | true => 1
                                          | false => 0)))) %
                                  18446744073709551616)))
                          (gate (gate a02 (gate a12 ↑((Int.toNat a02 + 18446744073709551616 - Int.toNat a12 - Int.toNat 0) % 18446744073709551616)))
                            (IntKind.wrap IntKind.u64
                              ↑(BitVec.toNat
                                  (BitVec.ofInt 64
                                      (gate a01
                                        (gate a11
                                          ↑((Int.toNat a01 + 18446744073709551616 - Int.toNat a11 -
                                                Int.toNat
                                                  (gate a02
                                                    (gate a12
                                                      (match decide (Int.toNat a02 < Int.toNat a12 + Int.toNat 0) with
                                                      | true => 1
                                                      | false => 0)))) %
                                              18446744073709551616))) |||
                                    BitVec.ofInt 64
                                      (gate a02 (gate a12 ↑((Int.toNat a02 + 18446744073709551616 - Int.toNat a12 - Int.toNat 0) % 18446744073709551616))))))) !=
                        0),
                    Tree.int IntKind.u64
                      (gate a01
                        (gate a11
                          ↑((Int.toNat a01 + 18446744073709551616 - Int.toNat a11 -
                                Int.toNat
                                  (gate a02
                                    (gate a12
                                      (match decide (Int.toNat a02 < Int.toNat a12 + Int.toNat 0) with
                                      | true => 1
                                      | false => 0)))) %
                              18446744073709551616))),
                    Tree.int IntKind.u64 (gate a02 (gate a12 ↑((Int.toNat a02 + 18446744073709551616 - Int.toNat a12 - Int.toNat 0) % 18446744073709551616)))])
            else
              some
                (Tree.agg
                  [Tree.bool false,
                    Tree.int IntKind.u64
                      (gate a01
                        (gate a11
                          ↑((Int.toNat a01 + 18446744073709551616 - Int.toNat a11 -
                                Int.toNat
                                  (gate a02
                                    (gate a12
                                      (match decide (Int.toNat a02 < Int.toNat a12 + Int.toNat 0) with
                                      | true => 1
                                      | false => 0)))) %
                              18446744073709551616))),
                    Tree.int IntKind.u64 (gate a02 (gate a12 ↑((Int.toNat a02 + 18446744073709551616 - Int.toNat a12 - Int.toNat 0) % 18446744073709551616)))])
          else none
      else none := by kernel_rfl

theorem e85 (n : Nat) (a00 : Int) (a01 : Int) : evQ (Tab.env tab) n 85 [Tree.agg [Tree.int IntKind.i64 a00, Tree.int IntKind.i64 a01]] =
    bif decide (a01 < 0) then some (Tree.tup [Tree.int IntKind.i64 (IntKind.wrap IntKind.i64 (0 - a00)), Tree.int IntKind.i64 (IntKind.wrap IntKind.i64 (0 - a01))])
  else some (Tree.tup [Tree.int IntKind.i64 a00, Tree.int IntKind.i64 a01]) := by kernel_rfl

theorem l86_0 (n q : Nat) (s0 : Int) (s1 : Int) : L86_0 n (Nat.succ q) s0 s1 =
    bif s1 != 0 then
    bif decide (s1 = 0) then none
    else
      L86_0 n q s1 (Int.tmod s0 s1)
  else some (Tree.int IntKind.u64 s0) := by kernel_rfl

theorem e86 (n : Nat) (a0 : Int) (a1 : Int) : evQ (Tab.env tab) n 86 [Tree.int IntKind.u64 a0, Tree.int IntKind.u64 a1] =
    L86_0 n n a0 a1 := by kernel_rfl

theorem l61_0 (n q : Nat) (h0_0_0 : Bool) (h0_0_1 : Int) (h0_0_2 : Int) (h1_0_0 : Bool) (h1_0_1 : Int) (h1_0_2 : Int) (h2_0_0 : Int) (h2_0_1 : Int) (h3_0_0 : Bool) (h3_0_1 : Int) (h3_0_2 : Int) (h4_0_0 : Bool) (h4_0_1 : Int) (h4_0_2 : Int) : L61_0 n (Nat.succ q) h0_0_0 h0_0_1 h0_0_2 h1_0_0 h1_0_1 h1_0_2 h2_0_0 h2_0_1 h3_0_0 h3_0_1 h3_0_2 h4_0_0 h4_0_1 h4_0_2 =
    bif gate h4_0_1 (gate h4_0_2 (IntKind.wrap IntKind.u64 ↑(BitVec.toNat (BitVec.ofInt 64 h4_0_1 ||| BitVec.ofInt 64 h4_0_2)))) != 0 then
    Option.bind
      (evP (Tab.env tab) n 87
        [Tree.agg [Tree.bool h3_0_0, Tree.int IntKind.u64 h3_0_1, Tree.int IntKind.u64 h3_0_2],
          Tree.agg [Tree.bool h4_0_0, Tree.int IntKind.u64 h4_0_1, Tree.int IntKind.u64 h4_0_2]])
      fun y =>
      bif Sh.ok (Sh.agg [Sh.bool, Sh.int IntKind.u64, Sh.int IntKind.u64]) y then
        L61_0 n q h0_0_0 h0_0_1 h0_0_2 h1_0_0 h1_0_1 h1_0_2 h2_0_0 h2_0_1 h4_0_0 h4_0_1 h4_0_2 (Tree.toBool (List.headD (Tree.cs y) (Tree.bool false))) (Tree.toInt (List.headD (List.tail (Tree.cs y)) (Tree.bool false))) (Tree.toInt (List.headD (List.tail (List.tail (Tree.cs y))) (Tree.bool false)))
      else none
  else
    Option.bind
      (evP (Tab.env tab) n 88
        [Tree.agg [Tree.bool h0_0_0, Tree.int IntKind.u64 h0_0_1, Tree.int IntKind.u64 h0_0_2],
          Tree.agg [Tree.bool h3_0_0, Tree.int IntKind.u64 h3_0_1, Tree.int IntKind.u64 h3_0_2]])
      fun y =>
      bif Sh.ok (Sh.agg [Sh.bool, Sh.int IntKind.u64, Sh.int IntKind.u64]) y then
        Option.bind
          (evP (Tab.env tab) n 52
            [Tree.agg
                [Tree.bool (Tree.toBool (List.headD (Tree.cs y) (Tree.bool false))),
                  Tree.int IntKind.u64 (Tree.toInt (List.headD (List.tail (Tree.cs y)) (Tree.bool false))),
                  Tree.int IntKind.u64 (Tree.toInt (List.headD (List.tail (List.tail (Tree.cs y))) (Tree.bool false)))]])
          fun y =>
          bif Sh.ok (Sh.tup [Sh.int IntKind.i64, Sh.bool]) y then
            Option.bind
              (evP (Tab.env tab) n 88
                [Tree.agg [Tree.bool h1_0_0, Tree.int IntKind.u64 h1_0_1, Tree.int IntKind.u64 h1_0_2],
                  Tree.agg [Tree.bool h3_0_0, Tree.int IntKind.u64 h3_0_1, Tree.int IntKind.u64 h3_0_2]])
              fun y_1 =>
              bif Sh.ok (Sh.agg [Sh.bool, Sh.int IntKind.u64, Sh.int IntKind.u64]) y_1 then
                Option.bind
                  (evP (Tab.env tab) n 52
                    [Tree.agg
                        [Tree.bool (Tree.toBool (List.headD (Tree.cs y_1) (Tree.bool false))),
                          Tree.int IntKind.u64 (Tree.toInt (List.headD (List.tail (Tree.cs y_1)) (Tree.bool false))),
                          Tree.int IntKind.u64 (Tree.toInt (List.headD (List.tail (List.tail (Tree.cs y_1))) (Tree.bool false)))]])
                  fun y_2 =>
                  bif Sh.ok (Sh.tup [Sh.int IntKind.i64, Sh.bool]) y_2 then
                    bif !Tree.toBool (List.headD (List.tail (Tree.tupl y)) (Tree.bool false)) then
                      some (Tree.tup [Tree.agg [Tree.int IntKind.i64 0, Tree.int IntKind.i64 0], Tree.int IntKind.i64 2])
                    else
                      bif !Tree.toBool (List.headD (List.tail (Tree.tupl y_2)) (Tree.bool false)) then
                        some (Tree.tup [Tree.agg [Tree.int IntKind.i64 0, Tree.int IntKind.i64 0], Tree.int IntKind.i64 2])
                      else
                        some
                          (Tree.tup
                            [Tree.agg
                                [Tree.int IntKind.i64 (Tree.toInt (List.headD (Tree.tupl y) (Tree.bool false))),
                                  Tree.int IntKind.i64 (Tree.toInt (List.headD (Tree.tupl y_2) (Tree.bool false)))],
                              Tree.int IntKind.i64 0])
                  else none
              else none
          else none
      else none := by kernel_rfl

theorem e61 (n : Nat) (a00 : Bool) (a01 : Int) (a02 : Int) (a10 : Bool) (a11 : Int) (a12 : Int) : evQ (Tab.env tab) n 61 [Tree.agg [Tree.bool a00, Tree.int IntKind.u64 a01, Tree.int IntKind.u64 a02], Tree.agg [Tree.bool a10, Tree.int IntKind.u64 a11, Tree.int IntKind.u64 a12]] =
    bif gate a01 (gate a02 (IntKind.wrap IntKind.u64 ↑(BitVec.toNat (BitVec.ofInt 64 a01 ||| BitVec.ofInt 64 a02)))) == 0 then
    some (Tree.tup [Tree.agg [Tree.int IntKind.i64 0, Tree.int IntKind.i64 1], Tree.int IntKind.i64 0])
  else
    L61_0 n n a00 a01 a02 a10 a11 a12 0 0 a00 a01 a02 a10 a11 a12 := by kernel_rfl

theorem e57 (n : Nat) (a00 : Int) (a01 : Int) : evQ (Tab.env tab) n 57 [Tree.agg [Tree.int IntKind.i64 a00, Tree.int IntKind.i64 a01]] =
    Option.bind (evP (Tab.env tab) n 70 [Tree.slc [Tree.int IntKind.i64 a00, Tree.int IntKind.i64 a01]]) fun y =>
    bif Sh.ok Sh.bool y then bif Tree.toBool y then some (Tree.bool (a01 != 0)) else some (Tree.bool false) else none := by kernel_rfl

theorem e58 (n : Nat) (a00 : Int) (a01 : Int) : evQ (Tab.env tab) n 58 [Tree.agg [Tree.int IntKind.i64 a00, Tree.int IntKind.i64 a01]] =
    Option.bind (evP (Tab.env tab) n 85 [Tree.agg [Tree.int IntKind.i64 a00, Tree.int IntKind.i64 a01]]) fun y =>
    bif Sh.ok (Sh.tup [Sh.int IntKind.i64, Sh.int IntKind.i64]) y then
      Option.bind (evP (Tab.env tab) n 83 [Tree.int IntKind.i64 (Tree.toInt (List.headD (Tree.tupl y) (Tree.bool false)))]) fun y_1 =>
        bif Sh.ok (Sh.int IntKind.u64) y_1 then
          Option.bind (evP (Tab.env tab) n 83 [Tree.int IntKind.i64 (Tree.toInt (List.headD (List.tail (Tree.tupl y)) (Tree.bool false)))]) fun y_2 =>
            bif Sh.ok (Sh.int IntKind.u64) y_2 then
              Option.bind (evP (Tab.env tab) n 86 [Tree.int IntKind.u64 (Tree.toInt y_1), Tree.int IntKind.u64 (Tree.toInt y_2)]) fun y_3 =>
                bif Sh.ok (Sh.int IntKind.u64) y_3 then
                  bif decide (IntKind.wrap IntKind.i64 (Tree.toInt y_3) = 0) then none
                  else
                    bif decide (IntKind.wrap IntKind.i64 (Tree.toInt y_3) = 0) then none
                    else
                      some
                        (Tree.agg
                          [Tree.int IntKind.i64
                              (IntKind.wrap IntKind.i64
                                (Int.tdiv (Tree.toInt (List.headD (Tree.tupl y) (Tree.bool false))) (IntKind.wrap IntKind.i64 (Tree.toInt y_3)))),
                            Tree.int IntKind.i64
                              (IntKind.wrap IntKind.i64
                                (Int.tdiv (Tree.toInt (List.headD (List.tail (Tree.tupl y)) (Tree.bool false))) (IntKind.wrap IntKind.i64 (Tree.toInt y_3))))])
                else none
            else none
        else none
    else none := by kernel_rfl

end Go.Proofs.Bw.Qb
