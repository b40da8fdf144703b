/-
  EQUATIONS of the reckoned code: printed by program.
-/
import Derived.Test.YtfkidinbolmkiaaQbTab
set_option linter.unusedSimpArgs false
set_option linter.unusedVariables false
set_option maxRecDepth 100000
namespace Go.Proofs.Bw.Qb
open Go.Proofs

def L34_0 (n q : Nat) (s1 : Int) (s6 : Int) (s34 : List Tree) (s35 : Int) (s36 : Int) : Option Tree :=
  evL (Tab.env tab) n 34 [1, 1, 1, 0, 1, 0] [q] { ts := [AV.any, AV.t (Tree.int IntKind.i64 s1), AV.any, AV.any, AV.any, AV.any, AV.t (Tree.int IntKind.i64 s6), AV.any, AV.any, AV.any, AV.any, AV.any, AV.any, AV.any, AV.any, AV.any, AV.any, AV.any, AV.any, AV.any, AV.any, AV.any, AV.any, AV.any, AV.any, AV.any, AV.any, AV.any, AV.any, AV.any, AV.any, AV.any, AV.any, AV.any, AV.t (Tree.slc s34), AV.t (Tree.int IntKind.i64 s35), AV.t (Tree.int IntKind.i64 s36), AV.any, AV.any, AV.any, AV.any, AV.any, AV.any, AV.any, AV.any, AV.any, AV.any, AV.any, AV.any, AV.any, AV.any, AV.any, AV.any, AV.any, AV.any, AV.any, AV.any, AV.any, AV.any, AV.any, AV.any, AV.any], H := [] }

def L38_0 (n q : Nat) (s0 : List Tree) (s1 : List Tree) (s5 : Int) : Option Tree :=
  evL (Tab.env tab) n 38 [1, 1, 0, 1, 0] [q] { ts := [AV.t (Tree.slc s0), AV.t (Tree.slc s1), AV.any, AV.any, AV.any, AV.t (Tree.int IntKind.i64 s5), AV.any, AV.any, AV.any, AV.any, AV.any, AV.any, AV.any, AV.any, AV.any, AV.any, AV.any, AV.any, AV.any, AV.any, AV.any, AV.any, AV.any, AV.any, AV.any, AV.any], H := [] }

def L40_0 (n q : Nat) (s0 : List Tree) (s3 : Int) : Option Tree :=
  evL (Tab.env tab) n 40 [1, 0, 1, 0] [q] { ts := [AV.t (Tree.slc s0), AV.any, AV.any, AV.t (Tree.int IntKind.i64 s3), AV.any, AV.any, AV.any, AV.any, AV.any, AV.any, AV.any, AV.any, AV.any, AV.any, AV.any, AV.any], H := [] }

def L46_0 (n q : Nat) (s0 : List Tree) (s1 : List Tree) (s7 : Int) : Option Tree :=
  evL (Tab.env tab) n 46 [1, 1, 1, 0, 1, 0] [q] { ts := [AV.t (Tree.slc s0), AV.t (Tree.slc s1), AV.any, AV.any, AV.any, AV.any, AV.nilS, AV.t (Tree.int IntKind.i64 s7), AV.any, AV.any, AV.any, AV.any, AV.any, AV.any, AV.any, AV.any, AV.any, AV.any, AV.any, AV.any, AV.any, AV.any, AV.any, AV.any, AV.any, AV.any, AV.any, AV.any, AV.any, AV.any, AV.any, AV.any, AV.any, AV.any, AV.any, AV.any], H := [] }

def L46_0b (n q : Nat) (s0 : List Tree) (s1 : List Tree) (s6 : List Tree) (s7 : Int) : Option Tree :=
  evL (Tab.env tab) n 46 [1, 1, 1, 0, 1, 0] [q] { ts := [AV.t (Tree.slc s0), AV.t (Tree.slc s1), AV.any, AV.any, AV.any, AV.any, AV.t (Tree.slc s6), AV.t (Tree.int IntKind.i64 s7), AV.any, AV.any, AV.any, AV.any, AV.any, AV.any, AV.any, AV.any, AV.any, AV.any, AV.any, AV.any, AV.any, AV.any, AV.any, AV.any, AV.any, AV.any, AV.any, AV.any, AV.any, AV.any, AV.any, AV.any, AV.any, AV.any, AV.any, AV.any], H := [] }

def L47_0 (n q : Nat) (s0 : List Tree) (s1 : Int) (s6 : Int) (s7 : Int) : Option Tree :=
  evL (Tab.env tab) n 47 [1, 1, 1, 0, 1, 0] [q] { ts := [AV.t (Tree.slc s0), AV.t (Tree.int IntKind.i64 s1), AV.any, AV.any, AV.any, AV.any, AV.t (Tree.int IntKind.i64 s6), AV.t (Tree.int IntKind.i64 s7), AV.any, AV.any, AV.any, AV.any, AV.any, AV.any, AV.any, AV.any, AV.any, AV.any, AV.any, AV.any, AV.any, AV.any, AV.any, AV.any, AV.any, AV.any], H := [] }

def L48_0 (n q : Nat) (s0 : List Tree) (s1 : Int) (s6 : Int) (s7 : Int) : Option Tree :=
  evL (Tab.env tab) n 48 [1, 1, 1, 1, 1, 0, 1, 0] [q] { ts := [AV.t (Tree.slc s0), AV.t (Tree.int IntKind.i64 s1), AV.any, AV.any, AV.any, AV.any, AV.t (Tree.int IntKind.i64 s6), AV.t (Tree.int IntKind.i64 s7), AV.any, AV.any, AV.any, AV.any, AV.any, AV.any, AV.any, AV.any, AV.any, AV.any, AV.any, AV.any, AV.any, AV.any, AV.any, AV.any, AV.any, AV.any, AV.any, AV.any, AV.any, AV.any, AV.any, AV.any, AV.any, AV.any, AV.any, AV.any, AV.any, AV.any, AV.any, AV.any, AV.any, AV.any, AV.any, AV.any, AV.any, AV.any, AV.any, AV.any, AV.any, AV.any, AV.any, AV.any, AV.any, AV.any, AV.any, AV.any, AV.any, AV.any, AV.any, AV.any, AV.any, AV.any, AV.any, AV.any, AV.any, AV.any, AV.any], H := [] }

def L71_0 (n q : Nat) (s1 : Int) (s5 : Int) (s8 : List Tree) (s9 : Int) (s10 : Int) : Option Tree :=
  evL (Tab.env tab) n 71 [1, 1, 0, 1, 0] [q] { ts := [AV.any, AV.t (Tree.int IntKind.i64 s1), AV.any, AV.any, AV.any, AV.t (Tree.int IntKind.i64 s5), AV.any, AV.any, AV.t (Tree.slc s8), AV.t (Tree.int IntKind.i64 s9), AV.t (Tree.int IntKind.i64 s10), AV.any, AV.any, AV.any, AV.any, AV.any, AV.any, AV.any, AV.any, AV.any, AV.any], H := [] }

def L77_0 (n q : Nat) (s0 : List Tree) (s3 : Int) : Option Tree :=
  evL (Tab.env tab) n 77 [1, 1, 0, 1, 0] [q] { ts := [AV.t (Tree.slc s0), AV.any, AV.any, AV.t (Tree.int IntKind.i64 s3), AV.any, AV.any, AV.any, AV.any, AV.any, AV.any, AV.any, AV.any, AV.any, AV.any, AV.any, AV.any, AV.any, AV.any, AV.any, AV.any, AV.any, AV.any, AV.any, AV.any, AV.any], H := [] }

def L78_0 (n q : Nat) (s0 : List Tree) (s1 : Int) (s5 : Int) : Option Tree :=
  evL (Tab.env tab) n 78 [1, 0, 1, 0] [q] { ts := [AV.t (Tree.slc s0), AV.t (Tree.int IntKind.i64 s1), AV.any, AV.any, AV.any, AV.t (Tree.int IntKind.i64 s5), AV.any, AV.any, AV.any, AV.any, AV.any, AV.any, AV.any, AV.any, AV.any, AV.any, AV.any, AV.any, AV.any], H := [] }

def L79_0 (n q : Nat) (s0 : List Tree) (s1 : Int) (s2 : Bool) (s8 : Bool) (s9 : Int) : Option Tree :=
  evL (Tab.env tab) n 79 [1, 1, 1, 0, 1, 0] [q] { ts := [AV.t (Tree.slc s0), AV.t (Tree.int IntKind.i64 s1), AV.t (Tree.bool s2), AV.any, AV.any, AV.any, AV.any, AV.nilS, AV.t (Tree.bool s8), AV.t (Tree.int IntKind.i64 s9), AV.any, AV.any, AV.any, AV.any, AV.any, AV.any, AV.any, AV.any, AV.any, AV.any, AV.any, AV.any, AV.any, AV.any, AV.any, AV.any, AV.any, AV.any, AV.any, AV.any, AV.any, AV.any, AV.any, AV.any, AV.any, AV.any, AV.any, AV.any, AV.any, AV.any, AV.any, AV.any, AV.any, AV.any, AV.any, AV.any, AV.any, AV.any, AV.any, AV.any, AV.any, AV.any, AV.any, AV.any], H := [] }

def L79_0b (n q : Nat) (s0 : List Tree) (s1 : Int) (s2 : Bool) (s8 : Bool) (s9 : Int) (h0 : List Tree) : Option Tree :=
  evL (Tab.env tab) n 79 [1, 1, 1, 0, 1, 0] [q] { ts := [AV.t (Tree.slc s0), AV.t (Tree.int IntKind.i64 s1), AV.t (Tree.bool s2), AV.any, AV.any, AV.any, AV.any, AV.hsl 0 none, AV.t (Tree.bool s8), AV.t (Tree.int IntKind.i64 s9), AV.any, AV.any, AV.any, AV.any, AV.any, AV.any, AV.any, AV.any, AV.any, AV.any, AV.any, AV.any, AV.any, AV.any, AV.any, AV.any, AV.any, AV.any, AV.any, AV.any, AV.any, AV.any, AV.any, AV.any, AV.any, AV.any, AV.any, AV.any, AV.any, AV.any, AV.any, AV.any, AV.any, AV.any, AV.any, AV.any, AV.any, AV.any, AV.any, AV.any, AV.any, AV.any, AV.any, AV.any], H := [HObj.tre (Sh.int IntKind.i64) h0] }

def L76_0 (n q : Nat) (s0 : Bool) (s1 : List Tree) (s7 : Int) : Option Tree :=
  evL (Tab.env tab) n 76 [1, 1, 0, 1, 0] [q] { ts := [AV.t (Tree.bool s0), AV.t (Tree.slc s1), AV.any, AV.any, AV.any, AV.any, AV.nilS, AV.t (Tree.int IntKind.i64 s7), AV.any, AV.any, AV.any, AV.any, AV.any, AV.any, AV.any, AV.any, AV.any, AV.any, AV.any, AV.any, AV.any, AV.any, AV.any, AV.any, AV.any, AV.any, AV.any, AV.any, AV.any, AV.any, AV.any, AV.any, AV.any, AV.any, AV.any, AV.any, AV.any, AV.any, AV.any, AV.any, AV.any, AV.any, AV.any, AV.any], H := [] }

def L76_1 (n q q2 : Nat) (s0 : Bool) (s1 : List Tree) (s7 : Int) (s8 : Int) : Option Tree :=
  evL (Tab.env tab) n 76 [1, 1, 0, 1, 0, 0, 1, 0, 0, 1, 1, 0] [q, q2] { ts := [AV.t (Tree.bool s0), AV.t (Tree.slc s1), AV.any, AV.any, AV.any, AV.any, AV.nilS, AV.t (Tree.int IntKind.i64 s7), AV.t (Tree.int IntKind.i64 s8), AV.any, AV.any, AV.any, AV.any, AV.any, AV.any, AV.any, AV.any, AV.any, AV.any, AV.any, AV.any, AV.any, AV.any, AV.any, AV.any, AV.any, AV.any, AV.any, AV.any, AV.any, AV.any, AV.any, AV.any, AV.any, AV.any, AV.any, AV.any, AV.any, AV.any, AV.any, AV.any, AV.any, AV.any, AV.any], H := [] }

def L76_1b (n q q2 : Nat) (s0 : Bool) (s1 : List Tree) (s6 : List Tree) (s7 : Int) (s8 : Int) : Option Tree :=
  evL (Tab.env tab) n 76 [1, 1, 0, 1, 0, 0, 1, 0, 0, 1, 1, 0] [q, q2] { ts := [AV.t (Tree.bool s0), AV.t (Tree.slc s1), AV.any, AV.any, AV.any, AV.any, AV.t (Tree.slc s6), AV.t (Tree.int IntKind.i64 s7), AV.t (Tree.int IntKind.i64 s8), AV.any, AV.any, AV.any, AV.any, AV.any, AV.any, AV.any, AV.any, AV.any, AV.any, AV.any, AV.any, AV.any, AV.any, AV.any, AV.any, AV.any, AV.any, AV.any, AV.any, AV.any, AV.any, AV.any, AV.any, AV.any, AV.any, AV.any, AV.any, AV.any, AV.any, AV.any, AV.any, AV.any, AV.any, AV.any], H := [] }

def L76_0b (n q : Nat) (s0 : Bool) (s1 : List Tree) (s6 : List Tree) (s7 : Int) : Option Tree :=
  evL (Tab.env tab) n 76 [1, 1, 0, 1, 0] [q] { ts := [AV.t (Tree.bool s0), AV.t (Tree.slc s1), AV.any, AV.any, AV.any, AV.any, AV.t (Tree.slc s6), AV.t (Tree.int IntKind.i64 s7), AV.any, AV.any, AV.any, AV.any, AV.any, AV.any, AV.any, AV.any, AV.any, AV.any, AV.any, AV.any, AV.any, AV.any, AV.any, AV.any, AV.any, AV.any, AV.any, AV.any, AV.any, AV.any, AV.any, AV.any, AV.any, AV.any, AV.any, AV.any, AV.any, AV.any, AV.any, AV.any, AV.any, AV.any, AV.any, AV.any], H := [] }

theorem e66 (n : Nat) (a0 : List Tree) : evQ (Tab.env tab) n 66 [Tree.slc a0] = bif decide ((↑(List.length a0) : Int) ≤ 60) then Option.bind (evP (Tab.env tab) n 70
 [Tree.slc a0]) fun y => bif Sh.ok Sh.bool y then some (Tree.bool (Tree.toBool y)) else none else some (Tree.bool false) := by kernel_rfl

theorem e33 (n : Nat) (a0 : List Tree) (a1 : List Tree) : evQ (Tab.env tab) n 33 [Tree.slc a0, Tree.slc a1] = Option.bind (evP (Tab.env tab) n 66 [Tree.slc a0]) fun y =>
 bif Sh.ok Sh.bool y then bif !Tree.toBool y then some (Tree.tup [Tree.slc [], Tree.int IntKind.i64 4]) else Option.bind (evP (Tab.env tab) n 66 [Tree.slc a1]) fun y =>
 bif Sh.ok Sh.bool y then bif !Tree.toBool y then some (Tree.tup [Tree.slc [], Tree.int IntKind.i64 4]) else Option.bind (evP (Tab.env tab) n 69 [Tree.slc [Tree.slc a0,
 Tree.slc a1]]) fun y => bif Sh.ok Sh.slc y then Option.bind (evP (Tab.env tab) n 68 [Tree.slc (Tree.elems y)]) fun y => bif Sh.ok Sh.slc y then Option.bind (evP (Tab.env
 tab) n 67 [Tree.slc (Tree.elems y)]) fun y => bif Sh.ok (Sh.tup [Sh.slc, Sh.int IntKind.i64]) y then some (Tree.tup [Tree.slc (Tree.elems (List.headD (Tree.tupl y)
 (Tree.bool false))), Tree.int IntKind.i64 (Tree.toInt (List.headD (List.tail (Tree.tupl y)) (Tree.bool false)))]) else none else none else none else none else none := by
 kernel_rfl

theorem e34 (n : Nat) (a0 : List Tree) (a1 : Int) : evQ (Tab.env tab) n 34 [Tree.slc a0, Tree.int IntKind.i64 a1] = Option.bind (evP (Tab.env tab) n 66 [Tree.slc a0]) fun
 y => bif Sh.ok Sh.bool y then bif !Tree.toBool y then some (Tree.tup [Tree.int IntKind.i64 0, Tree.int IntKind.i64 4]) else bif decide (a1 < 1) then some (Tree.tup
 [Tree.int IntKind.i64 0, Tree.int IntKind.i64 1]) else bif decide (a1 > 4) then some (Tree.tup [Tree.int IntKind.i64 0, Tree.int IntKind.i64 1]) else bif a1 == 4 then
 some (Tree.tup [Tree.int IntKind.i64 (↑(List.length a0) : Int), Tree.int IntKind.i64 0]) else bif (↑(List.length a0) : Int) == 0 then some (Tree.tup [Tree.int IntKind.i64
 (↑(List.length a0) : Int), Tree.int IntKind.i64 0]) else Option.bind (nth a0 (Int.toNat 0)) fun y => bif Sh.ok (Sh.int IntKind.i64) y then bif decide (0 ≤ 1) && (decide
 (1 ≤ (↑(List.length a0) : Int)) && decide ((↑(List.length a0) : Int) ≤ (↑(List.length a0) : Int))) then bif firstOk (Sh.int IntKind.i64) (List.drop (Int.toNat 1)
 (List.take (Int.toNat (↑(List.length a0) : Int)) a0)) then L34_0 n n a1 (Tree.toInt y) (List.drop (Int.toNat 1) (List.take (Int.toNat (↑(List.length a0) : Int)) a0))
 (↑(List.length (List.drop (Int.toNat 1) (List.take (Int.toNat (↑(List.length a0) : Int)) a0))) : Int) 0 else none else none else none else none := by kernel_rfl

theorem l34_0 (n q : Nat) (s1 : Int) (s6 : Int) (s34 : List Tree) (s35 : Int) (s36 : Int) : L34_0 n (Nat.succ q) s1 s6 s34 s35 s36 = bif decide (s36 < s35) then bif decide
 (0 ≤ s36) then Option.bind (nth s34 (Int.toNat s36)) fun y => bif Sh.ok (Sh.int IntKind.i64) y then bif s1 == 1 then L34_0 n q s1 (IntKind.wrap IntKind.i64 (s6 +
 Tree.toInt y)) s34 s35 (IntKind.wrap IntKind.i64 (s36 + 1)) else bif s1 == 2 then L34_0 n q s1 (imax s6 (Tree.toInt y)) s34 s35 (IntKind.wrap IntKind.i64 (s36 + 1)) else
 bif s1 == 3 then L34_0 n q s1 (imin s6 (Tree.toInt y)) s34 s35 (IntKind.wrap IntKind.i64 (s36 + 1)) else L34_0 n q s1 s6 s34 s35 (IntKind.wrap IntKind.i64 (s36 + 1)) else
 none else none else Option.bind (evP (Tab.env tab) n 70 [Tree.slc [Tree.int IntKind.i64 s6]]) fun y => bif Sh.ok Sh.bool y then bif !Tree.toBool y then some (Tree.tup
 [Tree.int IntKind.i64 0, Tree.int IntKind.i64 2]) else some (Tree.tup [Tree.int IntKind.i64 s6, Tree.int IntKind.i64 0]) else none := by kernel_rfl

theorem e35 (n : Nat) (a0 : List Tree) (a1 : Int) : evQ (Tab.env tab) n 35 [Tree.slc a0, Tree.int IntKind.i64 a1] = Option.bind (evP (Tab.env tab) n 66 [Tree.slc a0]) fun
 y => bif Sh.ok Sh.bool y then bif !Tree.toBool y then some (Tree.tup [Tree.int IntKind.i64 0, Tree.int IntKind.i64 4]) else Option.bind (evP (Tab.env tab) n 68 [Tree.slc
 a0]) fun y => bif Sh.ok Sh.slc y then Option.bind (evP (Tab.env tab) n 71 [Tree.slc (Tree.elems y), Tree.int IntKind.i64 a1]) fun y => bif Sh.ok (Sh.int IntKind.i64) y
 then some (Tree.tup [Tree.int IntKind.i64 (Tree.toInt y), Tree.int IntKind.i64 0]) else none else none else none := by kernel_rfl

theorem e36 (n : Nat) (a0 : List Tree) (a1 : List Tree) : evQ (Tab.env tab) n 36 [Tree.slc a0, Tree.slc a1] = Option.bind (evP (Tab.env tab) n 66 [Tree.slc a0]) fun y =>
 bif Sh.ok Sh.bool y then bif !Tree.toBool y then some (Tree.tup [Tree.slc [], Tree.int IntKind.i64 4]) else Option.bind (evP (Tab.env tab) n 66 [Tree.slc a1]) fun y =>
 bif Sh.ok Sh.bool y then bif !Tree.toBool y then some (Tree.tup [Tree.slc [], Tree.int IntKind.i64 4]) else Option.bind (evP (Tab.env tab) n 69 [Tree.slc [Tree.slc a0,
 Tree.slc a1]]) fun y => bif Sh.ok Sh.slc y then bif Qc.rowC (Tree.elems y) then bif true && true && Qc.rowC (sortT (Tree.elems y)) then Option.bind (evP (Tab.env tab) n
 67 [Tree.slc (Qc.cmpT (sortT (Tree.elems y)))]) fun y => bif Sh.ok (Sh.tup [Sh.slc, Sh.int IntKind.i64]) y then some (Tree.tup [Tree.slc (Tree.elems (List.headD
 (Tree.tupl y) (Tree.bool false))), Tree.int IntKind.i64 (Tree.toInt (List.headD (List.tail (Tree.tupl y)) (Tree.bool false)))]) else none else none else none else none
 else none else none := by kernel_rfl

theorem e38 (n : Nat) (a0 : List Tree) (a1 : List Tree) : evQ (Tab.env tab) n 38 [Tree.slc a0, Tree.slc a1] = bif (↑(List.length a0) : Int) != (↑(List.length a1) : Int)
 then some (Tree.bool false) else L38_0 n n a0 a1 0 := by kernel_rfl

theorem l38_0 (n q : Nat) (s0 : List Tree) (s1 : List Tree) (s5 : Int) : L38_0 n (Nat.succ q) s0 s1 s5 = bif decide (s5 < (↑(List.length s0) : Int)) then bif decide (0 ≤
 s5) then Option.bind (nth s0 (Int.toNat s5)) fun y => bif Sh.ok (Sh.int IntKind.i64) y then bif decide (0 ≤ s5) then Option.bind (nth s1 (Int.toNat s5)) fun y_1 => bif
 Sh.ok (Sh.int IntKind.i64) y_1 then bif Tree.toInt y != Tree.toInt y_1 then some (Tree.bool false) else L38_0 n q s0 s1 (IntKind.wrap IntKind.i64 (s5 + 1)) else none else
 none else none else none else some (Tree.bool true) := by kernel_rfl

theorem e39 (n : Nat) (a0 : List Tree) : evQ (Tab.env tab) n 39 [Tree.slc a0] = Option.bind (evP (Tab.env tab) n 66 [Tree.slc a0]) fun y => bif Sh.ok Sh.bool y then bif
 !Tree.toBool y then some (Tree.tup [Tree.slc [], Tree.int IntKind.i64 4]) else bif Qc.rowC a0 then bif true && true && Qc.rowC (sortT a0) then some (Tree.tup [Tree.slc
 (Qc.cmpT (sortT a0)), Tree.int IntKind.i64 0]) else none else none else none := by kernel_rfl

theorem e40 (n : Nat) (a0 : List Tree) : evQ (Tab.env tab) n 40 [Tree.slc a0] = L40_0 n n a0 0 := by kernel_rfl

theorem l40_0 (n q : Nat) (s0 : List Tree) (s3 : Int) : L40_0 n (Nat.succ q) s0 s3 = bif decide (s3 < (↑(List.length s0) : Int)) then bif decide (0 ≤ s3) then Option.bind
 (nth s0 (Int.toNat s3)) fun y => bif Sh.ok Sh.slc y then bif decide ((↑(List.length (Tree.elems y)) : Int) > 200) then some (Tree.bool true) else L40_0 n q s0
 (IntKind.wrap IntKind.i64 (s3 + 1)) else none else none else some (Tree.bool false) := by kernel_rfl

theorem e41 (n : Nat) (a0 : List Tree) : evQ (Tab.env tab) n 41 [Tree.slc a0] = Option.bind (evP (Tab.env tab) n 66 [Tree.slc a0]) fun y => bif Sh.ok Sh.bool y then bif
 !Tree.toBool y then some (Tree.tup [Tree.slc [], Tree.int IntKind.i64 4]) else Option.bind (evP (Tab.env tab) n 68 [Tree.slc a0]) fun y => bif Sh.ok Sh.slc y then some
 (Tree.tup [Tree.slc (Tree.elems y), Tree.int IntKind.i64 0]) else none else none := by kernel_rfl

theorem e42 (n : Nat) (a0 : List Tree) : evQ (Tab.env tab) n 42 [Tree.slc a0] = Option.bind (evP (Tab.env tab) n 76 [Tree.bool false, Tree.slc [Tree.slc a0]]) fun y => bif
 Sh.ok (Sh.tup [Sh.slc, Sh.int IntKind.i64]) y then some (Tree.tup [Tree.slc (Tree.elems (List.headD (Tree.tupl y) (Tree.bool false))), Tree.int IntKind.i64 (Tree.toInt
 (List.headD (List.tail (Tree.tupl y)) (Tree.bool false)))]) else none := by kernel_rfl

theorem e43 (n : Nat) (a0 : List Tree) (a1 : List Tree) : evQ (Tab.env tab) n 43 [Tree.slc a0, Tree.slc a1] = Option.bind (evP (Tab.env tab) n 76 [Tree.bool false,
 Tree.slc [Tree.slc a0, Tree.slc a1]]) fun y => bif Sh.ok (Sh.tup [Sh.slc, Sh.int IntKind.i64]) y then some (Tree.tup [Tree.slc (Tree.elems (List.headD (Tree.tupl y)
 (Tree.bool false))), Tree.int IntKind.i64 (Tree.toInt (List.headD (List.tail (Tree.tupl y)) (Tree.bool false)))]) else none := by kernel_rfl

theorem e44 (n : Nat) (a0 : List Tree) : evQ (Tab.env tab) n 44 [Tree.slc a0] = Option.bind (evP (Tab.env tab) n 76 [Tree.bool true, Tree.slc [Tree.slc a0]]) fun y => bif
 Sh.ok (Sh.tup [Sh.slc, Sh.int IntKind.i64]) y then some (Tree.tup [Tree.slc (Tree.elems (List.headD (Tree.tupl y) (Tree.bool false))), Tree.int IntKind.i64 (Tree.toInt
 (List.headD (List.tail (Tree.tupl y)) (Tree.bool false)))]) else none := by kernel_rfl

theorem e45 (n : Nat) (a0 : List Tree) (a1 : List Tree) : evQ (Tab.env tab) n 45 [Tree.slc a0, Tree.slc a1] = Option.bind (evP (Tab.env tab) n 76 [Tree.bool true, Tree.slc
 [Tree.slc a0, Tree.slc a1]]) fun y => bif Sh.ok (Sh.tup [Sh.slc, Sh.int IntKind.i64]) y then some (Tree.tup [Tree.slc (Tree.elems (List.headD (Tree.tupl y) (Tree.bool
 false))), Tree.int IntKind.i64 (Tree.toInt (List.headD (List.tail (Tree.tupl y)) (Tree.bool false)))]) else none := by kernel_rfl

theorem e46 (n : Nat) (a0 : List Tree) (a1 : List Tree) : evQ (Tab.env tab) n 46 [Tree.slc a0, Tree.slc a1] = Option.bind (evP (Tab.env tab) n 77 [Tree.slc a0]) fun y =>
 bif Sh.ok Sh.bool y then bif !Tree.toBool y then some (Tree.tup [Tree.slc [], Tree.int IntKind.i64 4]) else Option.bind (evP (Tab.env tab) n 77 [Tree.slc a1]) fun y =>
 bif Sh.ok Sh.bool y then bif !Tree.toBool y then some (Tree.tup [Tree.slc [], Tree.int IntKind.i64 4]) else L46_0 n n a0 a1 0 else none else none := by kernel_rfl

theorem l46_0 (n q : Nat) (s0 : List Tree) (s1 : List Tree) (s7 : Int) : L46_0 n (Nat.succ q) s0 s1 s7 = bif decide (s7 < (↑(List.length s0) : Int)) then bif decide (0 ≤
 s7) then Option.bind (nth s0 (Int.toNat s7)) fun y => bif Sh.ok (Sh.int IntKind.i64) y then Option.bind (evP (Tab.env tab) n 78 [Tree.slc s1, Tree.int IntKind.i64
 (Tree.toInt y)]) fun y => bif Sh.ok (Sh.int IntKind.i64) y then bif decide (Tree.toInt y ≥ 0) then bif decide (0 ≤ s7) then Option.bind (nth s0 (Int.toNat s7)) fun y =>
 bif Sh.ok (Sh.int IntKind.i64) y then Option.bind (evP (Tab.env tab) n 79 [Tree.slc [], Tree.int IntKind.i64 (Tree.toInt y), Tree.bool true]) fun y => bif Sh.ok Sh.slc y
 then L46_0b n q s0 s1 (Tree.elems y) (IntKind.wrap IntKind.i64 (s7 + 1)) else none else none else none else L46_0 n q s0 s1 (IntKind.wrap IntKind.i64 (s7 + 1)) else none
 else none else none else some (Tree.tup [Tree.slc [], Tree.int IntKind.i64 0]) := by kernel_rfl

theorem l46_0b (n q : Nat) (s0 : List Tree) (s1 : List Tree) (s6 : List Tree) (s7 : Int) : L46_0b n (Nat.succ q) s0 s1 s6 s7 = bif decide (s7 < (↑(List.length s0) : Int))
 then bif decide (0 ≤ s7) then Option.bind (nth s0 (Int.toNat s7)) fun y => bif Sh.ok (Sh.int IntKind.i64) y then Option.bind (evP (Tab.env tab) n 78 [Tree.slc s1,
 Tree.int IntKind.i64 (Tree.toInt y)]) fun y => bif Sh.ok (Sh.int IntKind.i64) y then bif decide (Tree.toInt y ≥ 0) then bif decide (0 ≤ s7) then Option.bind (nth s0
 (Int.toNat s7)) fun y => bif Sh.ok (Sh.int IntKind.i64) y then Option.bind (evP (Tab.env tab) n 79 [Tree.slc s6, Tree.int IntKind.i64 (Tree.toInt y), Tree.bool true]) fun
 y => bif Sh.ok Sh.slc y then L46_0b n q s0 s1 (Tree.elems y) (IntKind.wrap IntKind.i64 (s7 + 1)) else none else none else none else L46_0b n q s0 s1 s6 (IntKind.wrap
 IntKind.i64 (s7 + 1)) else none else none else none else some (Tree.tup [Tree.slc s6, Tree.int IntKind.i64 0]) := by kernel_rfl

theorem e47 (n : Nat) (a0 : List Tree) (a1 : Int) : evQ (Tab.env tab) n 47 [Tree.slc a0, Tree.int IntKind.i64 a1] = Option.bind (evP (Tab.env tab) n 77 [Tree.slc a0]) fun
 y => bif Sh.ok Sh.bool y then bif !Tree.toBool y then some (Tree.tup [Tree.int IntKind.i64 0, Tree.int IntKind.i64 4]) else L47_0 n n a0 a1 0 0 else none := by kernel_rfl

theorem l47_0 (n q : Nat) (s0 : List Tree) (s1 : Int) (s6 : Int) (s7 : Int) : L47_0 n (Nat.succ q) s0 s1 s6 s7 = bif decide (s7 < (↑(List.length s0) : Int)) then bif
 decide (0 ≤ s7) then Option.bind (nth s0 (Int.toNat s7)) fun y => bif Sh.ok (Sh.int IntKind.i64) y then bif Tree.toInt y == s1 then L47_0 n q s0 s1 (IntKind.wrap
 IntKind.i64 (s6 + 1)) (IntKind.wrap IntKind.i64 (s7 + 1)) else L47_0 n q s0 s1 s6 (IntKind.wrap IntKind.i64 (s7 + 1)) else none else none else some (Tree.tup [Tree.int
 IntKind.i64 s6, Tree.int IntKind.i64 0]) := by kernel_rfl

theorem e48 (n : Nat) (a0 : List Tree) (a1 : Int) : evQ (Tab.env tab) n 48 [Tree.slc a0, Tree.int IntKind.i64 a1] = Option.bind (evP (Tab.env tab) n 77 [Tree.slc a0]) fun
 y => bif Sh.ok Sh.bool y then bif !Tree.toBool y then some (Tree.tup [Tree.int IntKind.i64 0, Tree.int IntKind.i64 4]) else bif decide (a1 < 1) then some (Tree.tup
 [Tree.int IntKind.i64 0, Tree.int IntKind.i64 1]) else bif decide (a1 > 4) then some (Tree.tup [Tree.int IntKind.i64 0, Tree.int IntKind.i64 1]) else bif a1 == 4 then
 some (Tree.tup [Tree.int IntKind.i64 (↑(List.length a0) : Int), Tree.int IntKind.i64 0]) else bif (↑(List.length a0) : Int) == 0 then some (Tree.tup [Tree.int IntKind.i64
 (↑(List.length a0) : Int), Tree.int IntKind.i64 0]) else Option.bind (nth a0 (Int.toNat 0)) fun y => bif Sh.ok (Sh.int IntKind.i64) y then L48_0 n n a0 a1 (Tree.toInt y)
 1 else none else none := by kernel_rfl

theorem l48_0 (n q : Nat) (s0 : List Tree) (s1 : Int) (s6 : Int) (s7 : Int) : L48_0 n (Nat.succ q) s0 s1 s6 s7 = bif decide (s7 < (↑(List.length s0) : Int)) then bif s1 ==
 1 then bif decide (0 ≤ s7) then Option.bind (nth s0 (Int.toNat s7)) fun y => bif Sh.ok (Sh.int IntKind.i64) y then L48_0 n q s0 s1 (IntKind.wrap IntKind.i64 (s6 +
 Tree.toInt y)) (IntKind.wrap IntKind.i64 (s7 + 1)) else none else none else bif s1 == 2 then bif decide (0 ≤ s7) then Option.bind (nth s0 (Int.toNat s7)) fun y => bif
 Sh.ok (Sh.int IntKind.i64) y then L48_0 n q s0 s1 (imax s6 (Tree.toInt y)) (IntKind.wrap IntKind.i64 (s7 + 1)) else none else none else bif s1 == 3 then bif decide (0 ≤
 s7) then Option.bind (nth s0 (Int.toNat s7)) fun y => bif Sh.ok (Sh.int IntKind.i64) y then L48_0 n q s0 s1 (imin s6 (Tree.toInt y)) (IntKind.wrap IntKind.i64 (s7 + 1))
 else none else none else L48_0 n q s0 s1 s6 (IntKind.wrap IntKind.i64 (s7 + 1)) else bif decide (s6 > 1099511627776) then some (Tree.tup [Tree.int IntKind.i64 0, Tree.int
 IntKind.i64 2]) else bif decide (s6 < -1099511627776) then some (Tree.tup [Tree.int IntKind.i64 0, Tree.int IntKind.i64 2]) else some (Tree.tup [Tree.int IntKind.i64 s6,
 Tree.int IntKind.i64 0]) := by kernel_rfl

theorem e67 (n : Nat) (a0 : List Tree) : evQ (Tab.env tab) n 67 [Tree.slc a0] = bif decide ((↑(List.length a0) : Int) > 60) then some (Tree.tup [Tree.slc [], Tree.int
 IntKind.i64 2]) else some (Tree.tup [Tree.slc a0, Tree.int IntKind.i64 0]) := by kernel_rfl

theorem e71 (n : Nat) (a0 : List Tree) (a1 : Int) : evQ (Tab.env tab) n 71 [Tree.slc a0, Tree.int IntKind.i64 a1] = L71_0 n n a1 0 a0 (↑(List.length a0) : Int) 0 := by
 kernel_rfl

theorem l71_0 (n q : Nat) (s1 : Int) (s5 : Int) (s8 : List Tree) (s9 : Int) (s10 : Int) : L71_0 n (Nat.succ q) s1 s5 s8 s9 s10 = bif decide (s10 < s9) then bif decide (0 ≤
 s10) then Option.bind (nth s8 (Int.toNat s10)) fun y => bif Sh.ok (Sh.int IntKind.i64) y then bif s1 == Tree.toInt y then L71_0 n q s1 (IntKind.wrap IntKind.i64 (s5 + 1))
 s8 s9 (IntKind.wrap IntKind.i64 (s10 + 1)) else L71_0 n q s1 s5 s8 s9 (IntKind.wrap IntKind.i64 (s10 + 1)) else none else none else some (Tree.int IntKind.i64 s5) := by
 kernel_rfl

theorem e77 (n : Nat) (a0 : List Tree) : evQ (Tab.env tab) n 77 [Tree.slc a0] = bif decide ((↑(List.length a0) : Int) > 60) then some (Tree.bool false) else L77_0 n n a0 0
 := by kernel_rfl

theorem l77_0 (n q : Nat) (s0 : List Tree) (s3 : Int) : L77_0 n (Nat.succ q) s0 s3 = bif decide (s3 < (↑(List.length s0) : Int)) then bif decide (0 ≤ s3) then Option.bind
 (nth s0 (Int.toNat s3)) fun y => bif Sh.ok (Sh.int IntKind.i64) y then bif decide (Tree.toInt y < -1099511627776) then some (Tree.bool false) else bif decide (0 ≤ s3)
 then Option.bind (nth s0 (Int.toNat s3)) fun y => bif Sh.ok (Sh.int IntKind.i64) y then bif decide (Tree.toInt y > 1099511627776) then some (Tree.bool false) else L77_0 n
 q s0 (IntKind.wrap IntKind.i64 (s3 + 1)) else none else none else none else none else some (Tree.bool true) := by kernel_rfl

theorem e78 (n : Nat) (a0 : List Tree) (a1 : Int) : evQ (Tab.env tab) n 78 [Tree.slc a0, Tree.int IntKind.i64 a1] = L78_0 n n a0 a1 0 := by kernel_rfl

theorem l78_0 (n q : Nat) (s0 : List Tree) (s1 : Int) (s5 : Int) : L78_0 n (Nat.succ q) s0 s1 s5 = bif decide (s5 < (↑(List.length s0) : Int)) then bif decide (0 ≤ s5)
 then Option.bind (nth s0 (Int.toNat s5)) fun y => bif Sh.ok (Sh.int IntKind.i64) y then bif Tree.toInt y == s1 then some (Tree.int IntKind.i64 s5) else L78_0 n q s0 s1
 (IntKind.wrap IntKind.i64 (s5 + 1)) else none else none else some (Tree.int IntKind.i64 (-1)) := by kernel_rfl

theorem e79 (n : Nat) (a0 : List Tree) (a1 : Int) (a2 : Bool) : evQ (Tab.env tab) n 79 [Tree.slc a0, Tree.int IntKind.i64 a1, Tree.bool a2] = L79_0 n n a0 a1 a2 false 0 :=
 by kernel_rfl

theorem l79_0 (n q : Nat) (s0 : List Tree) (s1 : Int) (s2 : Bool) (s8 : Bool) (s9 : Int) : L79_0 n (Nat.succ q) s0 s1 s2 s8 s9 = bif decide (s9 < (↑(List.length s0) :
 Int)) then bif !s8 then bif decide (0 ≤ s9) then Option.bind (nth s0 (Int.toNat s9)) fun y => bif Sh.ok (Sh.int IntKind.i64) y then bif decide (s1 ≤ Tree.toInt y) then
 bif s2 then bif decide (0 ≤ s9) then Option.bind (nth s0 (Int.toNat s9)) fun y => bif Sh.ok (Sh.int IntKind.i64) y then bif !s1 == Tree.toInt y then bif decide (0 ≤ s9)
 then Option.bind (nth s0 (Int.toNat s9)) fun y => bif Sh.ok (Sh.int IntKind.i64) y then L79_0b n q s0 s1 s2 true (IntKind.wrap IntKind.i64 (s9 + 1)) [Tree.int IntKind.i64
 s1, Tree.int IntKind.i64 (Tree.toInt y)] else none else none else bif decide (0 ≤ s9) then Option.bind (nth s0 (Int.toNat s9)) fun y => bif Sh.ok (Sh.int IntKind.i64) y
 then L79_0b n q s0 s1 s2 true (IntKind.wrap IntKind.i64 (s9 + 1)) [Tree.int IntKind.i64 (Tree.toInt y)] else none else none else none else none else bif decide (0 ≤ s9)
 then Option.bind (nth s0 (Int.toNat s9)) fun y => bif Sh.ok (Sh.int IntKind.i64) y then L79_0b n q s0 s1 s2 true (IntKind.wrap IntKind.i64 (s9 + 1)) [Tree.int IntKind.i64
 s1, Tree.int IntKind.i64 (Tree.toInt y)] else none else none else bif decide (0 ≤ s9) then Option.bind (nth s0 (Int.toNat s9)) fun y => bif Sh.ok (Sh.int IntKind.i64) y
 then L79_0b n q s0 s1 s2 s8 (IntKind.wrap IntKind.i64 (s9 + 1)) [Tree.int IntKind.i64 (Tree.toInt y)] else none else none else none else none else bif decide (0 ≤ s9)
 then Option.bind (nth s0 (Int.toNat s9)) fun y => bif Sh.ok (Sh.int IntKind.i64) y then L79_0b n q s0 s1 s2 s8 (IntKind.wrap IntKind.i64 (s9 + 1)) [Tree.int IntKind.i64
 (Tree.toInt y)] else none else none else bif !s8 then some (Tree.slc [Tree.int IntKind.i64 s1]) else some (Tree.slc []) := by kernel_rfl

theorem l79_0b (n q : Nat) (s0 : List Tree) (s1 : Int) (s2 : Bool) (s8 : Bool) (s9 : Int) (h0 : List Tree) : L79_0b n (Nat.succ q) s0 s1 s2 s8 s9 h0 = bif decide (s9 <
 (↑(List.length s0) : Int)) then bif !s8 then bif decide (0 ≤ s9) then Option.bind (nth s0 (Int.toNat s9)) fun y => bif Sh.ok (Sh.int IntKind.i64) y then bif decide (s1 ≤
 Tree.toInt y) then bif s2 then bif decide (0 ≤ s9) then Option.bind (nth s0 (Int.toNat s9)) fun y => bif Sh.ok (Sh.int IntKind.i64) y then bif !s1 == Tree.toInt y then
 bif Nat.beq 1 1 && Nat.ble ((List.length h0 + List.length [Tree.int IntKind.i64 s1]) * 8) 140737488355328 then bif decide (0 ≤ s9) then Option.bind (nth s0 (Int.toNat
 s9)) fun y => bif Sh.ok (Sh.int IntKind.i64) y then bif Nat.beq 1 1 && Nat.ble ((List.length (h0 ++ [Tree.int IntKind.i64 s1]) + List.length [Sh.open (Sh.int IntKind.i64)
 (Sh.open (Sh.int IntKind.i64) y)]) * 8) 140737488355328 then L79_0b n q s0 s1 s2 true (IntKind.wrap IntKind.i64 (s9 + 1)) (h0 ++ [Tree.int IntKind.i64 s1] ++ [Sh.open
 (Sh.int IntKind.i64) (Sh.open (Sh.int IntKind.i64) y)]) else none else none else none else none else bif decide (0 ≤ s9) then Option.bind (nth s0 (Int.toNat s9)) fun y =>
 bif Sh.ok (Sh.int IntKind.i64) y then bif Nat.beq 1 1 && Nat.ble ((List.length h0 + List.length [Sh.open (Sh.int IntKind.i64) (Sh.open (Sh.int IntKind.i64) y)]) * 8)
 140737488355328 then L79_0b n q s0 s1 s2 true (IntKind.wrap IntKind.i64 (s9 + 1)) (h0 ++ [Sh.open (Sh.int IntKind.i64) (Sh.open (Sh.int IntKind.i64) y)]) else none else
 none else none else none else none else bif Nat.beq 1 1 && Nat.ble ((List.length h0 + List.length [Tree.int IntKind.i64 s1]) * 8) 140737488355328 then bif decide (0 ≤ s9)
 then Option.bind (nth s0 (Int.toNat s9)) fun y => bif Sh.ok (Sh.int IntKind.i64) y then bif Nat.beq 1 1 && Nat.ble ((List.length (h0 ++ [Tree.int IntKind.i64 s1]) +
 List.length [Sh.open (Sh.int IntKind.i64) (Sh.open (Sh.int IntKind.i64) y)]) * 8) 140737488355328 then L79_0b n q s0 s1 s2 true (IntKind.wrap IntKind.i64 (s9 + 1)) (h0 ++
 [Tree.int IntKind.i64 s1] ++ [Sh.open (Sh.int IntKind.i64) (Sh.open (Sh.int IntKind.i64) y)]) else none else none else none else none else bif decide (0 ≤ s9) then
 Option.bind (nth s0 (Int.toNat s9)) fun y => bif Sh.ok (Sh.int IntKind.i64) y then bif Nat.beq 1 1 && Nat.ble ((List.length h0 + List.length [Sh.open (Sh.int IntKind.i64)
 (Sh.open (Sh.int IntKind.i64) y)]) * 8) 140737488355328 then L79_0b n q s0 s1 s2 s8 (IntKind.wrap IntKind.i64 (s9 + 1)) (h0 ++ [Sh.open (Sh.int IntKind.i64) (Sh.open
 (Sh.int IntKind.i64) y)]) else none else none else none else none else none else bif decide (0 ≤ s9) then Option.bind (nth s0 (Int.toNat s9)) fun y => bif Sh.ok (Sh.int
 IntKind.i64) y then bif Nat.beq 1 1 && Nat.ble ((List.length h0 + List.length [Sh.open (Sh.int IntKind.i64) (Sh.open (Sh.int IntKind.i64) y)]) * 8) 140737488355328 then
 L79_0b n q s0 s1 s2 s8 (IntKind.wrap IntKind.i64 (s9 + 1)) (h0 ++ [Sh.open (Sh.int IntKind.i64) (Sh.open (Sh.int IntKind.i64) y)]) else none else none else none else bif
 !s8 then bif Nat.beq 1 1 && Nat.ble ((List.length h0 + List.length [Tree.int IntKind.i64 s1]) * 8) 140737488355328 then some (Tree.slc (h0 ++ [Tree.int IntKind.i64 s1]))
 else none else some (Tree.slc h0) := by kernel_rfl

theorem e8 (n : Nat) (a0 : List Tree) (a1 : List Tree) (a2 : Int) (a3 : Int) : evQ (Tab.env tab) n 8 [Tree.slc a0, Tree.slc a1, Tree.int IntKind.i64 a2, Tree.int
 IntKind.i64 a3] = Option.bind (evP (Tab.env tab) n 40 [Tree.slc [Tree.slc a0, Tree.slc a1]]) fun y => bif Sh.ok Sh.bool y then bif Tree.toBool y then some (Tree.bool
 true) else Option.bind (evP (Tab.env tab) n 41 [Tree.slc a0]) fun y => bif Sh.ok (Sh.tup [Sh.slc, Sh.int IntKind.i64]) y then Option.bind (evP (Tab.env tab) n 42
 [Tree.slc a0]) fun y_1 => bif Sh.ok (Sh.tup [Sh.slc, Sh.int IntKind.i64]) y_1 then bif Tree.toInt (List.headD (List.tail (Tree.tupl y)) (Tree.bool false)) != Tree.toInt
 (List.headD (List.tail (Tree.tupl y_1)) (Tree.bool false)) then some (Tree.bool false) else Option.bind (evP (Tab.env tab) n 38 [Tree.slc (Tree.elems (List.headD
 (Tree.tupl y) (Tree.bool false))), Tree.slc (Tree.elems (List.headD (Tree.tupl y_1) (Tree.bool false)))]) fun y => bif Sh.ok Sh.bool y then bif !Tree.toBool y then some
 (Tree.bool false) else Option.bind (evP (Tab.env tab) n 33 [Tree.slc a0, Tree.slc a1]) fun y => bif Sh.ok (Sh.tup [Sh.slc, Sh.int IntKind.i64]) y then Option.bind (evP
 (Tab.env tab) n 43 [Tree.slc a0, Tree.slc a1]) fun y_2 => bif Sh.ok (Sh.tup [Sh.slc, Sh.int IntKind.i64]) y_2 then bif Tree.toInt (List.headD (List.tail (Tree.tupl y))
 (Tree.bool false)) != Tree.toInt (List.headD (List.tail (Tree.tupl y_2)) (Tree.bool false)) then some (Tree.bool false) else Option.bind (evP (Tab.env tab) n 38 [Tree.slc
 (Tree.elems (List.headD (Tree.tupl y) (Tree.bool false))), Tree.slc (Tree.elems (List.headD (Tree.tupl y_2) (Tree.bool false)))]) fun y => bif Sh.ok Sh.bool y then bif
 !Tree.toBool y then some (Tree.bool false) else Option.bind (evP (Tab.env tab) n 39 [Tree.slc a0]) fun y => bif Sh.ok (Sh.tup [Sh.slc, Sh.int IntKind.i64]) y then
 Option.bind (evP (Tab.env tab) n 44 [Tree.slc a0]) fun y_3 => bif Sh.ok (Sh.tup [Sh.slc, Sh.int IntKind.i64]) y_3 then bif Tree.toInt (List.headD (List.tail (Tree.tupl
 y)) (Tree.bool false)) != Tree.toInt (List.headD (List.tail (Tree.tupl y_3)) (Tree.bool false)) then some (Tree.bool false) else Option.bind (evP (Tab.env tab) n 38
 [Tree.slc (Tree.elems (List.headD (Tree.tupl y) (Tree.bool false))), Tree.slc (Tree.elems (List.headD (Tree.tupl y_3) (Tree.bool false)))]) fun y => bif Sh.ok Sh.bool y
 then bif !Tree.toBool y then some (Tree.bool false) else Option.bind (evP (Tab.env tab) n 36 [Tree.slc a0, Tree.slc a1]) fun y => bif Sh.ok (Sh.tup [Sh.slc, Sh.int
 IntKind.i64]) y then Option.bind (evP (Tab.env tab) n 45 [Tree.slc a0, Tree.slc a1]) fun y_4 => bif Sh.ok (Sh.tup [Sh.slc, Sh.int IntKind.i64]) y_4 then bif Tree.toInt
 (List.headD (List.tail (Tree.tupl y)) (Tree.bool false)) != Tree.toInt (List.headD (List.tail (Tree.tupl y_4)) (Tree.bool false)) then some (Tree.bool false) else
 Option.bind (evP (Tab.env tab) n 38 [Tree.slc (Tree.elems (List.headD (Tree.tupl y) (Tree.bool false))), Tree.slc (Tree.elems (List.headD (Tree.tupl y_4) (Tree.bool
 false)))]) fun y => bif Sh.ok Sh.bool y then bif !Tree.toBool y then some (Tree.bool false) else Option.bind (evP (Tab.env tab) n 37 [Tree.slc a0, Tree.slc a1]) fun y =>
 bif Sh.ok (Sh.tup [Sh.slc, Sh.int IntKind.i64]) y then Option.bind (evP (Tab.env tab) n 46 [Tree.slc a0, Tree.slc a1]) fun y_5 => bif Sh.ok (Sh.tup [Sh.slc, Sh.int
 IntKind.i64]) y_5 then bif Tree.toInt (List.headD (List.tail (Tree.tupl y)) (Tree.bool false)) != Tree.toInt (List.headD (List.tail (Tree.tupl y_5)) (Tree.bool false))
 then some (Tree.bool false) else Option.bind (evP (Tab.env tab) n 38 [Tree.slc (Tree.elems (List.headD (Tree.tupl y) (Tree.bool false))), Tree.slc (Tree.elems (List.headD
 (Tree.tupl y_5) (Tree.bool false)))]) fun y => bif Sh.ok Sh.bool y then bif !Tree.toBool y then some (Tree.bool false) else Option.bind (evP (Tab.env tab) n 35 [Tree.slc
 a0, Tree.int IntKind.i64 a2]) fun y => bif Sh.ok (Sh.tup [Sh.int IntKind.i64, Sh.int IntKind.i64]) y then Option.bind (evP (Tab.env tab) n 47 [Tree.slc a0, Tree.int
 IntKind.i64 a2]) fun y_6 => bif Sh.ok (Sh.tup [Sh.int IntKind.i64, Sh.int IntKind.i64]) y_6 then Option.bind (evP (Tab.env tab) n 34 [Tree.slc a0, Tree.int IntKind.i64
 a3]) fun y_7 => bif Sh.ok (Sh.tup [Sh.int IntKind.i64, Sh.int IntKind.i64]) y_7 then Option.bind (evP (Tab.env tab) n 48 [Tree.slc a0, Tree.int IntKind.i64 a3]) fun y_8
 => bif Sh.ok (Sh.tup [Sh.int IntKind.i64, Sh.int IntKind.i64]) y_8 then bif Tree.toInt (List.headD (Tree.tupl y) (Tree.bool false)) == Tree.toInt (List.headD (Tree.tupl
 y_6) (Tree.bool false)) then bif Tree.toInt (List.headD (List.tail (Tree.tupl y)) (Tree.bool false)) == Tree.toInt (List.headD (List.tail (Tree.tupl y_6)) (Tree.bool
 false)) then bif Tree.toInt (List.headD (Tree.tupl y_7) (Tree.bool false)) == Tree.toInt (List.headD (Tree.tupl y_8) (Tree.bool false)) then bif Tree.toInt (List.headD
 (List.tail (Tree.tupl y_7)) (Tree.bool false)) == Tree.toInt (List.headD (List.tail (Tree.tupl y_8)) (Tree.bool false)) then Option.bind (evP (Tab.env tab) n 15 []) fun y
 => bif Sh.ok Sh.bool y then some (Tree.bool (Tree.toBool y)) else none else some (Tree.bool false) else some (Tree.bool false) else some (Tree.bool false) else some
 (Tree.bool false) else none else none else none else none else none else none else none else none else none else none else none else none else none else none else none
 else none else none else none else none else none := by kernel_rfl

theorem e37 (n : Nat) (a0 : List Tree) (a1 : List Tree) : evQ (Tab.env tab) n 37 [Tree.slc a0, Tree.slc a1] = Option.bind (evP (Tab.env tab) n 66 [Tree.slc a0]) fun y =>
 bif Sh.ok Sh.bool y then bif !Tree.toBool y then some (Tree.tup [Tree.slc [], Tree.int IntKind.i64 4]) else Option.bind (evP (Tab.env tab) n 66 [Tree.slc a1]) fun y =>
 bif Sh.ok Sh.bool y then bif !Tree.toBool y then some (Tree.tup [Tree.slc [], Tree.int IntKind.i64 4]) else bif Qc.rowC a0 then bif true && true && Qc.rowC (sortT a0)
 then bif true && true && (Qc.rowC (Qc.cmpT (sortT a0)) && Qc.rowC a1) then some (Tree.tup [Tree.slc (Qc.thinT a1 (Qc.cmpT (sortT a0))), Tree.int IntKind.i64 0]) else none
 else none else none else none else none := by kernel_rfl

theorem e76 (n : Nat) (a0 : Bool) (a1 : List Tree) : evQ (Tab.env tab) n 76 [Tree.bool a0, Tree.slc a1] = L76_0 n n a0 a1 0 := by kernel_rfl

theorem l76_0 (n q : Nat) (s0 : Bool) (s1 : List Tree) (s7 : Int) : L76_0 n (Nat.succ q) s0 s1 s7 = bif decide (s7 < (↑(List.length s1) : Int)) then bif decide (0 ≤ s7)
 then Option.bind (nth s1 (Int.toNat s7)) fun y => bif Sh.ok Sh.slc y then Option.bind (evP (Tab.env tab) n 77 [Tree.slc (Tree.elems y)]) fun y => bif Sh.ok Sh.bool y then
 bif !Tree.toBool y then some (Tree.tup [Tree.slc [], Tree.int IntKind.i64 4]) else L76_1 n n q s0 s1 s7 0 else none else none else none else some (Tree.tup [Tree.slc [],
 Tree.int IntKind.i64 0]) := by kernel_rfl

theorem l76_1 (n q q2 : Nat) (s0 : Bool) (s1 : List Tree) (s7 : Int) (s8 : Int) : L76_1 n (Nat.succ q) q2 s0 s1 s7 s8 = bif decide (0 ≤ s7) then Option.bind (nth s1
 (Int.toNat s7)) fun y => bif Sh.ok Sh.slc y then bif decide (s8 < (↑(List.length (Tree.elems y)) : Int)) then bif decide (0 ≤ s7) then Option.bind (nth s1 (Int.toNat s7))
 fun y => bif Sh.ok Sh.slc y then bif decide (0 ≤ s8) then Option.bind (nth (Tree.elems y) (Int.toNat s8)) fun y => bif Sh.ok (Sh.int IntKind.i64) y then Option.bind (evP
 (Tab.env tab) n 79 [Tree.slc [], Tree.int IntKind.i64 (Tree.toInt y), Tree.bool s0]) fun y => bif Sh.ok Sh.slc y then L76_1b n q q2 s0 s1 (Tree.elems y) s7 (IntKind.wrap
 IntKind.i64 (s8 + 1)) else none else none else none else none else none else L76_0 n q2 s0 s1 (IntKind.wrap IntKind.i64 (s7 + 1)) else none else none := by kernel_rfl

theorem l76_1b (n q q2 : Nat) (s0 : Bool) (s1 : List Tree) (s6 : List Tree) (s7 : Int) (s8 : Int) : L76_1b n (Nat.succ q) q2 s0 s1 s6 s7 s8 = bif decide (0 ≤ s7) then
 Option.bind (nth s1 (Int.toNat s7)) fun y => bif Sh.ok Sh.slc y then bif decide (s8 < (↑(List.length (Tree.elems y)) : Int)) then bif decide (0 ≤ s7) then Option.bind
 (nth s1 (Int.toNat s7)) fun y => bif Sh.ok Sh.slc y then bif decide (0 ≤ s8) then Option.bind (nth (Tree.elems y) (Int.toNat s8)) fun y => bif Sh.ok (Sh.int IntKind.i64)
 y then Option.bind (evP (Tab.env tab) n 79 [Tree.slc s6, Tree.int IntKind.i64 (Tree.toInt y), Tree.bool s0]) fun y => bif Sh.ok Sh.slc y then L76_1b n q q2 s0 s1
 (Tree.elems y) s7 (IntKind.wrap IntKind.i64 (s8 + 1)) else none else none else none else none else none else L76_0b n q2 s0 s1 s6 (IntKind.wrap IntKind.i64 (s7 + 1)) else
 none else none := by kernel_rfl

theorem l76_0b (n q : Nat) (s0 : Bool) (s1 : List Tree) (s6 : List Tree) (s7 : Int) : L76_0b n (Nat.succ q) s0 s1 s6 s7 = bif decide (s7 < (↑(List.length s1) : Int)) then
 bif decide (0 ≤ s7) then Option.bind (nth s1 (Int.toNat s7)) fun y => bif Sh.ok Sh.slc y then Option.bind (evP (Tab.env tab) n 77 [Tree.slc (Tree.elems y)]) fun y => bif
 Sh.ok Sh.bool y then bif !Tree.toBool y then some (Tree.tup [Tree.slc [], Tree.int IntKind.i64 4]) else L76_1b n n q s0 s1 s6 s7 0 else none else none else none else bif
 decide ((↑(List.length s6) : Int) > 60) then some (Tree.tup [Tree.slc [], Tree.int IntKind.i64 2]) else some (Tree.tup [Tree.slc s6, Tree.int IntKind.i64 0]) := by
 kernel_rfl


end Go.Proofs.Bw.Qb
