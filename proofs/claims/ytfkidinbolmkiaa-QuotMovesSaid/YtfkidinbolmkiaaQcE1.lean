/-
  EQUATIONS of the reckoned code: printed by program.
-/
import Derived.Test.YtfkidinbolmkiaaQcTab1
set_option linter.unusedSimpArgs false
set_option linter.unusedVariables false
set_option maxRecDepth 100000
namespace Go.Proofs.Bw.Qc
open Go.Proofs

def L98_0h (n q : Nat) (s3 : Int) (h0 : List Tree) : Option (AV × Heap) :=
  evLH (Tab.env tab1) 1 n 98 [1, 1, 0, 1, 0] [q] { ts := [AV.hsl 0 none, AV.any, AV.any, AV.t (Tree.int IntKind.i64 s3), AV.any, AV.any, AV.any, AV.any, AV.any, AV.any, AV.any, AV.any, AV.any, AV.any, AV.any, AV.any, AV.any, AV.any, AV.any, AV.any, AV.any, AV.any, AV.any, AV.any, AV.any, AV.any, AV.any, AV.any, AV.any, AV.any, AV.any, AV.any, AV.any, AV.any, AV.any, AV.any, AV.any, AV.any, AV.any, AV.any, AV.any, AV.any, AV.any, AV.any, AV.any, AV.any, AV.any, AV.any, AV.any, AV.any, AV.any, AV.any, AV.any, AV.any, AV.any, AV.any, AV.any, AV.any, AV.any, AV.any, AV.any], H := [HObj.tre (Sh.int IntKind.i64) h0] }

def L98_1h (n q q2 : Nat) (s3 : Int) (s4o : Nat) (s4l : Nat) (s5 : Int) (h0 : List Tree) : Option (AV × Heap) :=
  evLH (Tab.env tab1) 1 n 98 [1, 1, 0, 1, 0, 0, 1, 0, 0, 1, 0, 1, 0, 1, 0] [q, q2] { ts := [AV.hsl 0 none, AV.any, AV.any, AV.t (Tree.int IntKind.i64 s3), AV.hsub 0 s4o s4l, AV.t (Tree.int IntKind.i64 s5), AV.any, AV.any, AV.any, AV.any, AV.any, AV.any, AV.any, AV.any, AV.any, AV.any, AV.any, AV.any, AV.any, AV.any, AV.any, AV.any, AV.any, AV.any, AV.any, AV.any, AV.any, AV.any, AV.any, AV.any, AV.any, AV.any, AV.any, AV.any, AV.any, AV.any, AV.any, AV.any, AV.any, AV.any, AV.any, AV.any, AV.any, AV.any, AV.any, AV.any, AV.any, AV.any, AV.any, AV.any, AV.any, AV.any, AV.any, AV.any, AV.any, AV.any, AV.any, AV.any, AV.any, AV.any, AV.any], H := [HObj.tre (Sh.int IntKind.i64) h0] }

def L73_0h (n q : Nat) (s5 : Int) (s6 : Int) (h0 : List Tree) (h1_0 : List Tree) : Option (AV × Heap) :=
  evLH (Tab.env tab1) 2 n 73 [1, 1, 1, 0, 1, 0] [q] { ts := [AV.hsl 0 none, AV.fn 74 [] [AV.href 1 0 0], AV.any, AV.any, AV.any, AV.t (Tree.int IntKind.i64 s5), AV.t (Tree.int IntKind.i64 s6), AV.any, AV.any, AV.any, AV.any, AV.any, AV.any, AV.any, AV.any, AV.any, AV.any, AV.any, AV.any, AV.any, AV.any, AV.any, AV.any, AV.any, AV.any, AV.any, AV.any, AV.any, AV.any, AV.any, AV.any, AV.any, AV.any, AV.any, AV.any, AV.any, AV.any, AV.any, AV.any, AV.any, AV.any, AV.any], H := [HObj.tre (Sh.int IntKind.i64) h0, HObj.tre Sh.slc [Tree.slc h1_0]] }

def L100_0 (n q : Nat) (s0 : List Tree) (s1 : Int) (s7 : Int) (s8 : Int) : Option Tree :=
  evL (Tab.env tab1) n 100 [1, 0, 1, 0] [q] { ts := [AV.t (Tree.slc s0), AV.t (Tree.int IntKind.i64 s1), AV.any, AV.any, AV.any, AV.any, AV.any, AV.t (Tree.int IntKind.i64 s7), AV.t (Tree.int IntKind.i64 s8), AV.any, AV.any, AV.any, AV.any, AV.any, AV.any, AV.any, AV.any, AV.any, AV.any], H := [] }

def L99_0 (n q : Nat) (s0 : List Tree) (s1g : Nat) (s1p : List Tree) (s1c : List Tree) (s7 : Int) (s8 : Int) : Option Tree :=
  evL (Tab.env tab1) n 99 [1, 0, 1, 0] [q] { ts := [AV.t (Tree.slc s0), AV.t (Tree.fn s1g s1p s1c), AV.any, AV.any, AV.any, AV.any, AV.any, AV.t (Tree.int IntKind.i64 s7), AV.t (Tree.int IntKind.i64 s8), AV.any, AV.any, AV.any, AV.any, AV.any, AV.any, AV.any, AV.any, AV.any, AV.any], H := [] }

theorem r98h (n : Nat) (l : List Tree) : evR (Tab.env tab1) n 98 [AV.hsl 0 none] [HObj.tre (Sh.int IntKind.i64) l] = bif decide ((↑(List.length l) : Int) < 2) then some
 (AV.hsl 0 none, [HObj.tre (Sh.int IntKind.i64) l]) else L98_0h n n 1 l := by kernel_rfl

theorem m98_0h (n q : Nat) (s3 : Int) (h0 : List Tree) : L98_0h n (Nat.succ q) s3 h0 = bif decide (s3 < (↑(List.length h0) : Int)) then bif decide (0 ≤ s3) && (decide (s3
 < (↑(List.length h0) : Int)) && Nat.beq 1 1) then Option.bind (nth h0 (Int.toNat s3)) fun y => bif Sh.ok (Sh.int IntKind.i64) y then bif decide (0 ≤ IntKind.wrap
 IntKind.i64 (s3 - 1)) && (decide (IntKind.wrap IntKind.i64 (s3 - 1) < (↑(List.length h0) : Int)) && Nat.beq 1 1) then Option.bind (nth h0 (Int.toNat (IntKind.wrap
 IntKind.i64 (s3 - 1)))) fun y_1 => bif Sh.ok (Sh.int IntKind.i64) y_1 then bif Tree.toInt y == Tree.toInt y_1 then bif decide (0 ≤ s3) && (decide (s3 ≤ (↑(List.length h0)
 : Int)) && decide ((↑(List.length h0) : Int) ≤ (↑(List.length h0) : Int))) then L98_1h n n q s3 (Int.toNat s3) (Int.toNat (↑(List.length h0) : Int) - Int.toNat s3) 1 h0
 else none else L98_0h n q (IntKind.wrap IntKind.i64 (s3 + 1)) h0 else none else none else none else none else some (AV.hsl 0 none, [HObj.tre (Sh.int IntKind.i64) h0]) :=
 by kernel_rfl

theorem m98_1h (n q q2 : Nat) (s3 : Int) (s4o : Nat) (s4l : Nat) (s5 : Int) (h0 : List Tree) : L98_1h n (Nat.succ q) q2 s3 s4o s4l s5 h0 = bif decide (s5 < (↑s4l : Int))
 then bif decide (0 ≤ s5) && (decide (s5 < (↑s4l : Int)) && Nat.beq 1 1) then Option.bind (nth h0 (s4o + Int.toNat s5)) fun y => bif Sh.ok (Sh.int IntKind.i64) y then bif
 decide (0 ≤ IntKind.wrap IntKind.i64 (s5 - 1)) && (decide (IntKind.wrap IntKind.i64 (s5 - 1) < (↑s4l : Int)) && Nat.beq 1 1) then Option.bind (nth h0 (s4o + Int.toNat
 (IntKind.wrap IntKind.i64 (s5 - 1)))) fun y_1 => bif Sh.ok (Sh.int IntKind.i64) y_1 then bif Tree.toInt y != Tree.toInt y_1 then bif decide (0 ≤ s5) && (decide (s5 <
 (↑s4l : Int)) && Nat.beq 1 1) then Option.bind (nth h0 (s4o + Int.toNat s5)) fun y => bif Sh.ok (Sh.int IntKind.i64) y then bif decide (0 ≤ s3) && (decide (s3 <
 (↑(List.length h0) : Int)) && Nat.beq 1 1) then Option.bind (nth h0 (Int.toNat s3)) fun y_2 => bif Sh.ok (Sh.int IntKind.i64) y_2 then L98_1h n q q2 (IntKind.wrap
 IntKind.i64 (s3 + 1)) s4o s4l (IntKind.wrap IntKind.i64 (s5 + 1)) (setN h0 (Int.toNat s3) (Tree.int IntKind.i64 (Tree.toInt y))) else none else none else none else none
 else L98_1h n q q2 s3 s4o s4l (IntKind.wrap IntKind.i64 (s5 + 1)) h0 else none else none else none else none else bif decide (0 ≤ s3) && (decide (s3 ≤ (↑(List.length h0)
 : Int)) && decide ((↑(List.length h0) : Int) ≤ (↑(List.length h0) : Int))) then bif Nat.beq (Int.toNat (↑(List.length h0) : Int) - Int.toNat s3) 0 then bif decide ((0 :
 Int) ≤ 0) && (decide (0 ≤ s3) && decide (s3 ≤ (↑(List.length h0) : Int))) then some (AV.hsub 0 0 (Int.toNat s3 - Int.toNat 0), [HObj.tre (Sh.int IntKind.i64) h0]) else
 none else bif Nat.ble (Int.toNat s3 + (Int.toNat (↑(List.length h0) : Int) - Int.toNat s3)) (List.length h0) then bif decide ((0 : Int) ≤ 0) && (decide (0 ≤ s3) && decide
 (s3 ≤ (↑(List.length (List.take (Int.toNat s3) h0 ++ List.replicate (Int.toNat (↑(List.length h0) : Int) - Int.toNat s3) (Tree.int IntKind.i64 0) ++ List.drop (Int.toNat
 s3 + (Int.toNat (↑(List.length h0) : Int) - Int.toNat s3)) h0)) : Int))) then some (AV.hsub 0 0 (Int.toNat s3 - Int.toNat 0), [HObj.tre (Sh.int IntKind.i64) (List.take
 (Int.toNat s3) h0 ++ List.replicate (Int.toNat (↑(List.length h0) : Int) - Int.toNat s3) (Tree.int IntKind.i64 0) ++ List.drop (Int.toNat s3 + (Int.toNat (↑(List.length
 h0) : Int) - Int.toNat s3)) h0)]) else none else none else none := by kernel_rfl

theorem r73h (n : Nat) (l : List Tree) (b : List Tree) : evR (Tab.env tab1) n 73 [AV.hsl 0 none, AV.fn 74 [] [AV.href 1 0 0]] [HObj.tre (Sh.int IntKind.i64) l, HObj.tre
 Sh.slc [Tree.slc b]] = Option.bind (evP (Tab.env tab1) n 99 [Tree.slc l, Tree.fn 74 [] [Tree.ptr (Tree.slc b) 0]]) fun y => bif Sh.ok (Sh.int IntKind.i64) y then bif
 Tree.toInt y == -1 then some (AV.hsl 0 none, [HObj.tre (Sh.int IntKind.i64) l, HObj.tre Sh.slc [Tree.slc b]]) else L73_0h n n (Tree.toInt y) (IntKind.wrap IntKind.i64
 (Tree.toInt y + 1)) l b else none := by kernel_rfl

theorem m73_0h (n q : Nat) (s5 : Int) (s6 : Int) (h0 : List Tree) (h1_0 : List Tree) : L73_0h n (Nat.succ q) s5 s6 h0 h1_0 = bif decide (s6 < (↑(List.length h0) : Int))
 then bif decide (0 ≤ s6) && (decide (s6 < (↑(List.length h0) : Int)) && Nat.beq 1 1) then Option.bind (nth h0 (Int.toNat s6)) fun y => bif Sh.ok (Sh.int IntKind.i64) y
 then Option.bind (evP (Tab.env tab1) n 74 [Tree.int IntKind.i64 (Tree.toInt y), Tree.ptr (Tree.slc h1_0) 0]) fun y_1 => bif Sh.ok Sh.bool y_1 then bif !Tree.toBool y_1
 then bif decide (0 ≤ s5) && (decide (s5 < (↑(List.length h0) : Int)) && Nat.beq 1 1) then Option.bind (nth h0 (Int.toNat s5)) fun y_2 => bif Sh.ok (Sh.int IntKind.i64)
 y_2 then L73_0h n q (IntKind.wrap IntKind.i64 (s5 + 1)) (IntKind.wrap IntKind.i64 (s6 + 1)) (setN h0 (Int.toNat s5) (Tree.int IntKind.i64 (Tree.toInt y))) h1_0 else none
 else none else L73_0h n q s5 (IntKind.wrap IntKind.i64 (s6 + 1)) h0 h1_0 else none else none else none else bif decide (0 ≤ s5) && (decide (s5 ≤ (↑(List.length h0) :
 Int)) && decide ((↑(List.length h0) : Int) ≤ (↑(List.length h0) : Int))) then bif Nat.beq (Int.toNat (↑(List.length h0) : Int) - Int.toNat s5) 0 then bif decide ((0 :
 Int) ≤ 0) && (decide (0 ≤ s5) && decide (s5 ≤ (↑(List.length h0) : Int))) then some (AV.hsub 0 0 (Int.toNat s5 - Int.toNat 0), [HObj.tre (Sh.int IntKind.i64) h0, HObj.tre
 Sh.slc [Tree.slc h1_0]]) else none else bif Nat.ble (Int.toNat s5 + (Int.toNat (↑(List.length h0) : Int) - Int.toNat s5)) (List.length h0) then bif decide ((0 : Int) ≤ 0)
 && (decide (0 ≤ s5) && decide (s5 ≤ (↑(List.length (List.take (Int.toNat s5) h0 ++ List.replicate (Int.toNat (↑(List.length h0) : Int) - Int.toNat s5) (Tree.int
 IntKind.i64 0) ++ List.drop (Int.toNat s5 + (Int.toNat (↑(List.length h0) : Int) - Int.toNat s5)) h0)) : Int))) then some (AV.hsub 0 0 (Int.toNat s5 - Int.toNat 0),
 [HObj.tre (Sh.int IntKind.i64) (List.take (Int.toNat s5) h0 ++ List.replicate (Int.toNat (↑(List.length h0) : Int) - Int.toNat s5) (Tree.int IntKind.i64 0) ++ List.drop
 (Int.toNat s5 + (Int.toNat (↑(List.length h0) : Int) - Int.toNat s5)) h0), HObj.tre Sh.slc [Tree.slc h1_0]]) else none else none else none := by kernel_rfl

theorem r68h (n : Nat) (l : List Tree) : evR (Tab.env tab1) n 68 [AV.t (Tree.slc l)] [] = bif firstOk (Sh.int IntKind.i64) l then bif Nat.ble (List.length l * 8)
 140737488355328 then bif true && true && rowC l then some (AV.hsl 0 none, [HObj.tre (Sh.int IntKind.i64) (sortT l)]) else none else none else none := by kernel_rfl

theorem e100 (n : Nat) (a0 : List Tree) (a1 : Int) : evQ (Tab.env tab1) n 100 [Tree.slc a0, Tree.int IntKind.i64 a1] = L100_0 n n a0 a1 (↑(List.length a0) : Int) 0 := by
 kernel_rfl

theorem l100_0 (n q : Nat) (s0 : List Tree) (s1 : Int) (s7 : Int) (s8 : Int) : L100_0 n (Nat.succ q) s0 s1 s7 s8 = bif decide (s8 < s7) then bif decide (0 ≤ s8) then
 Option.bind (nth s0 (Int.toNat s8)) fun y => bif Sh.ok (Sh.int IntKind.i64) y then bif s1 == Tree.toInt y then some (Tree.int IntKind.i64 s8) else L100_0 n q s0 s1 s7
 (IntKind.wrap IntKind.i64 (s8 + 1)) else none else none else some (Tree.int IntKind.i64 (-1)) := by kernel_rfl

theorem e75 (n : Nat) (a0 : List Tree) (a1 : Int) : evQ (Tab.env tab1) n 75 [Tree.slc a0, Tree.int IntKind.i64 a1] = Option.bind (evP (Tab.env tab1) n 100 [Tree.slc a0,
 Tree.int IntKind.i64 a1]) fun y => bif Sh.ok (Sh.int IntKind.i64) y then some (Tree.bool (decide (Tree.toInt y ≥ 0))) else none := by kernel_rfl

theorem e74x (n : Nat) (b : List Tree) (x : Int) : evQ (Tab.env tab1) n 74 [Tree.int IntKind.i64 x, Tree.ptr (Tree.slc b) 0] = Option.bind (evP (Tab.env tab1) n 75
 [Tree.slc b, Tree.int IntKind.i64 x]) fun y => bif Sh.ok Sh.bool y then some (Tree.bool !Tree.toBool y) else none := by kernel_rfl

theorem e99 (n : Nat) (a0 : List Tree) (a1g : Nat) (a1p : List Tree) (a1c : List Tree) : evQ (Tab.env tab1) n 99 [Tree.slc a0, Tree.fn a1g a1p a1c] = L99_0 n n a0 a1g a1p
 a1c (↑(List.length a0) : Int) 0 := by kernel_rfl

theorem l99_0 (n q : Nat) (s0 : List Tree) (s1g : Nat) (s1p : List Tree) (s1c : List Tree) (s7 : Int) (s8 : Int) : L99_0 n (Nat.succ q) s0 s1g s1p s1c s7 s8 = bif decide
 (s8 < s7) then bif decide (0 ≤ s8) then Option.bind (nth s0 (Int.toNat s8)) fun y => bif Sh.ok (Sh.int IntKind.i64) y then Option.bind (evP (Tab.env tab1) n s1g (s1p ++
 [Sh.open (Sh.int IntKind.i64) (Sh.open (Sh.int IntKind.i64) y)] ++ s1c)) fun y => bif Sh.ok Sh.bool y then bif Tree.toBool y then some (Tree.int IntKind.i64 s8) else
 L99_0 n q s0 s1g s1p s1c s7 (IntKind.wrap IntKind.i64 (s8 + 1)) else none else none else none else some (Tree.int IntKind.i64 (-1)) := by kernel_rfl


end Go.Proofs.Bw.Qc
