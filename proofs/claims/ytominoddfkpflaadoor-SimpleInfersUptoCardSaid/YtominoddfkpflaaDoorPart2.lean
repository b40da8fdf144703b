/- SIMPLE: what the functions that the law reaches come to, and why. -/
import Derived.Test.YtominoddfkpflaaDoorPart1
import Derived.Test.YtominoddfkpflaaDoorCw4
set_option linter.unusedSimpArgs false
set_option linter.unusedVariables false

/-
  EQUATIONS of the reckoned code: printed by program.
-/
section
set_option maxRecDepth 100000
namespace Go.Proofs.Cw.Si
open Go.Proofs

def L47_0 (n q s0 s1 : Nat) (h0G : World') : Option (Tree × World') := evLW eQ n 47 [1, 0, 0] [q] ⟨[AV.t (Tree.wp s0 0), AV.t (Tree.wp s1 0)] ++ anyL 26, [HObj.wld h0G]⟩

def L96_0 (n q : Nat) (s0 : List Tree) (s1c_0 : Nat) (s1c_1 : Int) (s1c_2 : Nat) (s7 s8 : Int) (h0G : World') : Option (Tree × World') := evLW eQ n 96 [1, 0, 1, 0] [q]
 ⟨[AV.t (Tree.slc s0), AV.t (Tree.fn 89 [] [Tree.ptr (Tree.wp s1c_0 0) 0, Tree.ptr (q4 s1c_1) 0, Tree.ptr (Tree.wm s1c_2) 0]), AV.any, AV.any, AV.any, AV.any, AV.any, AV.t
 (q4 s7), AV.t (q4 s8)] ++ anyL 10, [HObj.wld h0G]⟩

def L68_0 (n q s0 s1 s2 s3 : Nat) (s91 s92 : Int) (h0G : World') : Option (Tree × World') := evLW eQ n 68 [1, 1, 1, 1, 1, 1, 0, 1, 0] [q] ⟨[AV.t (Tree.wp s0 0), AV.t
 (Tree.wp s1 0), AV.t (Tree.wp s2 0), AV.t (Tree.wm s3), AV.any, AV.any, AV.any, AV.any, AV.any, AV.any, AV.any, AV.any, AV.any, AV.any, AV.any, AV.any, AV.any, AV.any,
 AV.any, AV.any, AV.any, AV.any, AV.any, AV.any, AV.any, AV.any, AV.any, AV.any, AV.any, AV.any, AV.any, AV.any, AV.any, AV.any, AV.any, AV.any, AV.any, AV.any, AV.any,
 AV.any, AV.any, AV.any, AV.any, AV.any, AV.any, AV.any, AV.any, AV.any, AV.any, AV.any, AV.any, AV.any, AV.any, AV.any, AV.any, AV.any, AV.any, AV.any, AV.any, AV.any,
 AV.any, AV.any, AV.any, AV.any, AV.any, AV.any, AV.any, AV.any, AV.any, AV.any, AV.any, AV.any, AV.any, AV.any, AV.any, AV.any, AV.any, AV.any, AV.any, AV.any, AV.any,
 AV.any, AV.any, AV.any, AV.any, AV.any, AV.any, AV.any, AV.any, AV.any, AV.any, AV.t (q4 s91), AV.t (q4 s92)] ++ anyL 25, [HObj.wld h0G]⟩

def L20_0 (n q s0 s2 s3 : Nat) (s70 : List Tree) (s71 s72 : Int) (h0G : World') (h100 h200 : List UInt8) : Option (Tree × World') := evLW eQ n 20 [1, 1, 1, 1, 1, 0, 1, 0]
 [q] ⟨[AV.t (Tree.wp s0 0), AV.any, AV.t (Tree.wm s2), AV.t (Tree.wp s3 0), AV.any, AV.any, AV.any, AV.any, AV.href 1 0 0, AV.any, AV.any, AV.any, AV.href 2 0 0, AV.any,
 AV.any, AV.any, AV.any, AV.any, AV.any, AV.any, AV.any, AV.any, AV.any, AV.any, AV.any, AV.any, AV.any, AV.any, AV.any, AV.any, AV.any, AV.any, AV.any, AV.any, AV.any,
 AV.any, AV.any, AV.any, AV.any, AV.any, AV.any, AV.any, AV.any, AV.any, AV.any, AV.any, AV.any, AV.any, AV.any, AV.any, AV.any, AV.any, AV.any, AV.any, AV.any, AV.any,
 AV.any, AV.any, AV.any, AV.any, AV.any, AV.any, AV.any, AV.any, AV.any, AV.any, AV.any, AV.any, AV.any, AV.any, AV.t (Tree.slc s70), AV.t (q4 s71), AV.t (q4 s72)] ++ anyL
 22, [HObj.wld h0G, HObj.mix q2 [AV.agg [AV.t (Tree.str h100), AV.nilS]], HObj.mix q2 [AV.agg [AV.t (Tree.str h200), AV.nilS]]]⟩

def L20_0b (n q s0 s2 s3 : Nat) (s70 : List Tree) (s71 s72 : Int) (h0G : World') (h100 h200 : List UInt8) (h3 : List Tree) : Option (Tree × World') := evLW eQ n 20 [1, 1,
 1, 1, 1, 0, 1, 0] [q] ⟨[AV.t (Tree.wp s0 0), AV.any, AV.t (Tree.wm s2), AV.t (Tree.wp s3 0), AV.any, AV.any, AV.any, AV.any, AV.href 1 0 0, AV.any, AV.any, AV.any,
 AV.href 2 0 0, AV.any, AV.any, AV.any, AV.any, AV.any, AV.any, AV.any, AV.any, AV.any, AV.any, AV.any, AV.any, AV.any, AV.any, AV.any, AV.any, AV.any, AV.any, AV.any,
 AV.any, AV.any, AV.any, AV.any, AV.any, AV.any, AV.any, AV.any, AV.any, AV.any, AV.any, AV.any, AV.any, AV.any, AV.any, AV.any, AV.any, AV.any, AV.any, AV.any, AV.any,
 AV.any, AV.any, AV.any, AV.any, AV.any, AV.any, AV.any, AV.any, AV.any, AV.any, AV.any, AV.any, AV.any, AV.any, AV.any, AV.any, AV.any, AV.t (Tree.slc s70), AV.t (q4
 s71), AV.t (q4 s72)] ++ anyL 22, [HObj.wld h0G, HObj.mix q2 [AV.agg [AV.t (Tree.str h100), AV.nilS]], HObj.mix q2 [AV.agg [AV.t (Tree.str h200), AV.hsl 3 none]], HObj.tre
 q2 h3]⟩

def M19_0 (n q : Nat) (K : St → Option (Tree × World')) (s0 : Nat) (s1 s8 s28 : List Tree) (s29 s30 : Int) (h0G : World') (h100 h101 : Int) (h102 : List UInt8) (h103 h104
 : List Tree) : Option (Tree × World') := evLK eQ 1 n 19 5 [1, 1, 1, 1, 0, 1, 0] [q] ⟨[AV.t (Tree.wp s0 0), AV.t (Tree.slc s1), AV.any, AV.any, AV.any, AV.href 1 0 0,
 AV.any, AV.any, AV.t (Tree.slc s8), AV.nilS, AV.any, AV.any, AV.any, AV.any, AV.any, AV.any, AV.any, AV.any, AV.any, AV.any, AV.any, AV.any, AV.any, AV.any, AV.any,
 AV.any, AV.any, AV.any, AV.t (Tree.slc s28), AV.t (q4 s29), AV.t (q4 s30)] ++ anyL 129, [HObj.wld h0G, HObj.tre q0 [Tree.agg [q4 h100, q4 h101, Tree.str h102, Tree.slc
 h103, Tree.slc h104]]]⟩ (onW eQ 19 K)

def S19 (s0 : Nat) (s1 s8 s28 : List Tree) (s29 s30 : Int) (s31 : Bool) (h0G : World') (h100 h101 : Int) (h102 : List UInt8) (h103 h104 : List Tree) : St := ⟨[AV.t
 (Tree.wp s0 0), AV.t (Tree.slc s1), AV.any, AV.any, AV.any, AV.href 1 0 0, AV.any, AV.any, AV.t (Tree.slc s8), AV.nilS, AV.any, AV.any, AV.any, AV.any, AV.any, AV.any,
 AV.any, AV.any, AV.any, AV.any, AV.any, AV.any, AV.any, AV.any, AV.any, AV.any, AV.any, AV.any, AV.t (Tree.slc s28), AV.t (q4 s29), AV.t (q4 s30), AV.t (Tree.bool s31)]
 ++ anyL 128, [HObj.wld h0G, HObj.tre q0 [Tree.agg [q4 h100, q4 h101, Tree.str h102, Tree.slc h103, Tree.slc h104]]]⟩

def M19_0b (n q : Nat) (K : St → Option (Tree × World')) (s0 : Nat) (s1 s8 s28 : List Tree) (s29 s30 : Int) (h0G : World') (h100 h101 : Int) (h102 : List UInt8) (h103 h104
 h2 : List Tree) : Option (Tree × World') := evLK eQ 1 n 19 5 [1, 1, 1, 1, 0, 1, 0] [q] ⟨[AV.t (Tree.wp s0 0), AV.t (Tree.slc s1), AV.any, AV.any, AV.any, AV.href 1 0 0,
 AV.any, AV.any, AV.t (Tree.slc s8), AV.hsl 2 none, AV.any, AV.any, AV.any, AV.any, AV.any, AV.any, AV.any, AV.any, AV.any, AV.any, AV.any, AV.any, AV.any, AV.any, AV.any,
 AV.any, AV.any, AV.any, AV.t (Tree.slc s28), AV.t (q4 s29), AV.t (q4 s30)] ++ anyL 129, [HObj.wld h0G, HObj.tre q0 [Tree.agg [q4 h100, q4 h101, Tree.str h102, Tree.slc
 h103, Tree.slc h104]], HObj.tre Sh.any h2]⟩ (onW eQ 19 K)

def S19x1 (s0 : Nat) (s1 s8 s28 : List Tree) (s29 s30 : Int) (s31 : Bool) (h0G : World') (h100 h101 : Int) (h102 : List UInt8) (h103 h104 h2 : List Tree) : St := ⟨[AV.t
 (Tree.wp s0 0), AV.t (Tree.slc s1), AV.any, AV.any, AV.any, AV.href 1 0 0, AV.any, AV.any, AV.t (Tree.slc s8), AV.hsl 2 none, AV.any, AV.any, AV.any, AV.any, AV.any,
 AV.any, AV.any, AV.any, AV.any, AV.any, AV.any, AV.any, AV.any, AV.any, AV.any, AV.any, AV.any, AV.any, AV.t (Tree.slc s28), AV.t (q4 s29), AV.t (q4 s30), AV.t (Tree.bool
 s31)] ++ anyL 128, [HObj.wld h0G, HObj.tre q0 [Tree.agg [q4 h100, q4 h101, Tree.str h102, Tree.slc h103, Tree.slc h104]], HObj.tre Sh.any h2]⟩

def M19_0c (n q : Nat) (K : St → Option (Tree × World')) (s0 : Nat) (s1 s28 : List Tree) (s29 s30 : Int) (h0G : World') (h100 h101 : Int) (h102 : List UInt8) (h103 h104 h2
 : List Tree) : Option (Tree × World') := evLK eQ 1 n 19 5 [1, 1, 1, 1, 0, 1, 0] [q] ⟨[AV.t (Tree.wp s0 0), AV.t (Tree.slc s1), AV.any, AV.any, AV.any, AV.href 1 0 0,
 AV.any, AV.any, AV.hsl 2 none, AV.nilS, AV.any, AV.any, AV.any, AV.any, AV.any, AV.any, AV.any, AV.any, AV.any, AV.any, AV.any, AV.any, AV.any, AV.any, AV.any, AV.any,
 AV.any, AV.any, AV.t (Tree.slc s28), AV.t (q4 s29), AV.t (q4 s30)] ++ anyL 129, [HObj.wld h0G, HObj.tre q0 [Tree.agg [q4 h100, q4 h101, Tree.str h102, Tree.slc h103,
 Tree.slc h104]], HObj.tre Sh.any h2]⟩ (onW eQ 19 K)

def S19x2 (s0 : Nat) (s1 s28 : List Tree) (s29 s30 : Int) (s31 : Bool) (h0G : World') (h100 h101 : Int) (h102 : List UInt8) (h103 h104 h2 : List Tree) : St := ⟨[AV.t
 (Tree.wp s0 0), AV.t (Tree.slc s1), AV.any, AV.any, AV.any, AV.href 1 0 0, AV.any, AV.any, AV.hsl 2 none, AV.nilS, AV.any, AV.any, AV.any, AV.any, AV.any, AV.any, AV.any,
 AV.any, AV.any, AV.any, AV.any, AV.any, AV.any, AV.any, AV.any, AV.any, AV.any, AV.any, AV.t (Tree.slc s28), AV.t (q4 s29), AV.t (q4 s30), AV.t (Tree.bool s31)] ++ anyL
 128, [HObj.wld h0G, HObj.tre q0 [Tree.agg [q4 h100, q4 h101, Tree.str h102, Tree.slc h103, Tree.slc h104]], HObj.tre Sh.any h2]⟩

def M19_0x3 (n q : Nat) (K : St → Option (Tree × World')) (s0 : Nat) (s1 s28 : List Tree) (s29 s30 : Int) (h0G : World') (h100 h101 : Int) (h102 : List UInt8) (h103 h104
 h2 h3 : List Tree) : Option (Tree × World') := evLK eQ 1 n 19 5 [1, 1, 1, 1, 0, 1, 0] [q] ⟨[AV.t (Tree.wp s0 0), AV.t (Tree.slc s1), AV.any, AV.any, AV.any, AV.href 1 0
 0, AV.any, AV.any, AV.hsl 2 none, AV.hsl 3 none, AV.any, AV.any, AV.any, AV.any, AV.any, AV.any, AV.any, AV.any, AV.any, AV.any, AV.any, AV.any, AV.any, AV.any, AV.any,
 AV.any, AV.any, AV.any, AV.t (Tree.slc s28), AV.t (q4 s29), AV.t (q4 s30)] ++ anyL 129, [HObj.wld h0G, HObj.tre q0 [Tree.agg [q4 h100, q4 h101, Tree.str h102, Tree.slc
 h103, Tree.slc h104]], HObj.froz Sh.any h2, HObj.tre Sh.any h3]⟩ (onW eQ 19 K)

def S19x3 (s0 : Nat) (s1 s28 : List Tree) (s29 s30 : Int) (s31 : Bool) (h0G : World') (h100 h101 : Int) (h102 : List UInt8) (h103 h104 h2 h3 : List Tree) : St := ⟨[AV.t
 (Tree.wp s0 0), AV.t (Tree.slc s1), AV.any, AV.any, AV.any, AV.href 1 0 0, AV.any, AV.any, AV.hsl 2 none, AV.hsl 3 none, AV.any, AV.any, AV.any, AV.any, AV.any, AV.any,
 AV.any, AV.any, AV.any, AV.any, AV.any, AV.any, AV.any, AV.any, AV.any, AV.any, AV.any, AV.any, AV.t (Tree.slc s28), AV.t (q4 s29), AV.t (q4 s30), AV.t (Tree.bool s31)]
 ++ anyL 128, [HObj.wld h0G, HObj.tre q0 [Tree.agg [q4 h100, q4 h101, Tree.str h102, Tree.slc h103, Tree.slc h104]], HObj.froz Sh.any h2, HObj.tre Sh.any h3]⟩

theorem w44 (n f : Nat) (G : World') : evWQ eQ n 44 [Tree.wp f 0] G = Option.bind (wcell G f 0) fun y => bif q8 y then Option.bind (wset G f 0 [q4 (IntKind.wrap
 IntKind.i64 (Tree.toInt y + 1))]) fun y => Option.bind (wcell y f 0) fun y_1 => bif q8 y_1 then some (Tree.wp (List.length y) 0, y ++ [WObj.cells [Tree.str [], q4
 (Tree.toInt y_1), Tree.slc []]]) else none else none := by kernel_rfl

theorem w45 (n : Nat) (s : List UInt8) (a b : Nat) (G : World') : evWQ eQ n 45 [Tree.str s, Tree.wp a 0, Tree.wp b 0] G = some (Tree.wp (List.length G) 0, G ++ [WObj.cells
 [Tree.str s, q4 0, Tree.slc [Tree.wp a 0, Tree.wp b 0]]]) := by kernel_rfl

theorem w47 (n f t : Nat) (G : World') : evWQ eQ n 47 [Tree.wp f 0, Tree.wp t 0] G = L47_0 n n f t G := by kernel_rfl

theorem v47_0 (n q s0 s1 : Nat) (h0G : World') : L47_0 n (Nat.succ q) s0 s1 h0G = Option.bind (wcell h0G s1 0) fun y => bif Sh.ok Sh.str y then bif Tree.toStr y == [] then
 Option.bind (wcell h0G s0 1) fun y => bif Sh.ok Sh.wm y then Option.bind (wcell h0G s1 1) fun y_1 => bif q8 y_1 then Option.bind (wlook KeyC.int h0G (Tree.wid y) (q4
 (Tree.toInt y_1)) Tree.nilp) fun y => bif Prod.fst y then bif Sh.ok Sh.wp (Prod.snd y) then L47_0 n q s0 (Tree.wid (Prod.snd y)) h0G else none else some (Tree.wp s1 0,
 h0G) else none else none else some (Tree.wp s1 0, h0G) else none := by kernel_rfl

theorem w46 (n f a b : Nat) (G : World') : evWQ eQ n 46 [Tree.wp f 0, Tree.wp a 0, Tree.wp b 0] G = Option.bind (evW eQ n 68 [Tree.wp f 0, Tree.wp a 0, Tree.wp b 0,
 Tree.wm (List.length G)] (G ++ [WObj.map []])) fun y => bif Sh.ok Sh.bool (Prod.fst y) then some (Tree.bool (Tree.toBool (Prod.fst y)), Prod.snd y) else none := by
 kernel_rfl

theorem w81 (n f : Nat) (k : Int) (t s : Nat) (G : World') : evWQ eQ n 81 [Tree.wp f 0, q4 k, Tree.wp t 0, Tree.wm s] G = Option.bind (evW eQ n 47 [Tree.wp f 0, Tree.wp t
 0] G) fun y => bif Sh.ok Sh.wp (Prod.fst y) then Option.bind (wcell (Prod.snd y) (Tree.wid (Prod.fst y)) 0) fun y_1 => bif Sh.ok Sh.str y_1 then bif Tree.toStr y_1 == []
 then Option.bind (wcell (Prod.snd y) (Tree.wid (Prod.fst y)) 1) fun y_2 => bif q8 y_2 then some (Tree.bool (Tree.toInt y_2 == k), Prod.snd y) else none else Option.bind
 (wlook KeyC.ptr (Prod.snd y) s (Tree.wp (Tree.wid (Prod.fst y)) 0) (Tree.bool false)) fun y_2 => bif Sh.ok Sh.bool (Prod.snd y_2) then bif Tree.toBool (Prod.snd y_2) then
 some (Tree.bool false, Prod.snd y) else Option.bind (wput KeyC.ptr (Prod.snd y) s (Tree.wp (Tree.wid (Prod.fst y)) 0) (Tree.bool true)) fun y_3 => Option.bind (wcell y_3
 (Tree.wid (Prod.fst y)) 2) fun y => bif Sh.ok Sh.slc y then Option.bind (evW eQ n 88 [Tree.slc (Tree.elems y), Tree.fn 89 [] [Tree.ptr (Tree.wp f 0) 0, Tree.ptr (q4 k) 0,
 Tree.ptr (Tree.wm s) 0]] y_3) fun y => bif Sh.ok Sh.bool (Prod.fst y) then some (Tree.bool (Tree.toBool (Prod.fst y)), Prod.snd y) else none else none else none else none
 else none := by kernel_rfl

theorem w89 (n x f : Nat) (k : Int) (s : Nat) (G : World') : evWQ eQ n 89 [Tree.wp x 0, Tree.ptr (Tree.wp f 0) 0, Tree.ptr (q4 k) 0, Tree.ptr (Tree.wm s) 0] G =
 Option.bind (evW eQ n 81 [Tree.wp f 0, q4 k, Tree.wp x 0, Tree.wm s] G) fun y => bif Sh.ok Sh.bool (Prod.fst y) then some (Tree.bool (Tree.toBool (Prod.fst y)), Prod.snd
 y) else none := by kernel_rfl

theorem w88 (n : Nat) (l p c : List Tree) (g : Nat) (G : World') : evWQ eQ n 88 [Tree.slc l, Tree.fn g p c] G = Option.bind (evW eQ n 96 [Tree.slc l, Tree.fn g p c] G) fun
 y => bif q8 (Prod.fst y) then some (Tree.bool (decide (Tree.toInt (Prod.fst y) ≥ 0)), Prod.snd y) else none := by kernel_rfl

theorem w96 (n : Nat) (l : List Tree) (f : Nat) (k : Int) (s : Nat) (G : World') : evWQ eQ n 96 [Tree.slc l, Tree.fn 89 [] [Tree.ptr (Tree.wp f 0) 0, Tree.ptr (q4 k) 0,
 Tree.ptr (Tree.wm s) 0]] G = L96_0 n n l f k s (↑(List.length l) : Int) 0 G := by kernel_rfl

theorem v96_0 (n q : Nat) (s0 : List Tree) (s1c_0 : Nat) (s1c_1 : Int) (s1c_2 : Nat) (s7 s8 : Int) (h0G : World') : L96_0 n (Nat.succ q) s0 s1c_0 s1c_1 s1c_2 s7 s8 h0G =
 bif decide (s8 < s7) then bif decide (0 ≤ s8) then Option.bind (nth s0 (Int.toNat s8)) fun y => bif Sh.ok Sh.wp y then Option.bind (evW eQ n 89 [Tree.wp (Tree.wid y) 0,
 Tree.ptr (Tree.wp s1c_0 0) 0, Tree.ptr (q4 s1c_1) 0, Tree.ptr (Tree.wm s1c_2) 0] h0G) fun y => bif Sh.ok Sh.bool (Prod.fst y) then bif Tree.toBool (Prod.fst y) then some
 (q4 s8, Prod.snd y) else L96_0 n q s0 s1c_0 s1c_1 s1c_2 s7 (IntKind.wrap IntKind.i64 (s8 + 1)) (Prod.snd y) else none else none else none else some (q4 (-1), h0G) := by
 kernel_rfl

theorem w68 (n f a b s : Nat) (G : World') : evWQ eQ n 68 [Tree.wp f 0, Tree.wp a 0, Tree.wp b 0, Tree.wm s] G = Option.bind (evW eQ n 47 [Tree.wp f 0, Tree.wp a 0] G) fun
 y => bif Sh.ok Sh.wp (Prod.fst y) then Option.bind (evW eQ n 47 [Tree.wp f 0, Tree.wp b 0] (Prod.snd y)) fun y_1 => bif Sh.ok Sh.wp (Prod.fst y_1) then bif Nat.beq
 (Tree.wid (Prod.fst y)) (Tree.wid (Prod.fst y_1)) && true then some (Tree.bool true, Prod.snd y_1) else Option.bind (wlook (KeyC.arr 2) (Prod.snd y_1) s (Tree.agg
 [Tree.wp (Tree.wid (Prod.fst y)) 0, Tree.wp (Tree.wid (Prod.fst y_1)) 0]) (Tree.bool false)) fun y_2 => bif Sh.ok Sh.bool (Prod.snd y_2) then bif Tree.toBool (Prod.snd
 y_2) then some (Tree.bool true, Prod.snd y_1) else Option.bind (wcell (Prod.snd y_1) (Tree.wid (Prod.fst y)) 0) fun y_3 => bif Sh.ok Sh.str y_3 then bif !Tree.toStr y_3
 == [] then Option.bind (wcell (Prod.snd y_1) (Tree.wid (Prod.fst y_1)) 0) fun y_4 => bif Sh.ok Sh.str y_4 then bif Tree.toStr y_4 == [] then Option.bind (wcell (Prod.snd
 y_1) (Tree.wid (Prod.fst y_1)) 0) fun y_5 => bif Sh.ok Sh.str y_5 then bif Tree.toStr y_5 == [] then Option.bind (wcell (Prod.snd y_1) (Tree.wid (Prod.fst y)) 0) fun y_6
 => bif Sh.ok Sh.str y_6 then bif Tree.toStr y_6 == [] then Option.bind (wcell (Prod.snd y_1) (Tree.wid (Prod.fst y_1)) 1) fun y_7 => bif q8 y_7 then Option.bind (wcell
 (Prod.snd y_1) (Tree.wid (Prod.fst y)) 1) fun y_8 => bif q8 y_8 then bif Tree.toInt y_7 == Tree.toInt y_8 then some (Tree.bool true, Prod.snd y_1) else Option.bind (wcell
 (Prod.snd y_1) (Tree.wid (Prod.fst y_1)) 1) fun y_9 => bif q8 y_9 then Option.bind (evW eQ n 81 [Tree.wp f 0, q4 (Tree.toInt y_9), Tree.wp (Tree.wid (Prod.fst y)) 0,
 Tree.wm (List.length (Prod.snd y_1))] (Prod.snd y_1 ++ [WObj.map []])) fun y_10 => bif Sh.ok Sh.bool (Prod.fst y_10) then bif Tree.toBool (Prod.fst y_10) then some
 (Tree.bool false, Prod.snd y_10) else Option.bind (wcell (Prod.snd y_10) f 1) fun y_11 => bif Sh.ok Sh.wm y_11 then Option.bind (wcell (Prod.snd y_10) (Tree.wid (Prod.fst
 y_1)) 1) fun y_12 => bif q8 y_12 then Option.bind (wput KeyC.int (Prod.snd y_10) (Tree.wid y_11) (q4 (Tree.toInt y_12)) (Tree.wp (Tree.wid (Prod.fst y)) 0)) fun y => some
 (Tree.bool true, y) else none else none else none else none else none else none else Option.bind (wcell (Prod.snd y_1) (Tree.wid (Prod.fst y_1)) 1) fun y_7 => bif q8 y_7
 then Option.bind (evW eQ n 81 [Tree.wp f 0, q4 (Tree.toInt y_7), Tree.wp (Tree.wid (Prod.fst y)) 0, Tree.wm (List.length (Prod.snd y_1))] (Prod.snd y_1 ++ [WObj.map []]))
 fun y_8 => bif Sh.ok Sh.bool (Prod.fst y_8) then bif Tree.toBool (Prod.fst y_8) then some (Tree.bool false, Prod.snd y_8) else Option.bind (wcell (Prod.snd y_8) f 1) fun
 y_9 => bif Sh.ok Sh.wm y_9 then Option.bind (wcell (Prod.snd y_8) (Tree.wid (Prod.fst y_1)) 1) fun y_10 => bif q8 y_10 then Option.bind (wput KeyC.int (Prod.snd y_8)
 (Tree.wid y_9) (q4 (Tree.toInt y_10)) (Tree.wp (Tree.wid (Prod.fst y)) 0)) fun y => some (Tree.bool true, y) else none else none else none else none else none else
 Option.bind (wcell (Prod.snd y_1) (Tree.wid (Prod.fst y_1)) 0) fun y_6 => bif Sh.ok Sh.str y_6 then Option.bind (wcell (Prod.snd y_1) (Tree.wid (Prod.fst y)) 0) fun y_7
 => bif Sh.ok Sh.str y_7 then bif !Tree.toStr y_6 == Tree.toStr y_7 then some (Tree.bool false, Prod.snd y_1) else Option.bind (wcell (Prod.snd y_1) (Tree.wid (Prod.fst
 y_1)) 2) fun y_8 => bif Sh.ok Sh.slc y_8 then L68_0 n n f (Tree.wid (Prod.fst y_1)) (Tree.wid (Prod.fst y)) s (↑(List.length (Tree.elems y_8)) : Int) 0 (Prod.snd y_1)
 else none else none else none else none else Option.bind (wcell (Prod.snd y_1) (Tree.wid (Prod.fst y)) 0) fun y_5 => bif Sh.ok Sh.str y_5 then bif Tree.toStr y_5 == []
 then Option.bind (wcell (Prod.snd y_1) (Tree.wid (Prod.fst y_1)) 0) fun y_6 => bif Sh.ok Sh.str y_6 then bif Tree.toStr y_6 == [] then Option.bind (wcell (Prod.snd y_1)
 (Tree.wid (Prod.fst y)) 1) fun y_7 => bif q8 y_7 then Option.bind (wcell (Prod.snd y_1) (Tree.wid (Prod.fst y_1)) 1) fun y_8 => bif q8 y_8 then bif Tree.toInt y_7 ==
 Tree.toInt y_8 then some (Tree.bool true, Prod.snd y_1) else Option.bind (wcell (Prod.snd y_1) (Tree.wid (Prod.fst y)) 1) fun y_9 => bif q8 y_9 then Option.bind (evW eQ n
 81 [Tree.wp f 0, q4 (Tree.toInt y_9), Tree.wp (Tree.wid (Prod.fst y_1)) 0, Tree.wm (List.length (Prod.snd y_1))] (Prod.snd y_1 ++ [WObj.map []])) fun y_10 => bif Sh.ok
 Sh.bool (Prod.fst y_10) then bif Tree.toBool (Prod.fst y_10) then some (Tree.bool false, Prod.snd y_10) else Option.bind (wcell (Prod.snd y_10) f 1) fun y_11 => bif Sh.ok
 Sh.wm y_11 then Option.bind (wcell (Prod.snd y_10) (Tree.wid (Prod.fst y)) 1) fun y => bif q8 y then Option.bind (wput KeyC.int (Prod.snd y_10) (Tree.wid y_11) (q4
 (Tree.toInt y)) (Tree.wp (Tree.wid (Prod.fst y_1)) 0)) fun y => some (Tree.bool true, y) else none else none else none else none else none else none else Option.bind
 (wcell (Prod.snd y_1) (Tree.wid (Prod.fst y)) 1) fun y_7 => bif q8 y_7 then Option.bind (evW eQ n 81 [Tree.wp f 0, q4 (Tree.toInt y_7), Tree.wp (Tree.wid (Prod.fst y_1))
 0, Tree.wm (List.length (Prod.snd y_1))] (Prod.snd y_1 ++ [WObj.map []])) fun y_8 => bif Sh.ok Sh.bool (Prod.fst y_8) then bif Tree.toBool (Prod.fst y_8) then some
 (Tree.bool false, Prod.snd y_8) else Option.bind (wcell (Prod.snd y_8) f 1) fun y_9 => bif Sh.ok Sh.wm y_9 then Option.bind (wcell (Prod.snd y_8) (Tree.wid (Prod.fst y))
 1) fun y => bif q8 y then Option.bind (wput KeyC.int (Prod.snd y_8) (Tree.wid y_9) (q4 (Tree.toInt y)) (Tree.wp (Tree.wid (Prod.fst y_1)) 0)) fun y => some (Tree.bool
 true, y) else none else none else none else none else none else Option.bind (wcell (Prod.snd y_1) (Tree.wid (Prod.fst y)) 0) fun y_6 => bif Sh.ok Sh.str y_6 then
 Option.bind (wcell (Prod.snd y_1) (Tree.wid (Prod.fst y_1)) 0) fun y_7 => bif Sh.ok Sh.str y_7 then bif !Tree.toStr y_6 == Tree.toStr y_7 then some (Tree.bool false,
 Prod.snd y_1) else Option.bind (wcell (Prod.snd y_1) (Tree.wid (Prod.fst y)) 2) fun y_8 => bif Sh.ok Sh.slc y_8 then L68_0 n n f (Tree.wid (Prod.fst y)) (Tree.wid
 (Prod.fst y_1)) s (↑(List.length (Tree.elems y_8)) : Int) 0 (Prod.snd y_1) else none else none else none else none else none else Option.bind (wcell (Prod.snd y_1)
 (Tree.wid (Prod.fst y)) 0) fun y_4 => bif Sh.ok Sh.str y_4 then bif Tree.toStr y_4 == [] then Option.bind (wcell (Prod.snd y_1) (Tree.wid (Prod.fst y_1)) 0) fun y_5 =>
 bif Sh.ok Sh.str y_5 then bif Tree.toStr y_5 == [] then Option.bind (wcell (Prod.snd y_1) (Tree.wid (Prod.fst y)) 1) fun y_6 => bif q8 y_6 then Option.bind (wcell
 (Prod.snd y_1) (Tree.wid (Prod.fst y_1)) 1) fun y_7 => bif q8 y_7 then bif Tree.toInt y_6 == Tree.toInt y_7 then some (Tree.bool true, Prod.snd y_1) else Option.bind
 (wcell (Prod.snd y_1) (Tree.wid (Prod.fst y)) 1) fun y_8 => bif q8 y_8 then Option.bind (evW eQ n 81 [Tree.wp f 0, q4 (Tree.toInt y_8), Tree.wp (Tree.wid (Prod.fst y_1))
 0, Tree.wm (List.length (Prod.snd y_1))] (Prod.snd y_1 ++ [WObj.map []])) fun y_9 => bif Sh.ok Sh.bool (Prod.fst y_9) then bif Tree.toBool (Prod.fst y_9) then some
 (Tree.bool false, Prod.snd y_9) else Option.bind (wcell (Prod.snd y_9) f 1) fun y_10 => bif Sh.ok Sh.wm y_10 then Option.bind (wcell (Prod.snd y_9) (Tree.wid (Prod.fst
 y)) 1) fun y => bif q8 y then Option.bind (wput KeyC.int (Prod.snd y_9) (Tree.wid y_10) (q4 (Tree.toInt y)) (Tree.wp (Tree.wid (Prod.fst y_1)) 0)) fun y => some
 (Tree.bool true, y) else none else none else none else none else none else none else Option.bind (wcell (Prod.snd y_1) (Tree.wid (Prod.fst y)) 1) fun y_6 => bif q8 y_6
 then Option.bind (evW eQ n 81 [Tree.wp f 0, q4 (Tree.toInt y_6), Tree.wp (Tree.wid (Prod.fst y_1)) 0, Tree.wm (List.length (Prod.snd y_1))] (Prod.snd y_1 ++ [WObj.map
 []])) fun y_7 => bif Sh.ok Sh.bool (Prod.fst y_7) then bif Tree.toBool (Prod.fst y_7) then some (Tree.bool false, Prod.snd y_7) else Option.bind (wcell (Prod.snd y_7) f
 1) fun y_8 => bif Sh.ok Sh.wm y_8 then Option.bind (wcell (Prod.snd y_7) (Tree.wid (Prod.fst y)) 1) fun y => bif q8 y then Option.bind (wput KeyC.int (Prod.snd y_7)
 (Tree.wid y_8) (q4 (Tree.toInt y)) (Tree.wp (Tree.wid (Prod.fst y_1)) 0)) fun y => some (Tree.bool true, y) else none else none else none else none else none else
 Option.bind (wcell (Prod.snd y_1) (Tree.wid (Prod.fst y)) 0) fun y_5 => bif Sh.ok Sh.str y_5 then Option.bind (wcell (Prod.snd y_1) (Tree.wid (Prod.fst y_1)) 0) fun y_6
 => bif Sh.ok Sh.str y_6 then bif !Tree.toStr y_5 == Tree.toStr y_6 then some (Tree.bool false, Prod.snd y_1) else Option.bind (wcell (Prod.snd y_1) (Tree.wid (Prod.fst
 y)) 2) fun y_7 => bif Sh.ok Sh.slc y_7 then L68_0 n n f (Tree.wid (Prod.fst y)) (Tree.wid (Prod.fst y_1)) s (↑(List.length (Tree.elems y_7)) : Int) 0 (Prod.snd y_1) else
 none else none else none else none else none else none else none else none := by kernel_rfl

theorem v68_0 (n q s0 s1 s2 s3 : Nat) (s91 s92 : Int) (h0G : World') : L68_0 n (Nat.succ q) s0 s1 s2 s3 s91 s92 h0G = bif decide (s92 < s91) then Option.bind (wcell h0G s1
 2) fun y => bif Sh.ok Sh.slc y then bif decide (0 ≤ s92) then Option.bind (nth (Tree.elems y) (Int.toNat s92)) fun y => bif Sh.ok Sh.wp y then Option.bind (wcell h0G s2
 2) fun y_1 => bif Sh.ok Sh.slc y_1 then bif decide (0 ≤ s92) then Option.bind (nth (Tree.elems y_1) (Int.toNat s92)) fun y_2 => bif Sh.ok Sh.wp y_2 then Option.bind (evW
 eQ n 68 [Tree.wp s0 0, Tree.wp (Tree.wid y) 0, Tree.wp (Tree.wid y_2) 0, Tree.wm s3] h0G) fun y => bif Sh.ok Sh.bool (Prod.fst y) then bif !Tree.toBool (Prod.fst y) then
 some (Tree.bool false, Prod.snd y) else L68_0 n q s0 s1 s2 s3 s91 (IntKind.wrap IntKind.i64 (s92 + 1)) (Prod.snd y) else none else none else none else none else none else
 none else none else Option.bind (wput (KeyC.arr 2) h0G s3 (Tree.agg [Tree.wp s1 0, Tree.wp s2 0]) (Tree.bool true)) fun y => some (Tree.bool true, y) := by kernel_rfl

theorem w20 (n f t m l : Nat) (G : World') : evWQ eQ n 20 [Tree.wp f 0, Tree.wp t 0, Tree.wm m, Tree.wp l 0] G = Option.bind (evW eQ n 47 [Tree.wp f 0, Tree.wp t 0] G) fun
 y => bif Sh.ok Sh.wp (Prod.fst y) then Option.bind (wcell (Prod.snd y) l 0) fun y_1 => bif q8 y_1 then Option.bind (wset (Prod.snd y) l 0 [q4 (IntKind.wrap IntKind.i64
 (Tree.toInt y_1 - 1))]) fun y_2 => Option.bind (wcell y_2 l 0) fun y_3 => bif q8 y_3 then bif decide (Tree.toInt y_3 < 0) then some (Tree.tup [Tree.agg [Tree.str [],
 Tree.slc []], Tree.bool false], y_2) else Option.bind (wcell y_2 (Tree.wid (Prod.fst y)) 0) fun y_4 => bif Sh.ok Sh.str y_4 then bif Tree.toStr y_4 == [] then Option.bind
 (wcell y_2 (Tree.wid (Prod.fst y)) 1) fun y_5 => bif q8 y_5 then Option.bind (wlook KeyC.int y_2 m (q4 (Tree.toInt y_5)) (Tree.str [])) fun y_6 => bif Prod.fst y_6 then
 bif Sh.ok Sh.str (Prod.snd y_6) then Option.bind (wcell y_2 (Tree.wid (Prod.fst y)) 1) fun y => bif q8 y then Option.bind (wlook KeyC.int y_2 m (q4 (Tree.toInt y))
 (Tree.str [])) fun y => bif Sh.ok Sh.str (Prod.snd y) then some (Tree.tup [Tree.agg [Tree.str (Tree.toStr (Prod.snd y)), Tree.slc []], Tree.bool true], y_2) else none
 else none else none else Option.bind (wcell y_2 (Tree.wid (Prod.fst y)) 1) fun y_7 => bif q8 y_7 then Option.bind (wlenM y_2 m) fun y_8 => Option.bind (evP eQ n 48 [q4
 (↑y_8 : Int)]) fun y_9 => bif Sh.ok Sh.str y_9 then bif decide (1 + List.length (Tree.toStr y_9) ≤ 140737488355328) then Option.bind (wput KeyC.int y_2 m (q4 (Tree.toInt
 y_7)) (Tree.str ([63] ++ Tree.toStr y_9))) fun y_10 => Option.bind (wcell y_10 (Tree.wid (Prod.fst y)) 1) fun y => bif q8 y then Option.bind (wlook KeyC.int y_10 m (q4
 (Tree.toInt y)) (Tree.str [])) fun y => bif Sh.ok Sh.str (Prod.snd y) then some (Tree.tup [Tree.agg [Tree.str (Tree.toStr (Prod.snd y)), Tree.slc []], Tree.bool true],
 y_10) else none else none else none else none else none else none else Option.bind (wcell y_2 (Tree.wid (Prod.fst y)) 0) fun y_5 => bif Sh.ok Sh.str y_5 then Option.bind
 (wcell y_2 (Tree.wid (Prod.fst y)) 2) fun y => bif Sh.ok Sh.slc y then L20_0 n n f m l (Tree.elems y) (↑(List.length (Tree.elems y)) : Int) 0 y_2 [] (Tree.toStr y_5) else
 none else none else none else none else none else none := by kernel_rfl

theorem v20_0 (n q s0 s2 s3 : Nat) (s70 : List Tree) (s71 s72 : Int) (h0G : World') (h100 h200 : List UInt8) : L20_0 n (Nat.succ q) s0 s2 s3 s70 s71 s72 h0G h100 h200 =
 bif decide (s72 < s71) then bif decide (0 ≤ s72) then Option.bind (nth s70 (Int.toNat s72)) fun y => bif Sh.ok Sh.wp y then Option.bind (evW eQ n 20 [Tree.wp s0 0,
 Tree.wp (Tree.wid y) 0, Tree.wm s2, Tree.wp s3 0] h0G) fun y => bif Sh.ok (Sh.tup [q2, Sh.bool]) (Prod.fst y) then bif !Tree.toBool (q6 (List.tail (Tree.tupl (Prod.fst
 y)))) then some (Tree.tup [Tree.agg [Tree.str [], Tree.slc []], Tree.bool false], Prod.snd y) else L20_0b n q s0 s2 s3 s70 s71 (IntKind.wrap IntKind.i64 (s72 + 1))
 (Prod.snd y) h100 h200 [tQ' (q6 (Tree.tupl (Prod.fst y)))] else none else none else none else some (Tree.tup [Tree.agg [Tree.str h200, Tree.slc []], Tree.bool true], h0G)
 := by kernel_rfl

theorem v20_0b (n q s0 s2 s3 : Nat) (s70 : List Tree) (s71 s72 : Int) (h0G : World') (h100 h200 : List UInt8) (h3 : List Tree) : L20_0b n (Nat.succ q) s0 s2 s3 s70 s71 s72
 h0G h100 h200 h3 = bif decide (s72 < s71) then bif decide (0 ≤ s72) then Option.bind (nth s70 (Int.toNat s72)) fun y => bif Sh.ok Sh.wp y then Option.bind (evW eQ n 20
 [Tree.wp s0 0, Tree.wp (Tree.wid y) 0, Tree.wm s2, Tree.wp s3 0] h0G) fun y => bif Sh.ok (Sh.tup [q2, Sh.bool]) (Prod.fst y) then bif !Tree.toBool (q6 (List.tail
 (Tree.tupl (Prod.fst y)))) then some (Tree.tup [Tree.agg [Tree.str [], Tree.slc []], Tree.bool false], Prod.snd y) else bif true && Nat.ble ((List.length h3 + 1) * 40)
 140737488355328 then L20_0b n q s0 s2 s3 s70 s71 (IntKind.wrap IntKind.i64 (s72 + 1)) (Prod.snd y) h100 h200 (h3 ++ [tQ' (q6 (Tree.tupl (Prod.fst y)))]) else none else
 none else none else none else some (Tree.tup [Tree.agg [Tree.str h200, Tree.slc h3], Tree.bool true], h0G) := by kernel_rfl

theorem w19 (n f : Nat) (ctx : List Tree) (o u : Int) (tn : List UInt8) (tl l : List Tree) (G : World') : evWQ eQ n 19 [Tree.wp f 0, Tree.slc ctx, Tree.agg [q4 o, q4 u,
 Tree.str tn, Tree.slc tl, Tree.slc l]] G = bif o == 2 then Option.bind (runFn eQ n 43 [AV.t (Tree.slc ctx)] []) fun y => bif isClip (Prod.fst y) then Option.bind (evW eQ
 n 44 [Tree.wp f 0] G) fun y_1 => bif Sh.ok Sh.wp (Prod.fst y_1) then bif firstOk Sh.any (clipOf (Prod.fst y)) && (true && Nat.ble ((List.length (clipOf (Prod.fst y)) + 1)
 * 8) 140737488355328) then evLW eQ n 19 [1, 1, 1, 1, 0, 1, 0] [n] ⟨[AV.t (Tree.wp f 0), AV.t (Tree.slc ctx), AV.any, AV.any, AV.any, AV.href 1 0 0, AV.any, AV.any, AV.hsl
 2 none, AV.nilS, AV.any, AV.any, AV.any, AV.any, AV.any, AV.any, AV.any, AV.any, AV.any, AV.any, AV.any, AV.any, AV.any, AV.any, AV.any, AV.any, AV.any, AV.any, AV.t
 (Tree.slc l), AV.t (q4 (↑(List.length l) : Int)), AV.t (q4 0)] ++ anyL 129, [HObj.wld (Prod.snd y_1), HObj.tre q0 [Tree.agg [q4 o, q4 u, Tree.str tn, Tree.slc tl,
 Tree.slc l]], HObj.tre Sh.any (clipOf (Prod.fst y) ++ [Tree.wp (Tree.wid (Prod.fst y_1)) 0])]⟩ else none else none else none else evLW eQ n 19 [1, 1, 1, 1, 0, 1, 0] [n]
 ⟨[AV.t (Tree.wp f 0), AV.t (Tree.slc ctx), AV.any, AV.any, AV.any, AV.href 1 0 0, AV.any, AV.any, AV.t (Tree.slc ctx), AV.nilS, AV.any, AV.any, AV.any, AV.any, AV.any,
 AV.any, AV.any, AV.any, AV.any, AV.any, AV.any, AV.any, AV.any, AV.any, AV.any, AV.any, AV.any, AV.any, AV.t (Tree.slc l), AV.t (q4 (↑(List.length l) : Int)), AV.t (q4
 0)] ++ anyL 129, [HObj.wld G, HObj.tre q0 [Tree.agg [q4 o, q4 u, Tree.str tn, Tree.slc tl, Tree.slc l]]]⟩ := by kernel_rfl

theorem k19_0 (n q : Nat) (K : St → Option (Tree × World')) (s0 : Nat) (s1 s8 s28 : List Tree) (s29 s30 : Int) (h0G : World') (h100 h101 : Int) (h102 : List UInt8) (h103
 h104 : List Tree) : M19_0 n (Nat.succ q) K s0 s1 s8 s28 s29 s30 h0G h100 h101 h102 h103 h104 = bif decide (s30 < s29) then bif decide (0 ≤ s30) then Option.bind (nth s28
 (Int.toNat s30)) fun y => bif Sh.ok q0 y then Option.bind (evW eQ n 19 [Tree.wp s0 0, Tree.slc s8, lQ y] h0G) fun y => bif Sh.ok (Sh.tup [Sh.any, Sh.bool]) (Prod.fst y)
 then bif !Tree.toBool (q6 (List.tail (Tree.tupl (Prod.fst y)))) then some (Tree.tup [Tree.nilp, Tree.bool false], Prod.snd y) else bif Tree.isSc (q6 (Tree.tupl (Prod.fst
 y))) then M19_0b n q K s0 s1 s8 s28 s29 (IntKind.wrap IntKind.i64 (s30 + 1)) (Prod.snd y) h100 h101 h102 h103 h104 [q6 (Tree.tupl (Prod.fst y))] else none else none else
 none else none else K (S19 s0 s1 s8 s28 s29 s30 false h0G h100 h101 h102 h103 h104) := by kernel_rfl

theorem z19 (n s0 : Nat) (s1 s8 s28 : List Tree) (s29 s30 : Int) (s31 : Bool) (h0G : World') (h100 h101 : Int) (h102 : List UInt8) (h103 h104 : List Tree) : evZW eQ n 19 5
 (S19 s0 s1 s8 s28 s29 s30 s31 h0G h100 h101 h102 h103 h104) = bif h100 == 1 then bif decide (0 ≤ IntKind.wrap IntKind.i64 (IntKind.wrap IntKind.i64 ((↑(List.length s1) :
 Int) - 1) - h101)) then Option.bind (nth s1 (Int.toNat (IntKind.wrap IntKind.i64 (IntKind.wrap IntKind.i64 ((↑(List.length s1) : Int) - 1) - h101)))) fun y => bif Sh.ok
 Sh.wp y then some (Tree.tup [Tree.wp (Tree.wid y) 0, Tree.bool true], h0G ++ [WObj.cells [Tree.str [78, 97, 116], q4 0, Tree.slc []]]) else none else none else bif h100
 == 2 then bif decide (0 ≤ IntKind.wrap IntKind.i64 ((↑(List.length s8) : Int) - 1)) then Option.bind (nth s8 (Int.toNat (IntKind.wrap IntKind.i64 ((↑(List.length s8) :
 Int) - 1)))) fun y => bif Sh.ok Sh.wp y then none else none else none else bif h100 == 3 then Option.bind (evW eQ n 44 [Tree.wp s0 0] (h0G ++ [WObj.cells [Tree.str [78,
 97, 116], q4 0, Tree.slc []]])) fun y => bif Sh.ok Sh.wp (Prod.fst y) then none else none else bif h100 == 5 then none else bif h100 == 6 then none else bif h100 == 7
 then none else bif h100 == 8 then Option.bind (evW eQ n 44 [Tree.wp s0 0] (h0G ++ [WObj.cells [Tree.str [78, 97, 116], q4 0, Tree.slc []]])) fun y => bif Sh.ok Sh.wp
 (Prod.fst y) then Option.bind (evW eQ n 44 [Tree.wp s0 0] (Prod.snd y)) fun y_1 => bif Sh.ok Sh.wp (Prod.fst y_1) then bif decide (0 ≤ IntKind.wrap IntKind.i64 (h100 -
 8)) && (decide (IntKind.wrap IntKind.i64 (h100 - 8) < (↑2 : Int)) && true) then Option.bind (nth [Tree.wp (Tree.wid (Prod.fst y)) 0, Tree.wp (Tree.wid (Prod.fst y_1)) 0]
 (Int.toNat (IntKind.wrap IntKind.i64 (h100 - 8)))) fun y => bif Sh.ok Sh.wp y then none else none else none else none else none else bif h100 == 9 then Option.bind (evW
 eQ n 44 [Tree.wp s0 0] (h0G ++ [WObj.cells [Tree.str [78, 97, 116], q4 0, Tree.slc []]])) fun y => bif Sh.ok Sh.wp (Prod.fst y) then Option.bind (evW eQ n 44 [Tree.wp s0
 0] (Prod.snd y)) fun y_1 => bif Sh.ok Sh.wp (Prod.fst y_1) then bif decide (0 ≤ IntKind.wrap IntKind.i64 (h100 - 8)) && (decide (IntKind.wrap IntKind.i64 (h100 - 8) < (↑2
 : Int)) && true) then Option.bind (nth [Tree.wp (Tree.wid (Prod.fst y)) 0, Tree.wp (Tree.wid (Prod.fst y_1)) 0] (Int.toNat (IntKind.wrap IntKind.i64 (h100 - 8)))) fun y
 => bif Sh.ok Sh.wp y then none else none else none else none else none else some (Tree.tup [Tree.wp (List.length h0G) 0, Tree.bool true], h0G ++ [WObj.cells [Tree.str
 [78, 97, 116], q4 0, Tree.slc []]]) := by kernel_rfl

theorem k19_0b (n q : Nat) (K : St → Option (Tree × World')) (s0 : Nat) (s1 s8 s28 : List Tree) (s29 s30 : Int) (h0G : World') (h100 h101 : Int) (h102 : List UInt8) (h103
 h104 h2 : List Tree) : M19_0b n (Nat.succ q) K s0 s1 s8 s28 s29 s30 h0G h100 h101 h102 h103 h104 h2 = bif decide (s30 < s29) then bif decide (0 ≤ s30) then Option.bind
 (nth s28 (Int.toNat s30)) fun y => bif Sh.ok q0 y then Option.bind (evW eQ n 19 [Tree.wp s0 0, Tree.slc s8, lQ y] h0G) fun y => bif Sh.ok (Sh.tup [Sh.any, Sh.bool])
 (Prod.fst y) then bif !Tree.toBool (q6 (List.tail (Tree.tupl (Prod.fst y)))) then some (Tree.tup [Tree.nilp, Tree.bool false], Prod.snd y) else bif Tree.isSc (q6
 (Tree.tupl (Prod.fst y))) then bif true && Nat.ble ((List.length h2 + 1) * 8) 140737488355328 then M19_0b n q K s0 s1 s8 s28 s29 (IntKind.wrap IntKind.i64 (s30 + 1))
 (Prod.snd y) h100 h101 h102 h103 h104 (h2 ++ [q6 (Tree.tupl (Prod.fst y))]) else none else none else none else none else none else K (S19x1 s0 s1 s8 s28 s29 s30 false h0G
 h100 h101 h102 h103 h104 h2) := by kernel_rfl

theorem z19x1 (n s0 : Nat) (s1 s8 s28 : List Tree) (s29 s30 : Int) (s31 : Bool) (h0G : World') (h100 h101 : Int) (h102 : List UInt8) (h103 h104 h2 : List Tree) : evZW eQ n
 19 5 (S19x1 s0 s1 s8 s28 s29 s30 s31 h0G h100 h101 h102 h103 h104 h2) = bif h100 == 1 then bif decide (0 ≤ IntKind.wrap IntKind.i64 (IntKind.wrap IntKind.i64
 ((↑(List.length s1) : Int) - 1) - h101)) then Option.bind (nth s1 (Int.toNat (IntKind.wrap IntKind.i64 (IntKind.wrap IntKind.i64 ((↑(List.length s1) : Int) - 1) -
 h101)))) fun y => bif Sh.ok Sh.wp y then some (Tree.tup [Tree.wp (Tree.wid y) 0, Tree.bool true], h0G ++ [WObj.cells [Tree.str [78, 97, 116], q4 0, Tree.slc []]]) else
 none else none else bif h100 == 2 then bif decide (0 ≤ IntKind.wrap IntKind.i64 ((↑(List.length s8) : Int) - 1)) then Option.bind (nth s8 (Int.toNat (IntKind.wrap
 IntKind.i64 ((↑(List.length s8) : Int) - 1)))) fun y => bif Sh.ok Sh.wp y then bif true && (decide (0 < (↑(List.length h2) : Int)) && true) then Option.bind (nth h2 0)
 fun y_1 => bif Sh.ok Sh.wp y_1 then Option.bind (evW eQ n 45 [Tree.str [84, 111], Tree.wp (Tree.wid y) 0, Tree.wp (Tree.wid y_1) 0] (h0G ++ [WObj.cells [Tree.str [78, 97,
 116], q4 0, Tree.slc []]])) fun y => bif Sh.ok Sh.wp (Prod.fst y) then some (Tree.tup [Tree.wp (Tree.wid (Prod.fst y)) 0, Tree.bool true], Prod.snd y) else none else none
 else none else none else none else bif h100 == 3 then Option.bind (evW eQ n 44 [Tree.wp s0 0] (h0G ++ [WObj.cells [Tree.str [78, 97, 116], q4 0, Tree.slc []]])) fun y =>
 bif Sh.ok Sh.wp (Prod.fst y) then bif true && (decide (0 < (↑(List.length h2) : Int)) && true) then Option.bind (nth h2 0) fun y_1 => bif Sh.ok Sh.wp y_1 then bif true &&
 (decide (1 < (↑(List.length h2) : Int)) && true) then Option.bind (nth h2 1) fun y_2 => bif Sh.ok Sh.wp y_2 then Option.bind (evW eQ n 45 [Tree.str [84, 111], Tree.wp
 (Tree.wid y_2) 0, Tree.wp (Tree.wid (Prod.fst y)) 0] (Prod.snd y)) fun y_3 => bif Sh.ok Sh.wp (Prod.fst y_3) then Option.bind (evW eQ n 46 [Tree.wp s0 0, Tree.wp
 (Tree.wid y_1) 0, Tree.wp (Tree.wid (Prod.fst y_3)) 0] (Prod.snd y_3)) fun y_4 => bif Sh.ok Sh.bool (Prod.fst y_4) then some (Tree.tup [Tree.wp (Tree.wid (Prod.fst y)) 0,
 Tree.bool (Tree.toBool (Prod.fst y_4))], Prod.snd y_4) else none else none else none else none else none else none else none else bif h100 == 5 then bif true && (decide
 (0 < (↑(List.length h2) : Int)) && true) then Option.bind (nth h2 0) fun y => bif Sh.ok Sh.wp y then Option.bind (evW eQ n 46 [Tree.wp s0 0, Tree.wp (Tree.wid y) 0,
 Tree.wp (List.length h0G) 0] (h0G ++ [WObj.cells [Tree.str [78, 97, 116], q4 0, Tree.slc []]])) fun y => bif Sh.ok Sh.bool (Prod.fst y) then some (Tree.tup [Tree.wp
 (List.length h0G) 0, Tree.bool (Tree.toBool (Prod.fst y))], Prod.snd y) else none else none else none else bif h100 == 6 then bif true && (decide (2 < (↑(List.length h2)
 : Int)) && true) then Option.bind (nth h2 2) fun y => bif Sh.ok Sh.wp y then bif true && (decide (0 < (↑(List.length h2) : Int)) && true) then Option.bind (nth h2 0) fun
 y_1 => bif Sh.ok Sh.wp y_1 then Option.bind (evW eQ n 46 [Tree.wp s0 0, Tree.wp (Tree.wid y_1) 0, Tree.wp (List.length h0G) 0] (h0G ++ [WObj.cells [Tree.str [78, 97,
 116], q4 0, Tree.slc []]])) fun y_2 => bif Sh.ok Sh.bool (Prod.fst y_2) then bif Tree.toBool (Prod.fst y_2) then bif true && (decide (1 < (↑(List.length h2) : Int)) &&
 true) then Option.bind (nth h2 1) fun y_3 => bif Sh.ok Sh.wp y_3 then bif true && (decide (2 < (↑(List.length h2) : Int)) && true) then Option.bind (nth h2 2) fun y_4 =>
 bif Sh.ok Sh.wp y_4 then bif true && (decide (2 < (↑(List.length h2) : Int)) && true) then Option.bind (nth h2 2) fun y_5 => bif Sh.ok Sh.wp y_5 then Option.bind (evW eQ
 n 45 [Tree.str [84, 111], Tree.wp (Tree.wid y_4) 0, Tree.wp (Tree.wid y_5) 0] (Prod.snd y_2)) fun y_6 => bif Sh.ok Sh.wp (Prod.fst y_6) then Option.bind (evW eQ n 46
 [Tree.wp s0 0, Tree.wp (Tree.wid y_3) 0, Tree.wp (Tree.wid (Prod.fst y_6)) 0] (Prod.snd y_6)) fun y_7 => bif Sh.ok Sh.bool (Prod.fst y_7) then some (Tree.tup [Tree.wp
 (Tree.wid y) 0, Tree.bool (Tree.toBool (Prod.fst y_7))], Prod.snd y_7) else none else none else none else none else none else none else none else none else some (Tree.tup
 [Tree.wp (Tree.wid y) 0, Tree.bool false], Prod.snd y_2) else none else none else none else none else none else bif h100 == 7 then bif true && (decide (0 < (↑(List.length
 h2) : Int)) && true) then Option.bind (nth h2 0) fun y => bif Sh.ok Sh.wp y then bif true && (decide (1 < (↑(List.length h2) : Int)) && true) then Option.bind (nth h2 1)
 fun y_1 => bif Sh.ok Sh.wp y_1 then Option.bind (evW eQ n 45 [Tree.str [80, 97, 105, 114], Tree.wp (Tree.wid y) 0, Tree.wp (Tree.wid y_1) 0] (h0G ++ [WObj.cells [Tree.str
 [78, 97, 116], q4 0, Tree.slc []]])) fun y => bif Sh.ok Sh.wp (Prod.fst y) then some (Tree.tup [Tree.wp (Tree.wid (Prod.fst y)) 0, Tree.bool true], Prod.snd y) else none
 else none else none else none else none else bif h100 == 8 then Option.bind (evW eQ n 44 [Tree.wp s0 0] (h0G ++ [WObj.cells [Tree.str [78, 97, 116], q4 0, Tree.slc []]]))
 fun y => bif Sh.ok Sh.wp (Prod.fst y) then Option.bind (evW eQ n 44 [Tree.wp s0 0] (Prod.snd y)) fun y_1 => bif Sh.ok Sh.wp (Prod.fst y_1) then bif decide (0 ≤
 IntKind.wrap IntKind.i64 (h100 - 8)) && (decide (IntKind.wrap IntKind.i64 (h100 - 8) < (↑2 : Int)) && true) then Option.bind (nth [Tree.wp (Tree.wid (Prod.fst y)) 0,
 Tree.wp (Tree.wid (Prod.fst y_1)) 0] (Int.toNat (IntKind.wrap IntKind.i64 (h100 - 8)))) fun y_2 => bif Sh.ok Sh.wp y_2 then bif true && (decide (0 < (↑(List.length h2) :
 Int)) && true) then Option.bind (nth h2 0) fun y_3 => bif Sh.ok Sh.wp y_3 then Option.bind (evW eQ n 45 [Tree.str [80, 97, 105, 114], Tree.wp (Tree.wid (Prod.fst y)) 0,
 Tree.wp (Tree.wid (Prod.fst y_1)) 0] (Prod.snd y_1)) fun y => bif Sh.ok Sh.wp (Prod.fst y) then Option.bind (evW eQ n 46 [Tree.wp s0 0, Tree.wp (Tree.wid y_3) 0, Tree.wp
 (Tree.wid (Prod.fst y)) 0] (Prod.snd y)) fun y => bif Sh.ok Sh.bool (Prod.fst y) then some (Tree.tup [Tree.wp (Tree.wid y_2) 0, Tree.bool (Tree.toBool (Prod.fst y))],
 Prod.snd y) else none else none else none else none else none else none else none else none else bif h100 == 9 then Option.bind (evW eQ n 44 [Tree.wp s0 0] (h0G ++
 [WObj.cells [Tree.str [78, 97, 116], q4 0, Tree.slc []]])) fun y => bif Sh.ok Sh.wp (Prod.fst y) then Option.bind (evW eQ n 44 [Tree.wp s0 0] (Prod.snd y)) fun y_1 => bif
 Sh.ok Sh.wp (Prod.fst y_1) then bif decide (0 ≤ IntKind.wrap IntKind.i64 (h100 - 8)) && (decide (IntKind.wrap IntKind.i64 (h100 - 8) < (↑2 : Int)) && true) then
 Option.bind (nth [Tree.wp (Tree.wid (Prod.fst y)) 0, Tree.wp (Tree.wid (Prod.fst y_1)) 0] (Int.toNat (IntKind.wrap IntKind.i64 (h100 - 8)))) fun y_2 => bif Sh.ok Sh.wp
 y_2 then bif true && (decide (0 < (↑(List.length h2) : Int)) && true) then Option.bind (nth h2 0) fun y_3 => bif Sh.ok Sh.wp y_3 then Option.bind (evW eQ n 45 [Tree.str
 [80, 97, 105, 114], Tree.wp (Tree.wid (Prod.fst y)) 0, Tree.wp (Tree.wid (Prod.fst y_1)) 0] (Prod.snd y_1)) fun y => bif Sh.ok Sh.wp (Prod.fst y) then Option.bind (evW eQ
 n 46 [Tree.wp s0 0, Tree.wp (Tree.wid y_3) 0, Tree.wp (Tree.wid (Prod.fst y)) 0] (Prod.snd y)) fun y => bif Sh.ok Sh.bool (Prod.fst y) then some (Tree.tup [Tree.wp
 (Tree.wid y_2) 0, Tree.bool (Tree.toBool (Prod.fst y))], Prod.snd y) else none else none else none else none else none else none else none else none else some (Tree.tup
 [Tree.wp (List.length h0G) 0, Tree.bool true], h0G ++ [WObj.cells [Tree.str [78, 97, 116], q4 0, Tree.slc []]]) := by kernel_rfl

theorem k19_0c (n q : Nat) (K : St → Option (Tree × World')) (s0 : Nat) (s1 s28 : List Tree) (s29 s30 : Int) (h0G : World') (h100 h101 : Int) (h102 : List UInt8) (h103
 h104 h2 : List Tree) : M19_0c n (Nat.succ q) K s0 s1 s28 s29 s30 h0G h100 h101 h102 h103 h104 h2 = bif decide (s30 < s29) then bif decide (0 ≤ s30) then Option.bind (nth
 s28 (Int.toNat s30)) fun y => bif Sh.ok q0 y then Option.bind (evW eQ n 19 [Tree.wp s0 0, Tree.slc h2, lQ y] h0G) fun y => bif Sh.ok (Sh.tup [Sh.any, Sh.bool]) (Prod.fst
 y) then bif !Tree.toBool (q6 (List.tail (Tree.tupl (Prod.fst y)))) then some (Tree.tup [Tree.nilp, Tree.bool false], Prod.snd y) else bif Tree.isSc (q6 (Tree.tupl
 (Prod.fst y))) then M19_0x3 n q K s0 s1 s28 s29 (IntKind.wrap IntKind.i64 (s30 + 1)) (Prod.snd y) h100 h101 h102 h103 h104 h2 [q6 (Tree.tupl (Prod.fst y))] else none else
 none else none else none else K (S19x2 s0 s1 s28 s29 s30 false h0G h100 h101 h102 h103 h104 h2) := by kernel_rfl

theorem k19_0x3 (n q : Nat) (K : St → Option (Tree × World')) (s0 : Nat) (s1 s28 : List Tree) (s29 s30 : Int) (h0G : World') (h100 h101 : Int) (h102 : List UInt8) (h103
 h104 h2 h3 : List Tree) : M19_0x3 n (Nat.succ q) K s0 s1 s28 s29 s30 h0G h100 h101 h102 h103 h104 h2 h3 = bif decide (s30 < s29) then bif decide (0 ≤ s30) then
 Option.bind (nth s28 (Int.toNat s30)) fun y => bif Sh.ok q0 y then Option.bind (evW eQ n 19 [Tree.wp s0 0, Tree.slc h2, lQ y] h0G) fun y => bif Sh.ok (Sh.tup [Sh.any,
 Sh.bool]) (Prod.fst y) then bif !Tree.toBool (q6 (List.tail (Tree.tupl (Prod.fst y)))) then some (Tree.tup [Tree.nilp, Tree.bool false], Prod.snd y) else bif Tree.isSc
 (q6 (Tree.tupl (Prod.fst y))) then bif true && Nat.ble ((List.length h3 + 1) * 8) 140737488355328 then M19_0x3 n q K s0 s1 s28 s29 (IntKind.wrap IntKind.i64 (s30 + 1))
 (Prod.snd y) h100 h101 h102 h103 h104 h2 (h3 ++ [q6 (Tree.tupl (Prod.fst y))]) else none else none else none else none else none else K (S19x3 s0 s1 s28 s29 s30 false h0G
 h100 h101 h102 h103 h104 h2 h3) := by kernel_rfl

theorem w6 (n : Nat) (o u : Int) (tn : List UInt8) (tl l : List Tree) (G : World') : evWQ eQ n 6 [Tree.agg [q4 o, q4 u, Tree.str tn, Tree.slc tl, Tree.slc l]] G =
 Option.bind (evP eQ n 15 [Tree.agg [q4 o, q4 u, Tree.str tn, Tree.slc tl, Tree.slc l]]) fun y => bif Sh.ok Sh.bool y then bif !Tree.toBool y then some (Tree.tup [Tree.agg
 [Tree.str [], Tree.slc []], q4 4], G) else Option.bind (evP eQ n 17 [Tree.agg [q4 o, q4 u, Tree.str tn, Tree.slc tl, Tree.slc l]]) fun y => bif Sh.ok q0 y then
 Option.bind (evP eQ n 16 [lQ y]) fun y => bif Sh.ok Sh.bool y then bif !Tree.toBool y then some (Tree.tup [Tree.agg [Tree.str [], Tree.slc []], q4 4], G) else Option.bind
 (evP eQ n 18 [Tree.agg [q4 o, q4 u, Tree.str tn, Tree.slc tl, Tree.slc l], q4 0]) fun y => bif Sh.ok Sh.bool y then bif !Tree.toBool y then some (Tree.tup [Tree.agg
 [Tree.str [], Tree.slc []], q4 4], G) else Option.bind (evW eQ n 19 [Tree.wp (List.length (G ++ [WObj.map []])) 0, Tree.slc [], Tree.agg [q4 o, q4 u, Tree.str tn,
 Tree.slc tl, Tree.slc l]] (G ++ [WObj.map []] ++ [WObj.cells [q4 0, Tree.wm (List.length G)]])) fun y => bif Sh.ok (Sh.tup [Sh.any, Sh.bool]) (Prod.fst y) then bif
 !Tree.toBool (q6 (List.tail (Tree.tupl (Prod.fst y)))) then some (Tree.tup [Tree.agg [Tree.str [], Tree.slc []], q4 250], Prod.snd y) else Option.bind (wset (Prod.snd y
 ++ [WObj.cells [q4 0]]) (List.length (Prod.snd y)) 0 [q4 200]) fun y_1 => Option.bind (evW eQ n 20 [Tree.wp (List.length (G ++ [WObj.map []])) 0, q6 (Tree.tupl (Prod.fst
 y)), Tree.wm (List.length y_1), Tree.wp (List.length (Prod.snd y)) 0] (y_1 ++ [WObj.map []])) fun y => bif Sh.ok (Sh.tup [q2, Sh.bool]) (Prod.fst y) then bif !Tree.toBool
 (q6 (List.tail (Tree.tupl (Prod.fst y)))) then some (Tree.tup [Tree.agg [Tree.str [], Tree.slc []], q4 2], Prod.snd y) else some (Tree.tup [tQ' (q6 (Tree.tupl (Prod.fst
 y))), q4 0], Prod.snd y) else none else none else none else none else none else none := by kernel_rfl


end Go.Proofs.Cw.Si
end

/-
  EQUATIONS of the reckoned code: printed by program.
-/
section
set_option maxRecDepth 100000
namespace Go.Proofs.Cw.Si
open Go.Proofs

def L8_0 (n q : Nat) (s5 : Int) (h000 : List UInt8) (h001 : List Tree) (h100 : List UInt8) (h101 : List Tree) : Option Tree := evL eQ n 8 [1, 1, 0, 1, 0] [q] ⟨[AV.any,
 AV.any, AV.href 0 0 0, AV.href 1 0 0, AV.any, AV.t (q4 s5)] ++ anyL 33, [HObj.tre q2 [Tree.agg [Tree.str h000, Tree.slc h001]], HObj.tre q2 [Tree.agg [Tree.str h100,
 Tree.slc h101]]]⟩

def L13_0 (n q : Nat) (s0 : List Tree) (s1 s5 s6 : Int) : Option Tree := evL eQ n 13 [1, 1, 0, 1, 0] [q] ⟨[AV.t (Tree.slc s0), AV.t (q4 s1), AV.any, AV.any, AV.any, AV.t
 (q4 s5), AV.t (q4 s6)] ++ anyL 43, []⟩

def L14_0 (n q : Nat) (s4 s5 s6 h000 h001 : Int) (h002 : List UInt8) (h003 h004 : List Tree) : Option Tree := evL eQ n 14 [1, 1, 0, 1, 0] [q] ⟨[AV.any, AV.href 0 0 0,
 AV.any, AV.any, AV.t (q4 s4), AV.t (q4 s5), AV.t (q4 s6)] ++ anyL 27, [HObj.tre q0 [Tree.agg [q4 h000, q4 h001, Tree.str h002, Tree.slc h003, Tree.slc h004]]]⟩

def L17_0 (n q : Nat) (s15 s16 h000 h001 : Int) (h002 : List UInt8) (h003 h1 : List Tree) (h200 h201 : Int) (h202 : List UInt8) : Option Tree := evL eQ n 17 [1, 1, 1, 0,
 1, 0] [q] ⟨[AV.any, AV.href 0 0 0, AV.href 2 0 0, AV.any, AV.any, AV.any, AV.any, AV.any, AV.any, AV.any, AV.any, AV.any, AV.any, AV.any, AV.any, AV.t (q4 s15), AV.t (q4
 s16)] ++ anyL 14, [HObj.mix q0 [AV.agg [AV.t (q4 h000), AV.t (q4 h001), AV.t (Tree.str h002), AV.t (Tree.slc h003), AV.hsl 1 none]], HObj.tre q0 h1, HObj.mix q0 [AV.agg
 [AV.t (q4 h200), AV.t (q4 h201), AV.t (Tree.str h202), AV.nilS, AV.nilS]]]⟩

def L21_0 (n q : Nat) (s3 h000 h001 : Int) (h002 : List UInt8) (h003 h004 : List Tree) : Option Tree := evL eQ n 21 [1, 1, 0, 1, 0] [q] ⟨[AV.any, AV.href 0 0 0, AV.any,
 AV.t (q4 s3)] ++ anyL 19, [HObj.tre q0 [Tree.agg [q4 h000, q4 h001, Tree.str h002, Tree.slc h003, Tree.slc h004]]]⟩

def L23_0 (n q : Nat) (s4 h000 h001 : Int) (h002 : List UInt8) (h003 h004 : List Tree) (h100 h101 : Int) (h102 : List UInt8) (h200 h201 : Int) (h202 : List UInt8) : Option
 Tree := evL eQ n 23 [1, 1, 1, 0, 1, 0] [q] ⟨[AV.any, AV.href 0 0 0, AV.href 1 0 0, AV.href 2 0 0, AV.t (q4 s4)] ++ anyL 29, [HObj.tre q0 [Tree.agg [q4 h000, q4 h001,
 Tree.str h002, Tree.slc h003, Tree.slc h004]], HObj.mix q0 [AV.agg [AV.t (q4 h100), AV.t (q4 h101), AV.t (Tree.str h102), AV.nilS, AV.nilS]], HObj.mix q0 [AV.agg [AV.t
 (q4 h200), AV.t (q4 h201), AV.t (Tree.str h202), AV.nilS, AV.nilS]]]⟩

def L23_0b (n q : Nat) (s4 h000 h001 : Int) (h002 : List UInt8) (h003 h004 : List Tree) (h100 h101 : Int) (h102 : List UInt8) (h200 h201 : Int) (h202 : List UInt8) (h3 :
 List Tree) : Option Tree := evL eQ n 23 [1, 1, 1, 0, 1, 0] [q] ⟨[AV.any, AV.href 0 0 0, AV.href 1 0 0, AV.href 2 0 0, AV.t (q4 s4)] ++ anyL 29, [HObj.tre q0 [Tree.agg [q4
 h000, q4 h001, Tree.str h002, Tree.slc h003, Tree.slc h004]], HObj.mix q0 [AV.agg [AV.t (q4 h100), AV.t (q4 h101), AV.t (Tree.str h102), AV.nilS, AV.nilS]], HObj.mix q0
 [AV.agg [AV.t (q4 h200), AV.t (q4 h201), AV.t (Tree.str h202), AV.nilS, AV.hsl 3 none]], HObj.tre q0 h3]⟩

def L23_0c (n q : Nat) (s4 h000 h001 : Int) (h002 : List UInt8) (h003 h004 : List Tree) (h100 h101 : Int) (h102 : List UInt8) (h200 h201 : Int) (h202 : List UInt8) (h203 :
 List Tree) : Option Tree := evL eQ n 23 [1, 1, 1, 0, 1, 0] [q] ⟨[AV.any, AV.href 0 0 0, AV.href 1 0 0, AV.href 2 0 0, AV.t (q4 s4)] ++ anyL 29, [HObj.tre q0 [Tree.agg [q4
 h000, q4 h001, Tree.str h002, Tree.slc h003, Tree.slc h004]], HObj.mix q0 [AV.agg [AV.t (q4 h100), AV.t (q4 h101), AV.t (Tree.str h102), AV.nilS, AV.nilS]], HObj.mix q0
 [AV.agg [AV.t (q4 h200), AV.t (q4 h201), AV.t (Tree.str h202), AV.t (Tree.slc h203), AV.nilS]]]⟩

def L23_0x3 (n q : Nat) (s4 h000 h001 : Int) (h002 : List UInt8) (h003 h004 : List Tree) (h100 h101 : Int) (h102 : List UInt8) (h200 h201 : Int) (h202 : List UInt8) (h203
 h3 : List Tree) : Option Tree := evL eQ n 23 [1, 1, 1, 0, 1, 0] [q] ⟨[AV.any, AV.href 0 0 0, AV.href 1 0 0, AV.href 2 0 0, AV.t (q4 s4)] ++ anyL 29, [HObj.tre q0
 [Tree.agg [q4 h000, q4 h001, Tree.str h002, Tree.slc h003, Tree.slc h004]], HObj.mix q0 [AV.agg [AV.t (q4 h100), AV.t (q4 h101), AV.t (Tree.str h102), AV.nilS, AV.nilS]],
 HObj.mix q0 [AV.agg [AV.t (q4 h200), AV.t (q4 h201), AV.t (Tree.str h202), AV.t (Tree.slc h203), AV.hsl 3 none]], HObj.tre q0 h3]⟩

def L24_0 (n q : Nat) (s1 s5 h000 h001 : Int) (h002 : List UInt8) (h003 h004 : List Tree) : Option Tree := evL eQ n 24 [1, 1, 0, 1, 0] [q] ⟨[AV.any, AV.t (q4 s1), AV.href
 0 0 0, AV.any, AV.any, AV.t (q4 s5)] ++ anyL 27, [HObj.tre q0 [Tree.agg [q4 h000, q4 h001, Tree.str h002, Tree.slc h003, Tree.slc h004]]]⟩

def L35_0 (n q : Nat) (s0 : List Tree) (s1 s5 s6 : Int) : Option Tree := evL eQ n 35 [1, 1, 0, 1, 0] [q] ⟨[AV.t (Tree.slc s0), AV.t (q4 s1), AV.any, AV.any, AV.any, AV.t
 (q4 s5), AV.t (q4 s6)] ++ anyL 33, []⟩

def L39_0 (n q : Nat) (s2 s3 : Int) (s9 : List Tree) (s10 s11 : Int) : Option Tree := evL eQ n 39 [1, 0, 1, 0] [q] ⟨[AV.any, AV.any, AV.t (q4 s2), AV.t (q4 s3), AV.any,
 AV.any, AV.any, AV.any, AV.any, AV.t (Tree.slc s9), AV.t (q4 s10), AV.t (q4 s11)] ++ anyL 19, []⟩

def L49_0 (n q : Nat) (s4 h000 h001 : Int) (h002 : List UInt8) (h003 h004 : List Tree) : Option Tree := evL eQ n 49 [1, 1, 1, 1, 1, 1, 0, 1, 0] [q] ⟨[AV.any, AV.href 0 0
 0, AV.any, AV.any, AV.t (q4 s4)] ++ anyL 69, [HObj.tre q0 [Tree.agg [q4 h000, q4 h001, Tree.str h002, Tree.slc h003, Tree.slc h004]]]⟩

def L65_0 (n q : Nat) (s0 : List Tree) (s1g : Nat) (s1p s1c : List Tree) (s7 s8 : Int) : Option Tree := evL eQ n 65 [1, 0, 1, 0] [q] ⟨[AV.t (Tree.slc s0), AV.t (Tree.fn
 s1g s1p s1c), AV.any, AV.any, AV.any, AV.any, AV.any, AV.t (q4 s7), AV.t (q4 s8)] ++ anyL 10, []⟩

def L76_0 (n q : Nat) (s2 s3 : Int) (s9 : List Tree) (s10 s11 : Int) : Option Tree := evL eQ n 76 [1, 0, 1, 0] [q] ⟨[AV.any, AV.any, AV.t (q4 s2), AV.t (q4 s3), AV.any,
 AV.any, AV.any, AV.any, AV.any, AV.t (Tree.slc s9), AV.t (q4 s10), AV.t (q4 s11)] ++ anyL 19, []⟩

def L83_0 (n q : Nat) (s4 s5 s6 : Int) (h000 : List UInt8) (h001 : List Tree) : Option Tree := evL eQ n 83 [1, 1, 0, 1, 0] [q] ⟨[AV.any, AV.href 0 0 0, AV.any, AV.any,
 AV.t (q4 s4), AV.t (q4 s5), AV.t (q4 s6)] ++ anyL 27, [HObj.tre q2 [Tree.agg [Tree.str h000, Tree.slc h001]]]⟩

def L5_0 (n q : Nat) (s0 : List Tree) (s3 : Int) : Option Tree := evL eQ n 5 [1, 0, 1, 0] [q] ⟨[AV.t (Tree.slc s0), AV.any, AV.any, AV.t (q4 s3)] ++ anyL 25, []⟩

theorem e8 (n : Nat) (a00 : List UInt8) (a01 : List Tree) (a10 : List UInt8) (a11 : List Tree) : evQ eQ n 8 [Tree.agg [Tree.str a00, Tree.slc a01], Tree.agg [Tree.str a10,
 Tree.slc a11]] = bif !a00 == a10 then some (Tree.bool false) else bif (↑(List.length a01) : Int) != (↑(List.length a11) : Int) then some (Tree.bool false) else L8_0 n n 0
 a00 a01 a10 a11 := by kernel_rfl

theorem l8_0 (n q : Nat) (s5 : Int) (h000 : List UInt8) (h001 : List Tree) (h100 : List UInt8) (h101 : List Tree) : L8_0 n (Nat.succ q) s5 h000 h001 h100 h101 = bif decide
 (s5 < (↑(List.length h001) : Int)) then bif decide (0 ≤ s5) then Option.bind (nth h001 (Int.toNat s5)) fun y => bif Sh.ok q2 y then bif decide (0 ≤ s5) then Option.bind
 (nth h101 (Int.toNat s5)) fun y_1 => bif Sh.ok q2 y_1 then Option.bind (evP eQ n 8 [Tree.agg [Tree.str (Tree.toStr (List.headD (Tree.cs y) (Tree.bool false))), Tree.slc
 (Tree.elems (List.headD (List.tail (Tree.cs y)) (Tree.bool false)))], Tree.agg [Tree.str (Tree.toStr (List.headD (Tree.cs y_1) (Tree.bool false))), Tree.slc (Tree.elems
 (List.headD (List.tail (Tree.cs y_1)) (Tree.bool false)))]]) fun y => bif Sh.ok Sh.bool y then bif !Tree.toBool y then some (Tree.bool false) else L8_0 n q (IntKind.wrap
 IntKind.i64 (s5 + 1)) h000 h001 h100 h101 else none else none else none else none else none else some (Tree.bool true) := by kernel_rfl

theorem e13 (n : Nat) (a0 : List Tree) (a1 : Int) : evQ eQ n 13 [Tree.slc a0, q4 a1] = L13_0 n n a0 a1 0 0 := by kernel_rfl

theorem l13_0 (n q : Nat) (s0 : List Tree) (s1 s5 s6 : Int) : L13_0 n (Nat.succ q) s0 s1 s5 s6 = bif decide (s6 < (↑(List.length s0) : Int)) then bif decide (s5 ≤ s1) then
 bif decide (0 ≤ s6) then Option.bind (nth s0 (Int.toNat s6)) fun y => bif Sh.ok q0 y then Option.bind (evP eQ n 35 [Tree.slc [Tree.agg [Tree.str (Tree.toStr (List.headD
 (List.tail (List.tail (Tree.cs y))) (Tree.bool false))), Tree.slc (Tree.elems (List.headD (List.tail (List.tail (List.tail (Tree.cs y)))) (Tree.bool false)))]], q4 80])
 fun y => bif Sh.ok (Sh.int IntKind.i64) y then bif decide (0 ≤ s6) then Option.bind (nth s0 (Int.toNat s6)) fun y_1 => bif Sh.ok q0 y_1 then Option.bind (evP eQ n 35
 [Tree.slc [Tree.agg [Tree.str (Tree.toStr (List.headD (List.tail (List.tail (Tree.cs y_1))) (Tree.bool false))), Tree.slc (Tree.elems (List.headD (List.tail (List.tail
 (List.tail (Tree.cs y_1)))) (Tree.bool false)))]], q4 80]) fun y_2 => bif Sh.ok (Sh.int IntKind.i64) y_2 then bif decide (Tree.toInt y_2 > 80) then some (q4 (IntKind.wrap
 IntKind.i64 (s1 + 1))) else bif decide (0 ≤ s6) then Option.bind (nth s0 (Int.toNat s6)) fun y_3 => bif Sh.ok q0 y_3 then Option.bind (evP eQ n 13 [Tree.slc (Tree.elems
 (List.headD (List.tail (List.tail (List.tail (List.tail (Tree.cs y_3))))) (Tree.bool false))), q4 (IntKind.wrap IntKind.i64 (s1 - IntKind.wrap IntKind.i64 (IntKind.wrap
 IntKind.i64 (s5 + 1) + Tree.toInt y)))]) fun y_4 => bif Sh.ok (Sh.int IntKind.i64) y_4 then L13_0 n q s0 s1 (IntKind.wrap IntKind.i64 (IntKind.wrap IntKind.i64
 (IntKind.wrap IntKind.i64 (s5 + 1) + Tree.toInt y) + Tree.toInt y_4)) (IntKind.wrap IntKind.i64 (s6 + 1)) else none else none else none else none else none else none else
 none else none else none else some (q4 s5) else some (q4 s5) := by kernel_rfl

theorem e14 (n : Nat) (a00 a01 : Int) (a02 : List UInt8) (a03 a04 : List Tree) : evQ eQ n 14 [Tree.agg [q4 a00, q4 a01, Tree.str a02, Tree.slc a03, Tree.slc a04]] = L14_0
 n n 1 0 0 a00 a01 a02 a03 a04 := by kernel_rfl

theorem l14_0 (n q : Nat) (s4 s5 s6 h000 h001 : Int) (h002 : List UInt8) (h003 h004 : List Tree) : L14_0 n (Nat.succ q) s4 s5 s6 h000 h001 h002 h003 h004 = bif decide (s6
 < (↑(List.length h004) : Int)) then bif decide (0 ≤ s6) then Option.bind (nth h004 (Int.toNat s6)) fun y => bif Sh.ok q0 y then Option.bind (evP eQ n 14 [Tree.agg [q4
 (Tree.toInt (List.headD (Tree.cs y) (Tree.bool false))), q4 (Tree.toInt (List.headD (List.tail (Tree.cs y)) (Tree.bool false))), Tree.str (Tree.toStr (List.headD
 (List.tail (List.tail (Tree.cs y))) (Tree.bool false))), Tree.slc (Tree.elems (List.headD (List.tail (List.tail (List.tail (Tree.cs y)))) (Tree.bool false))), Tree.slc
 (Tree.elems (List.headD (List.tail (List.tail (List.tail (List.tail (Tree.cs y))))) (Tree.bool false)))]]) fun y => bif Sh.ok (Sh.tup [Sh.int IntKind.i64, Sh.int
 IntKind.i64]) y then L14_0 n q (IntKind.wrap IntKind.i64 (s4 + Tree.toInt (List.headD (Tree.tupl y) (Tree.bool false)))) (imax s5 (Tree.toInt (List.headD (List.tail
 (Tree.tupl y)) (Tree.bool false)))) (IntKind.wrap IntKind.i64 (s6 + 1)) h000 h001 h002 h003 h004 else none else none else none else some (Tree.tup [q4 s4, q4
 (IntKind.wrap IntKind.i64 (s5 + 1))]) := by kernel_rfl

theorem e15 (n : Nat) (a00 a01 : Int) (a02 : List UInt8) (a03 a04 : List Tree) : evQ eQ n 15 [Tree.agg [q4 a00, q4 a01, Tree.str a02, Tree.slc a03, Tree.slc a04]] =
 Option.bind (evP eQ n 36 [Tree.agg [Tree.str a02, Tree.slc a03]]) fun y => bif Sh.ok Sh.bool y then bif Tree.toBool y then Option.bind (evP eQ n 37 [Tree.slc a04, Tree.fn
 38 [] []]) fun y => bif Sh.ok Sh.bool y then some (Tree.bool !Tree.toBool y) else none else some (Tree.bool false) else none := by kernel_rfl

theorem e16 (n : Nat) (a00 a01 : Int) (a02 : List UInt8) (a03 a04 : List Tree) : evQ eQ n 16 [Tree.agg [q4 a00, q4 a01, Tree.str a02, Tree.slc a03, Tree.slc a04]] =
 Option.bind (evP eQ n 39 [Tree.agg [q4 a00, q4 a01, Tree.str a02, Tree.slc a03, Tree.slc a04]]) fun y => bif Sh.ok (Sh.tup [Sh.int IntKind.i64, Sh.int IntKind.i64]) y
 then bif decide (Tree.toInt (List.headD (Tree.tupl y) (Tree.bool false)) ≤ 300) then bif decide (Tree.toInt (List.headD (List.tail (Tree.tupl y)) (Tree.bool false)) ≤ 60)
 then Option.bind (evP eQ n 40 [Tree.agg [q4 a00, q4 a01, Tree.str a02, Tree.slc a03, Tree.slc a04]]) fun y => bif Sh.ok Sh.bool y then some (Tree.bool (Tree.toBool y))
 else none else some (Tree.bool false) else some (Tree.bool false) else none := by kernel_rfl

theorem e17 (n : Nat) (a00 a01 : Int) (a02 : List UInt8) (a03 a04 : List Tree) : evQ eQ n 17 [Tree.agg [q4 a00, q4 a01, Tree.str a02, Tree.slc a03, Tree.slc a04]] = bif
 a00 == 2 then Option.bind (evP eQ n 41 []) fun y => bif Sh.ok q2 y then bif firstOk q0 a04 then bif Nat.ble (List.length a04 * 80) 140737488355328 then L17_0 n n
 (↑(List.length a04) : Int) 0 a00 a01 (Tree.toStr (List.headD (Tree.cs y) (Tree.bool false))) (Tree.elems (List.headD (List.tail (Tree.cs y)) (Tree.bool false))) a04 0 0
 [] else none else none else none else bif firstOk q0 a04 then bif Nat.ble (List.length a04 * 80) 140737488355328 then L17_0 n n (↑(List.length a04) : Int) 0 a00 a01 a02
 a03 a04 0 0 [] else none else none := by kernel_rfl

theorem l17_0 (n q : Nat) (s15 s16 h000 h001 : Int) (h002 : List UInt8) (h003 h1 : List Tree) (h200 h201 : Int) (h202 : List UInt8) : L17_0 n (Nat.succ q) s15 s16 h000
 h001 h002 h003 h1 h200 h201 h202 = bif decide (s16 < s15) then bif decide (0 ≤ s16) && (decide (s16 < (↑(List.length h1) : Int)) && true) then Option.bind (nth h1
 (Int.toNat s16)) fun y => bif Sh.ok q0 y then Option.bind (evP eQ n 17 [Tree.agg [q4 (Tree.toInt (List.headD (Tree.cs y) (Tree.bool false))), q4 (Tree.toInt (List.headD
 (List.tail (Tree.cs y)) (Tree.bool false))), Tree.str (Tree.toStr (List.headD (List.tail (List.tail (Tree.cs y))) (Tree.bool false))), Tree.slc (Tree.elems (List.headD
 (List.tail (List.tail (List.tail (Tree.cs y)))) (Tree.bool false))), Tree.slc (Tree.elems (List.headD (List.tail (List.tail (List.tail (List.tail (Tree.cs y)))))
 (Tree.bool false)))]]) fun y => bif Sh.ok q0 y then bif decide (0 ≤ s16) && (decide (s16 < (↑(List.length h1) : Int)) && true) then Option.bind (nth h1 (Int.toNat s16))
 fun y_1 => bif Sh.ok q0 y_1 then L17_0 n q s15 (IntKind.wrap IntKind.i64 (s16 + 1)) h000 h001 h002 h003 (setN h1 (Int.toNat s16) (Tree.agg [q4 (Tree.toInt (List.headD
 (Tree.cs y) (Tree.bool false))), q4 (Tree.toInt (List.headD (List.tail (Tree.cs y)) (Tree.bool false))), Tree.str (Tree.toStr (List.headD (List.tail (List.tail (Tree.cs
 y))) (Tree.bool false))), Tree.slc (Tree.elems (List.headD (List.tail (List.tail (List.tail (Tree.cs y)))) (Tree.bool false))), Tree.slc (Tree.elems (List.headD
 (List.tail (List.tail (List.tail (List.tail (Tree.cs y))))) (Tree.bool false)))])) h200 h201 h202 else none else none else none else none else none else some (Tree.agg
 [q4 h000, q4 h001, Tree.str h002, Tree.slc h003, Tree.slc h1]) := by kernel_rfl

theorem e18 (n : Nat) (a00 a01 : Int) (a02 : List UInt8) (a03 a04 : List Tree) (a1 : Int) : evQ eQ n 18 [Tree.agg [q4 a00, q4 a01, Tree.str a02, Tree.slc a03, Tree.slc
 a04], q4 a1] = bif a00 == 1 then some (Tree.bool (decide (a01 < a1))) else bif a00 == 2 then Option.bind (evP eQ n 37 [Tree.slc a04, Tree.fn 42 [] [Tree.ptr (q4
 (IntKind.wrap IntKind.i64 (a1 + 1))) 0]]) fun y => bif Sh.ok Sh.bool y then some (Tree.bool !Tree.toBool y) else none else Option.bind (evP eQ n 37 [Tree.slc a04, Tree.fn
 42 [] [Tree.ptr (q4 a1) 0]]) fun y => bif Sh.ok Sh.bool y then some (Tree.bool !Tree.toBool y) else none := by kernel_rfl

theorem e21 (n : Nat) (a00 a01 : Int) (a02 : List UInt8) (a03 a04 : List Tree) : evQ eQ n 21 [Tree.agg [q4 a00, q4 a01, Tree.str a02, Tree.slc a03, Tree.slc a04]] =
 Option.bind (evP eQ n 8 [Tree.agg [Tree.str a02, Tree.slc a03], Tree.agg [Tree.str [], Tree.slc []]]) fun y => bif Sh.ok Sh.bool y then bif !Tree.toBool y then some
 (Tree.bool false) else L21_0 n n 0 a00 a01 a02 a03 a04 else none := by kernel_rfl

theorem l21_0 (n q : Nat) (s3 h000 h001 : Int) (h002 : List UInt8) (h003 h004 : List Tree) : L21_0 n (Nat.succ q) s3 h000 h001 h002 h003 h004 = bif decide (s3 <
 (↑(List.length h004) : Int)) then bif decide (0 ≤ s3) then Option.bind (nth h004 (Int.toNat s3)) fun y => bif Sh.ok q0 y then Option.bind (evP eQ n 21 [Tree.agg [q4
 (Tree.toInt (List.headD (Tree.cs y) (Tree.bool false))), q4 (Tree.toInt (List.headD (List.tail (Tree.cs y)) (Tree.bool false))), Tree.str (Tree.toStr (List.headD
 (List.tail (List.tail (Tree.cs y))) (Tree.bool false))), Tree.slc (Tree.elems (List.headD (List.tail (List.tail (List.tail (Tree.cs y)))) (Tree.bool false))), Tree.slc
 (Tree.elems (List.headD (List.tail (List.tail (List.tail (List.tail (Tree.cs y))))) (Tree.bool false)))]]) fun y => bif Sh.ok Sh.bool y then bif !Tree.toBool y then some
 (Tree.bool false) else L21_0 n q (IntKind.wrap IntKind.i64 (s3 + 1)) h000 h001 h002 h003 h004 else none else none else none else some (Tree.bool true) := by kernel_rfl

theorem e22 (n : Nat) (a00 a01 : Int) (a02 : List UInt8) (a03 a04 : List Tree) : evQ eQ n 22 [Tree.agg [q4 a00, q4 a01, Tree.str a02, Tree.slc a03, Tree.slc a04]] =
 Option.bind (evP eQ n 14 [Tree.agg [q4 a00, q4 a01, Tree.str a02, Tree.slc a03, Tree.slc a04]]) fun y => bif Sh.ok (Sh.tup [Sh.int IntKind.i64, Sh.int IntKind.i64]) y
 then bif decide (Tree.toInt (List.headD (Tree.tupl y) (Tree.bool false)) ≤ 300) then bif decide (Tree.toInt (List.headD (List.tail (Tree.tupl y)) (Tree.bool false)) ≤ 60)
 then Option.bind (evP eQ n 49 [Tree.agg [q4 a00, q4 a01, Tree.str a02, Tree.slc a03, Tree.slc a04]]) fun y => bif Sh.ok Sh.bool y then some (Tree.bool (Tree.toBool y))
 else none else some (Tree.bool false) else some (Tree.bool false) else none := by kernel_rfl

theorem e23 (n : Nat) (a00 a01 : Int) (a02 : List UInt8) (a03 a04 : List Tree) : evQ eQ n 23 [Tree.agg [q4 a00, q4 a01, Tree.str a02, Tree.slc a03, Tree.slc a04]] = bif
 a00 == 2 then Option.bind (evP eQ n 50 []) fun y => bif Sh.ok q2 y then L23_0c n n 0 a00 a01 a02 a03 a04 0 0 [] a00 a01 (Tree.toStr (List.headD (Tree.cs y) (Tree.bool
 false))) (Tree.elems (List.headD (List.tail (Tree.cs y)) (Tree.bool false))) else none else L23_0 n n 0 a00 a01 a02 a03 a04 0 0 [] a00 a01 [] := by kernel_rfl

theorem l23_0 (n q : Nat) (s4 h000 h001 : Int) (h002 : List UInt8) (h003 h004 : List Tree) (h100 h101 : Int) (h102 : List UInt8) (h200 h201 : Int) (h202 : List UInt8) :
 L23_0 n (Nat.succ q) s4 h000 h001 h002 h003 h004 h100 h101 h102 h200 h201 h202 = bif decide (s4 < (↑(List.length h004) : Int)) then bif decide (0 ≤ s4) then Option.bind
 (nth h004 (Int.toNat s4)) fun y => bif Sh.ok q0 y then Option.bind (evP eQ n 23 [Tree.agg [q4 (Tree.toInt (List.headD (Tree.cs y) (Tree.bool false))), q4 (Tree.toInt
 (List.headD (List.tail (Tree.cs y)) (Tree.bool false))), Tree.str (Tree.toStr (List.headD (List.tail (List.tail (Tree.cs y))) (Tree.bool false))), Tree.slc (Tree.elems
 (List.headD (List.tail (List.tail (List.tail (Tree.cs y)))) (Tree.bool false))), Tree.slc (Tree.elems (List.headD (List.tail (List.tail (List.tail (List.tail (Tree.cs
 y))))) (Tree.bool false)))]]) fun y => bif Sh.ok q0 y then L23_0b n q (IntKind.wrap IntKind.i64 (s4 + 1)) h000 h001 h002 h003 h004 h100 h101 h102 h200 h201 h202 [Tree.agg
 [q4 (Tree.toInt (List.headD (Tree.cs y) (Tree.bool false))), q4 (Tree.toInt (List.headD (List.tail (Tree.cs y)) (Tree.bool false))), Tree.str (Tree.toStr (List.headD
 (List.tail (List.tail (Tree.cs y))) (Tree.bool false))), Tree.slc (Tree.elems (List.headD (List.tail (List.tail (List.tail (Tree.cs y)))) (Tree.bool false))), Tree.slc
 (Tree.elems (List.headD (List.tail (List.tail (List.tail (List.tail (Tree.cs y))))) (Tree.bool false)))]] else none else none else none else some (Tree.agg [q4 h200, q4
 h201, Tree.str h202, Tree.slc [], Tree.slc []]) := by kernel_rfl

theorem l23_0b (n q : Nat) (s4 h000 h001 : Int) (h002 : List UInt8) (h003 h004 : List Tree) (h100 h101 : Int) (h102 : List UInt8) (h200 h201 : Int) (h202 : List UInt8) (h3
 : List Tree) : L23_0b n (Nat.succ q) s4 h000 h001 h002 h003 h004 h100 h101 h102 h200 h201 h202 h3 = bif decide (s4 < (↑(List.length h004) : Int)) then bif decide (0 ≤ s4)
 then Option.bind (nth h004 (Int.toNat s4)) fun y => bif Sh.ok q0 y then Option.bind (evP eQ n 23 [Tree.agg [q4 (Tree.toInt (List.headD (Tree.cs y) (Tree.bool false))), q4
 (Tree.toInt (List.headD (List.tail (Tree.cs y)) (Tree.bool false))), Tree.str (Tree.toStr (List.headD (List.tail (List.tail (Tree.cs y))) (Tree.bool false))), Tree.slc
 (Tree.elems (List.headD (List.tail (List.tail (List.tail (Tree.cs y)))) (Tree.bool false))), Tree.slc (Tree.elems (List.headD (List.tail (List.tail (List.tail (List.tail
 (Tree.cs y))))) (Tree.bool false)))]]) fun y => bif Sh.ok q0 y then bif true && Nat.ble ((List.length h3 + 1) * 80) 140737488355328 then L23_0b n q (IntKind.wrap
 IntKind.i64 (s4 + 1)) h000 h001 h002 h003 h004 h100 h101 h102 h200 h201 h202 (h3 ++ [Tree.agg [q4 (Tree.toInt (List.headD (Tree.cs y) (Tree.bool false))), q4 (Tree.toInt
 (List.headD (List.tail (Tree.cs y)) (Tree.bool false))), Tree.str (Tree.toStr (List.headD (List.tail (List.tail (Tree.cs y))) (Tree.bool false))), Tree.slc (Tree.elems
 (List.headD (List.tail (List.tail (List.tail (Tree.cs y)))) (Tree.bool false))), Tree.slc (Tree.elems (List.headD (List.tail (List.tail (List.tail (List.tail (Tree.cs
 y))))) (Tree.bool false)))]]) else none else none else none else none else some (Tree.agg [q4 h200, q4 h201, Tree.str h202, Tree.slc [], Tree.slc h3]) := by kernel_rfl

theorem l23_0c (n q : Nat) (s4 h000 h001 : Int) (h002 : List UInt8) (h003 h004 : List Tree) (h100 h101 : Int) (h102 : List UInt8) (h200 h201 : Int) (h202 : List UInt8)
 (h203 : List Tree) : L23_0c n (Nat.succ q) s4 h000 h001 h002 h003 h004 h100 h101 h102 h200 h201 h202 h203 = bif decide (s4 < (↑(List.length h004) : Int)) then bif decide
 (0 ≤ s4) then Option.bind (nth h004 (Int.toNat s4)) fun y => bif Sh.ok q0 y then Option.bind (evP eQ n 23 [Tree.agg [q4 (Tree.toInt (List.headD (Tree.cs y) (Tree.bool
 false))), q4 (Tree.toInt (List.headD (List.tail (Tree.cs y)) (Tree.bool false))), Tree.str (Tree.toStr (List.headD (List.tail (List.tail (Tree.cs y))) (Tree.bool
 false))), Tree.slc (Tree.elems (List.headD (List.tail (List.tail (List.tail (Tree.cs y)))) (Tree.bool false))), Tree.slc (Tree.elems (List.headD (List.tail (List.tail
 (List.tail (List.tail (Tree.cs y))))) (Tree.bool false)))]]) fun y => bif Sh.ok q0 y then L23_0x3 n q (IntKind.wrap IntKind.i64 (s4 + 1)) h000 h001 h002 h003 h004 h100
 h101 h102 h200 h201 h202 h203 [Tree.agg [q4 (Tree.toInt (List.headD (Tree.cs y) (Tree.bool false))), q4 (Tree.toInt (List.headD (List.tail (Tree.cs y)) (Tree.bool
 false))), Tree.str (Tree.toStr (List.headD (List.tail (List.tail (Tree.cs y))) (Tree.bool false))), Tree.slc (Tree.elems (List.headD (List.tail (List.tail (List.tail
 (Tree.cs y)))) (Tree.bool false))), Tree.slc (Tree.elems (List.headD (List.tail (List.tail (List.tail (List.tail (Tree.cs y))))) (Tree.bool false)))]] else none else none
 else none else some (Tree.agg [q4 h200, q4 h201, Tree.str h202, Tree.slc h203, Tree.slc []]) := by kernel_rfl

theorem l23_0x3 (n q : Nat) (s4 h000 h001 : Int) (h002 : List UInt8) (h003 h004 : List Tree) (h100 h101 : Int) (h102 : List UInt8) (h200 h201 : Int) (h202 : List UInt8)
 (h203 h3 : List Tree) : L23_0x3 n (Nat.succ q) s4 h000 h001 h002 h003 h004 h100 h101 h102 h200 h201 h202 h203 h3 = bif decide (s4 < (↑(List.length h004) : Int)) then bif
 decide (0 ≤ s4) then Option.bind (nth h004 (Int.toNat s4)) fun y => bif Sh.ok q0 y then Option.bind (evP eQ n 23 [Tree.agg [q4 (Tree.toInt (List.headD (Tree.cs y)
 (Tree.bool false))), q4 (Tree.toInt (List.headD (List.tail (Tree.cs y)) (Tree.bool false))), Tree.str (Tree.toStr (List.headD (List.tail (List.tail (Tree.cs y)))
 (Tree.bool false))), Tree.slc (Tree.elems (List.headD (List.tail (List.tail (List.tail (Tree.cs y)))) (Tree.bool false))), Tree.slc (Tree.elems (List.headD (List.tail
 (List.tail (List.tail (List.tail (Tree.cs y))))) (Tree.bool false)))]]) fun y => bif Sh.ok q0 y then bif true && Nat.ble ((List.length h3 + 1) * 80) 140737488355328 then
 L23_0x3 n q (IntKind.wrap IntKind.i64 (s4 + 1)) h000 h001 h002 h003 h004 h100 h101 h102 h200 h201 h202 h203 (h3 ++ [Tree.agg [q4 (Tree.toInt (List.headD (Tree.cs y)
 (Tree.bool false))), q4 (Tree.toInt (List.headD (List.tail (Tree.cs y)) (Tree.bool false))), Tree.str (Tree.toStr (List.headD (List.tail (List.tail (Tree.cs y)))
 (Tree.bool false))), Tree.slc (Tree.elems (List.headD (List.tail (List.tail (List.tail (Tree.cs y)))) (Tree.bool false))), Tree.slc (Tree.elems (List.headD (List.tail
 (List.tail (List.tail (List.tail (Tree.cs y))))) (Tree.bool false)))]]) else none else none else none else none else some (Tree.agg [q4 h200, q4 h201, Tree.str h202,
 Tree.slc h203, Tree.slc h3]) := by kernel_rfl

theorem e24 (n : Nat) (a00 a01 : Int) (a02 : List UInt8) (a03 a04 : List Tree) (a1 : Int) : evQ eQ n 24 [Tree.agg [q4 a00, q4 a01, Tree.str a02, Tree.slc a03, Tree.slc
 a04], q4 a1] = bif a00 == 1 then bif decide (a01 ≥ a1) then some (Tree.bool false) else L24_0 n n a1 0 a00 a01 a02 a03 a04 else L24_0 n n a1 0 a00 a01 a02 a03 a04 := by
 kernel_rfl

theorem l24_0 (n q : Nat) (s1 s5 h000 h001 : Int) (h002 : List UInt8) (h003 h004 : List Tree) : L24_0 n (Nat.succ q) s1 s5 h000 h001 h002 h003 h004 = bif decide (s5 <
 (↑(List.length h004) : Int)) then bif decide (0 ≤ s5) then Option.bind (nth h004 (Int.toNat s5)) fun y => bif Sh.ok q0 y then Option.bind (evP eQ n 51 [Tree.agg [q4 h000,
 q4 h001, Tree.str h002, Tree.slc h003, Tree.slc h004]]) fun y_1 => bif Sh.ok (Sh.int IntKind.i64) y_1 then Option.bind (evP eQ n 24 [Tree.agg [q4 (Tree.toInt (List.headD
 (Tree.cs y) (Tree.bool false))), q4 (Tree.toInt (List.headD (List.tail (Tree.cs y)) (Tree.bool false))), Tree.str (Tree.toStr (List.headD (List.tail (List.tail (Tree.cs
 y))) (Tree.bool false))), Tree.slc (Tree.elems (List.headD (List.tail (List.tail (List.tail (Tree.cs y)))) (Tree.bool false))), Tree.slc (Tree.elems (List.headD
 (List.tail (List.tail (List.tail (List.tail (Tree.cs y))))) (Tree.bool false)))], q4 (IntKind.wrap IntKind.i64 (s1 + Tree.toInt y_1))]) fun y => bif Sh.ok Sh.bool y then
 bif !Tree.toBool y then some (Tree.bool false) else L24_0 n q s1 (IntKind.wrap IntKind.i64 (s5 + 1)) h000 h001 h002 h003 h004 else none else none else none else none else
 some (Tree.bool true) := by kernel_rfl

theorem e35 (n : Nat) (a0 : List Tree) (a1 : Int) : evQ eQ n 35 [Tree.slc a0, q4 a1] = L35_0 n n a0 a1 0 0 := by kernel_rfl

theorem l35_0 (n q : Nat) (s0 : List Tree) (s1 s5 s6 : Int) : L35_0 n (Nat.succ q) s0 s1 s5 s6 = bif decide (s6 < (↑(List.length s0) : Int)) then bif decide (s5 ≤ s1) then
 bif decide (0 ≤ s6) then Option.bind (nth s0 (Int.toNat s6)) fun y => bif Sh.ok q2 y then bif decide ((↑(List.length (Tree.toStr (List.headD (Tree.cs y) (Tree.bool
 false)))) : Int) > 100) then some (q4 (IntKind.wrap IntKind.i64 (s1 + 1))) else bif decide (0 ≤ s6) then Option.bind (nth s0 (Int.toNat s6)) fun y => bif Sh.ok q2 y then
 Option.bind (evP eQ n 35 [Tree.slc (Tree.elems (List.headD (List.tail (Tree.cs y)) (Tree.bool false))), q4 (IntKind.wrap IntKind.i64 (s1 - s5))]) fun y => bif Sh.ok
 (Sh.int IntKind.i64) y then L35_0 n q s0 s1 (IntKind.wrap IntKind.i64 (IntKind.wrap IntKind.i64 (s5 + 1) + Tree.toInt y)) (IntKind.wrap IntKind.i64 (s6 + 1)) else none
 else none else none else none else none else some (q4 s5) else some (q4 s5) := by kernel_rfl

theorem e36 (n : Nat) (a00 : List UInt8) (a01 : List Tree) : evQ eQ n 36 [Tree.agg [Tree.str a00, Tree.slc a01]] = bif a00 == [] then some (Tree.bool ((↑(List.length a01)
 : Int) == 0)) else some (Tree.bool false) := by kernel_rfl

theorem e37 (n : Nat) (a0 : List Tree) (a1g : Nat) (a1p a1c : List Tree) : evQ eQ n 37 [Tree.slc a0, Tree.fn a1g a1p a1c] = Option.bind (evP eQ n 65 [Tree.slc a0, Tree.fn
 a1g a1p a1c]) fun y => bif Sh.ok (Sh.int IntKind.i64) y then some (Tree.bool (decide (Tree.toInt y ≥ 0))) else none := by kernel_rfl

theorem e38 (n : Nat) (a00 a01 : Int) (a02 : List UInt8) (a03 a04 : List Tree) : evQ eQ n 38 [Tree.agg [q4 a00, q4 a01, Tree.str a02, Tree.slc a03, Tree.slc a04]] =
 Option.bind (evP eQ n 15 [Tree.agg [q4 a00, q4 a01, Tree.str a02, Tree.slc a03, Tree.slc a04]]) fun y => bif Sh.ok Sh.bool y then some (Tree.bool !Tree.toBool y) else
 none := by kernel_rfl

theorem e39 (n : Nat) (a00 a01 : Int) (a02 : List UInt8) (a03 a04 : List Tree) : evQ eQ n 39 [Tree.agg [q4 a00, q4 a01, Tree.str a02, Tree.slc a03, Tree.slc a04]] = L39_0
 n n 0 0 a04 (↑(List.length a04) : Int) 0 := by kernel_rfl

theorem l39_0 (n q : Nat) (s2 s3 : Int) (s9 : List Tree) (s10 s11 : Int) : L39_0 n (Nat.succ q) s2 s3 s9 s10 s11 = bif decide (s11 < s10) then bif decide (0 ≤ s11) then
 Option.bind (nth s9 (Int.toNat s11)) fun y => bif Sh.ok q0 y then Option.bind (evP eQ n 39 [Tree.agg [q4 (Tree.toInt (List.headD (Tree.cs y) (Tree.bool false))), q4
 (Tree.toInt (List.headD (List.tail (Tree.cs y)) (Tree.bool false))), Tree.str (Tree.toStr (List.headD (List.tail (List.tail (Tree.cs y))) (Tree.bool false))), Tree.slc
 (Tree.elems (List.headD (List.tail (List.tail (List.tail (Tree.cs y)))) (Tree.bool false))), Tree.slc (Tree.elems (List.headD (List.tail (List.tail (List.tail (List.tail
 (Tree.cs y))))) (Tree.bool false)))]]) fun y => bif Sh.ok (Sh.tup [Sh.int IntKind.i64, Sh.int IntKind.i64]) y then L39_0 n q (IntKind.wrap IntKind.i64 (s2 + Tree.toInt
 (List.headD (Tree.tupl y) (Tree.bool false)))) (imax s3 (Tree.toInt (List.headD (List.tail (Tree.tupl y)) (Tree.bool false)))) s9 s10 (IntKind.wrap IntKind.i64 (s11 + 1))
 else none else none else none else some (Tree.tup [q4 (IntKind.wrap IntKind.i64 (s2 + 1)), q4 (IntKind.wrap IntKind.i64 (s3 + 1))]) := by kernel_rfl

theorem e40 (n : Nat) (a00 a01 : Int) (a02 : List UInt8) (a03 a04 : List Tree) : evQ eQ n 40 [Tree.agg [q4 a00, q4 a01, Tree.str a02, Tree.slc a03, Tree.slc a04]] = bif
 a00 == 1 then Option.bind (evP eQ n 66 [q4 a00]) fun y => bif Sh.ok (Sh.int IntKind.i64) y then bif (↑(List.length a04) : Int) != Tree.toInt y then some (Tree.bool false)
 else bif decide (a01 < 0) then some (Tree.bool false) else bif decide (a01 > 200) then some (Tree.bool false) else bif a00 == 2 then Option.bind (evP eQ n 58 [Tree.agg
 [Tree.str a02, Tree.slc a03]]) fun y => bif Sh.ok Sh.bool y then bif !Tree.toBool y then some (Tree.bool false) else bif a00 != 2 then Option.bind (evP eQ n 36 [Tree.agg
 [Tree.str a02, Tree.slc a03]]) fun y => bif Sh.ok Sh.bool y then bif !Tree.toBool y then some (Tree.bool false) else Option.bind (evP eQ n 37 [Tree.slc a04, Tree.fn 67 []
 []]) fun y => bif Sh.ok Sh.bool y then some (Tree.bool !Tree.toBool y) else none else none else Option.bind (evP eQ n 37 [Tree.slc a04, Tree.fn 67 [] []]) fun y => bif
 Sh.ok Sh.bool y then some (Tree.bool !Tree.toBool y) else none else none else bif a00 != 2 then Option.bind (evP eQ n 36 [Tree.agg [Tree.str a02, Tree.slc a03]]) fun y =>
 bif Sh.ok Sh.bool y then bif !Tree.toBool y then some (Tree.bool false) else Option.bind (evP eQ n 37 [Tree.slc a04, Tree.fn 67 [] []]) fun y => bif Sh.ok Sh.bool y then
 some (Tree.bool !Tree.toBool y) else none else none else Option.bind (evP eQ n 37 [Tree.slc a04, Tree.fn 67 [] []]) fun y => bif Sh.ok Sh.bool y then some (Tree.bool
 !Tree.toBool y) else none else none else bif a00 == 4 then Option.bind (evP eQ n 66 [q4 a00]) fun y => bif Sh.ok (Sh.int IntKind.i64) y then bif (↑(List.length a04) :
 Int) != Tree.toInt y then some (Tree.bool false) else bif decide (a01 < 0) then some (Tree.bool false) else bif decide (a01 > 1000) then some (Tree.bool false) else bif
 a00 == 2 then Option.bind (evP eQ n 58 [Tree.agg [Tree.str a02, Tree.slc a03]]) fun y => bif Sh.ok Sh.bool y then bif !Tree.toBool y then some (Tree.bool false) else bif
 a00 != 2 then Option.bind (evP eQ n 36 [Tree.agg [Tree.str a02, Tree.slc a03]]) fun y => bif Sh.ok Sh.bool y then bif !Tree.toBool y then some (Tree.bool false) else
 Option.bind (evP eQ n 37 [Tree.slc a04, Tree.fn 67 [] []]) fun y => bif Sh.ok Sh.bool y then some (Tree.bool !Tree.toBool y) else none else none else Option.bind (evP eQ
 n 37 [Tree.slc a04, Tree.fn 67 [] []]) fun y => bif Sh.ok Sh.bool y then some (Tree.bool !Tree.toBool y) else none else none else bif a00 != 2 then Option.bind (evP eQ n
 36 [Tree.agg [Tree.str a02, Tree.slc a03]]) fun y => bif Sh.ok Sh.bool y then bif !Tree.toBool y then some (Tree.bool false) else Option.bind (evP eQ n 37 [Tree.slc a04,
 Tree.fn 67 [] []]) fun y => bif Sh.ok Sh.bool y then some (Tree.bool !Tree.toBool y) else none else none else Option.bind (evP eQ n 37 [Tree.slc a04, Tree.fn 67 [] []])
 fun y => bif Sh.ok Sh.bool y then some (Tree.bool !Tree.toBool y) else none else none else Option.bind (evP eQ n 66 [q4 a00]) fun y => bif Sh.ok (Sh.int IntKind.i64) y
 then bif (↑(List.length a04) : Int) != Tree.toInt y then some (Tree.bool false) else bif decide (a01 < 0) then some (Tree.bool false) else bif decide (a01 > 0) then some
 (Tree.bool false) else bif a00 == 2 then Option.bind (evP eQ n 58 [Tree.agg [Tree.str a02, Tree.slc a03]]) fun y => bif Sh.ok Sh.bool y then bif !Tree.toBool y then some
 (Tree.bool false) else bif a00 != 2 then Option.bind (evP eQ n 36 [Tree.agg [Tree.str a02, Tree.slc a03]]) fun y => bif Sh.ok Sh.bool y then bif !Tree.toBool y then some
 (Tree.bool false) else Option.bind (evP eQ n 37 [Tree.slc a04, Tree.fn 67 [] []]) fun y => bif Sh.ok Sh.bool y then some (Tree.bool !Tree.toBool y) else none else none
 else Option.bind (evP eQ n 37 [Tree.slc a04, Tree.fn 67 [] []]) fun y => bif Sh.ok Sh.bool y then some (Tree.bool !Tree.toBool y) else none else none else bif a00 != 2
 then Option.bind (evP eQ n 36 [Tree.agg [Tree.str a02, Tree.slc a03]]) fun y => bif Sh.ok Sh.bool y then bif !Tree.toBool y then some (Tree.bool false) else Option.bind
 (evP eQ n 37 [Tree.slc a04, Tree.fn 67 [] []]) fun y => bif Sh.ok Sh.bool y then some (Tree.bool !Tree.toBool y) else none else none else Option.bind (evP eQ n 37
 [Tree.slc a04, Tree.fn 67 [] []]) fun y => bif Sh.ok Sh.bool y then some (Tree.bool !Tree.toBool y) else none else none := by kernel_rfl

theorem e42 (n : Nat) (o k : Int) (tn : List UInt8) (tl l : List Tree) (d : Int) : evQ eQ n 42 [Tree.agg [q4 o, q4 k, Tree.str tn, Tree.slc tl, Tree.slc l], Tree.ptr (q4
 d) 0] = Option.bind (evP eQ n 18 [Tree.agg [q4 o, q4 k, Tree.str tn, Tree.slc tl, Tree.slc l], q4 d]) fun y => bif Sh.ok Sh.bool y then some (Tree.bool !Tree.toBool y)
 else none := by kernel_rfl

theorem e49 (n : Nat) (a00 a01 : Int) (a02 : List UInt8) (a03 a04 : List Tree) : evQ eQ n 49 [Tree.agg [q4 a00, q4 a01, Tree.str a02, Tree.slc a03, Tree.slc a04]] =
 Option.bind (evP eQ n 70 [q4 a00]) fun y => bif Sh.ok (Sh.int IntKind.i64) y then bif Tree.toInt y != (↑(List.length a04) : Int) then some (Tree.bool false) else
 Option.bind (evP eQ n 70 [q4 a00]) fun y => bif Sh.ok (Sh.int IntKind.i64) y then bif decide (Tree.toInt y < 0) then some (Tree.bool false) else bif a00 == 2 then
 Option.bind (evP eQ n 71 [Tree.agg [Tree.str a02, Tree.slc a03]]) fun y => bif Sh.ok Sh.bool y then bif !Tree.toBool y then some (Tree.bool false) else bif a00 != 2 then
 bif !a02 == [] then some (Tree.bool false) else bif decide ((↑(List.length a03) : Int) > 0) then some (Tree.bool false) else bif a00 == 1 then bif decide (a01 < 0) then
 some (Tree.bool false) else bif decide (a01 > 200) then some (Tree.bool false) else L49_0 n n 0 a00 a01 a02 a03 a04 else bif a00 == 4 then bif decide (a01 < 0) then some
 (Tree.bool false) else bif decide (a01 > 1000) then some (Tree.bool false) else L49_0 n n 0 a00 a01 a02 a03 a04 else bif decide (a01 < 0) then some (Tree.bool false) else
 bif decide (a01 > 0) then some (Tree.bool false) else L49_0 n n 0 a00 a01 a02 a03 a04 else bif a00 == 1 then bif decide (a01 < 0) then some (Tree.bool false) else bif
 decide (a01 > 200) then some (Tree.bool false) else L49_0 n n 0 a00 a01 a02 a03 a04 else bif a00 == 4 then bif decide (a01 < 0) then some (Tree.bool false) else bif
 decide (a01 > 1000) then some (Tree.bool false) else L49_0 n n 0 a00 a01 a02 a03 a04 else bif decide (a01 < 0) then some (Tree.bool false) else bif decide (a01 > 0) then
 some (Tree.bool false) else L49_0 n n 0 a00 a01 a02 a03 a04 else none else bif a00 != 2 then bif !a02 == [] then some (Tree.bool false) else bif decide ((↑(List.length
 a03) : Int) > 0) then some (Tree.bool false) else bif a00 == 1 then bif decide (a01 < 0) then some (Tree.bool false) else bif decide (a01 > 200) then some (Tree.bool
 false) else L49_0 n n 0 a00 a01 a02 a03 a04 else bif a00 == 4 then bif decide (a01 < 0) then some (Tree.bool false) else bif decide (a01 > 1000) then some (Tree.bool
 false) else L49_0 n n 0 a00 a01 a02 a03 a04 else bif decide (a01 < 0) then some (Tree.bool false) else bif decide (a01 > 0) then some (Tree.bool false) else L49_0 n n 0
 a00 a01 a02 a03 a04 else bif a00 == 1 then bif decide (a01 < 0) then some (Tree.bool false) else bif decide (a01 > 200) then some (Tree.bool false) else L49_0 n n 0 a00
 a01 a02 a03 a04 else bif a00 == 4 then bif decide (a01 < 0) then some (Tree.bool false) else bif decide (a01 > 1000) then some (Tree.bool false) else L49_0 n n 0 a00 a01
 a02 a03 a04 else bif decide (a01 < 0) then some (Tree.bool false) else bif decide (a01 > 0) then some (Tree.bool false) else L49_0 n n 0 a00 a01 a02 a03 a04 else none
 else none := by kernel_rfl

theorem l49_0 (n q : Nat) (s4 h000 h001 : Int) (h002 : List UInt8) (h003 h004 : List Tree) : L49_0 n (Nat.succ q) s4 h000 h001 h002 h003 h004 = bif decide (s4 <
 (↑(List.length h004) : Int)) then bif decide (0 ≤ s4) then Option.bind (nth h004 (Int.toNat s4)) fun y => bif Sh.ok q0 y then Option.bind (evP eQ n 49 [Tree.agg [q4
 (Tree.toInt (List.headD (Tree.cs y) (Tree.bool false))), q4 (Tree.toInt (List.headD (List.tail (Tree.cs y)) (Tree.bool false))), Tree.str (Tree.toStr (List.headD
 (List.tail (List.tail (Tree.cs y))) (Tree.bool false))), Tree.slc (Tree.elems (List.headD (List.tail (List.tail (List.tail (Tree.cs y)))) (Tree.bool false))), Tree.slc
 (Tree.elems (List.headD (List.tail (List.tail (List.tail (List.tail (Tree.cs y))))) (Tree.bool false)))]]) fun y => bif Sh.ok Sh.bool y then bif !Tree.toBool y then some
 (Tree.bool false) else L49_0 n q (IntKind.wrap IntKind.i64 (s4 + 1)) h000 h001 h002 h003 h004 else none else none else none else some (Tree.bool true) := by kernel_rfl

theorem e50 (n : Nat) : evQ eQ n 50 [] = some (Tree.agg [Tree.str [78, 97, 116], Tree.slc []]) := by kernel_rfl

theorem e51 (n : Nat) (a00 a01 : Int) (a02 : List UInt8) (a03 a04 : List Tree) : evQ eQ n 51 [Tree.agg [q4 a00, q4 a01, Tree.str a02, Tree.slc a03, Tree.slc a04]] = bif
 a00 == 2 then Option.bind (evP eQ n 72 [Tree.agg [q4 a00, q4 a01, Tree.str a02, Tree.slc a03, Tree.slc a04]]) fun y => bif Sh.ok Sh.bool y then bif Tree.toBool y then
 some (q4 1) else some (q4 0) else none else some (q4 0) := by kernel_rfl

theorem e41 (n : Nat) : evQ eQ n 41 [] = some (Tree.agg [Tree.str [78, 97, 116], Tree.slc []]) := by kernel_rfl

theorem e58 (n : Nat) (a00 : List UInt8) (a01 : List Tree) : evQ eQ n 58 [Tree.agg [Tree.str a00, Tree.slc a01]] = Option.bind (evP eQ n 76 [Tree.agg [Tree.str a00,
 Tree.slc a01]]) fun y => bif Sh.ok (Sh.tup [Sh.int IntKind.i64, Sh.int IntKind.i64]) y then bif decide (Tree.toInt (List.headD (Tree.tupl y) (Tree.bool false)) ≤ 60) then
 bif decide (Tree.toInt (List.headD (List.tail (Tree.tupl y)) (Tree.bool false)) ≤ 12) then Option.bind (evP eQ n 77 [Tree.agg [Tree.str a00, Tree.slc a01]]) fun y => bif
 Sh.ok Sh.bool y then some (Tree.bool (Tree.toBool y)) else none else some (Tree.bool false) else some (Tree.bool false) else none := by kernel_rfl

theorem e65 (n : Nat) (a0 : List Tree) (a1g : Nat) (a1p a1c : List Tree) : evQ eQ n 65 [Tree.slc a0, Tree.fn a1g a1p a1c] = L65_0 n n a0 a1g a1p a1c (↑(List.length a0) :
 Int) 0 := by kernel_rfl

theorem l65_0 (n q : Nat) (s0 : List Tree) (s1g : Nat) (s1p s1c : List Tree) (s7 s8 : Int) : L65_0 n (Nat.succ q) s0 s1g s1p s1c s7 s8 = bif decide (s8 < s7) then bif
 decide (0 ≤ s8) then Option.bind (nth s0 (Int.toNat s8)) fun y => bif Sh.ok q0 y then Option.bind (evP eQ n s1g (s1p ++ [Tree.agg [q4 (Tree.toInt (List.headD (Tree.cs y)
 (Tree.bool false))), q4 (Tree.toInt (List.headD (List.tail (Tree.cs y)) (Tree.bool false))), Tree.str (Tree.toStr (List.headD (List.tail (List.tail (Tree.cs y)))
 (Tree.bool false))), Tree.slc (Tree.elems (List.headD (List.tail (List.tail (List.tail (Tree.cs y)))) (Tree.bool false))), Tree.slc (Tree.elems (List.headD (List.tail
 (List.tail (List.tail (List.tail (Tree.cs y))))) (Tree.bool false)))]] ++ s1c)) fun y => bif Sh.ok Sh.bool y then bif Tree.toBool y then some (q4 s8) else L65_0 n q s0
 s1g s1p s1c s7 (IntKind.wrap IntKind.i64 (s8 + 1)) else none else none else none else some (q4 (-1)) := by kernel_rfl

theorem e66 (n : Nat) (a0 : Int) : evQ eQ n 66 [q4 a0] = bif a0 == 1 then some (q4 0) else bif a0 == 4 then some (q4 0) else bif a0 == 2 then some (q4 1) else bif a0 == 5
 then some (q4 1) else bif a0 == 8 then some (q4 1) else bif a0 == 9 then some (q4 1) else bif a0 == 3 then some (q4 2) else bif a0 == 7 then some (q4 2) else bif a0 == 6
 then some (q4 3) else some (q4 (-1)) := by kernel_rfl

theorem e67 (n : Nat) (a00 a01 : Int) (a02 : List UInt8) (a03 a04 : List Tree) : evQ eQ n 67 [Tree.agg [q4 a00, q4 a01, Tree.str a02, Tree.slc a03, Tree.slc a04]] =
 Option.bind (evP eQ n 40 [Tree.agg [q4 a00, q4 a01, Tree.str a02, Tree.slc a03, Tree.slc a04]]) fun y => bif Sh.ok Sh.bool y then some (Tree.bool !Tree.toBool y) else
 none := by kernel_rfl

theorem e70 (n : Nat) (a0 : Int) : evQ eQ n 70 [q4 a0] = bif a0 == 1 then some (q4 0) else bif a0 == 4 then some (q4 0) else bif a0 == 2 then some (q4 1) else bif a0 == 5
 then some (q4 1) else bif a0 == 8 then some (q4 1) else bif a0 == 9 then some (q4 1) else bif a0 == 3 then some (q4 2) else bif a0 == 7 then some (q4 2) else bif a0 == 6
 then some (q4 3) else some (q4 (-1)) := by kernel_rfl

theorem e71 (n : Nat) (a00 : List UInt8) (a01 : List Tree) : evQ eQ n 71 [Tree.agg [Tree.str a00, Tree.slc a01]] = Option.bind (evP eQ n 83 [Tree.agg [Tree.str a00,
 Tree.slc a01]]) fun y => bif Sh.ok (Sh.tup [Sh.int IntKind.i64, Sh.int IntKind.i64]) y then bif decide (Tree.toInt (List.headD (Tree.tupl y) (Tree.bool false)) ≤ 60) then
 bif decide (Tree.toInt (List.headD (List.tail (Tree.tupl y)) (Tree.bool false)) ≤ 12) then Option.bind (evP eQ n 84 [Tree.agg [Tree.str a00, Tree.slc a01]]) fun y => bif
 Sh.ok Sh.bool y then some (Tree.bool (Tree.toBool y)) else none else some (Tree.bool false) else some (Tree.bool false) else none := by kernel_rfl

theorem e72 (n : Nat) (a00 a01 : Int) (a02 : List UInt8) (a03 a04 : List Tree) : evQ eQ n 72 [Tree.agg [q4 a00, q4 a01, Tree.str a02, Tree.slc a03, Tree.slc a04]] =
 Option.bind (evP eQ n 70 [q4 a00]) fun y => bif Sh.ok (Sh.int IntKind.i64) y then some (Tree.bool (Tree.toInt y == (↑(List.length a04) : Int))) else none := by kernel_rfl

theorem e76 (n : Nat) (a00 : List UInt8) (a01 : List Tree) : evQ eQ n 76 [Tree.agg [Tree.str a00, Tree.slc a01]] = L76_0 n n 0 0 a01 (↑(List.length a01) : Int) 0 := by
 kernel_rfl

theorem l76_0 (n q : Nat) (s2 s3 : Int) (s9 : List Tree) (s10 s11 : Int) : L76_0 n (Nat.succ q) s2 s3 s9 s10 s11 = bif decide (s11 < s10) then bif decide (0 ≤ s11) then
 Option.bind (nth s9 (Int.toNat s11)) fun y => bif Sh.ok q2 y then Option.bind (evP eQ n 76 [Tree.agg [Tree.str (Tree.toStr (List.headD (Tree.cs y) (Tree.bool false))),
 Tree.slc (Tree.elems (List.headD (List.tail (Tree.cs y)) (Tree.bool false)))]]) fun y => bif Sh.ok (Sh.tup [Sh.int IntKind.i64, Sh.int IntKind.i64]) y then L76_0 n q
 (IntKind.wrap IntKind.i64 (s2 + Tree.toInt (List.headD (Tree.tupl y) (Tree.bool false)))) (imax s3 (Tree.toInt (List.headD (List.tail (Tree.tupl y)) (Tree.bool false))))
 s9 s10 (IntKind.wrap IntKind.i64 (s11 + 1)) else none else none else none else some (Tree.tup [q4 (IntKind.wrap IntKind.i64 (s2 + 1)), q4 (IntKind.wrap IntKind.i64 (s3 +
 1))]) := by kernel_rfl

theorem e77 (n : Nat) (a00 : List UInt8) (a01 : List Tree) : evQ eQ n 77 [Tree.agg [Tree.str a00, Tree.slc a01]] = bif a00 == [78, 97, 116] then some (Tree.bool
 ((↑(List.length a01) : Int) == 0)) else bif a00 == [84, 111] then bif (↑(List.length a01) : Int) == 2 then Option.bind (nth a01 0) fun y => bif Sh.ok q2 y then
 Option.bind (evP eQ n 77 [Tree.agg [Tree.str (Tree.toStr (List.headD (Tree.cs y) (Tree.bool false))), Tree.slc (Tree.elems (List.headD (List.tail (Tree.cs y)) (Tree.bool
 false)))]]) fun y => bif Sh.ok Sh.bool y then bif Tree.toBool y then Option.bind (nth a01 1) fun y => bif Sh.ok q2 y then Option.bind (evP eQ n 77 [Tree.agg [Tree.str
 (Tree.toStr (List.headD (Tree.cs y) (Tree.bool false))), Tree.slc (Tree.elems (List.headD (List.tail (Tree.cs y)) (Tree.bool false)))]]) fun y => bif Sh.ok Sh.bool y then
 some (Tree.bool (Tree.toBool y)) else none else none else some (Tree.bool false) else none else none else some (Tree.bool false) else bif a00 == [80, 97, 105, 114] then
 bif (↑(List.length a01) : Int) == 2 then Option.bind (nth a01 0) fun y => bif Sh.ok q2 y then Option.bind (evP eQ n 77 [Tree.agg [Tree.str (Tree.toStr (List.headD
 (Tree.cs y) (Tree.bool false))), Tree.slc (Tree.elems (List.headD (List.tail (Tree.cs y)) (Tree.bool false)))]]) fun y => bif Sh.ok Sh.bool y then bif Tree.toBool y then
 Option.bind (nth a01 1) fun y => bif Sh.ok q2 y then Option.bind (evP eQ n 77 [Tree.agg [Tree.str (Tree.toStr (List.headD (Tree.cs y) (Tree.bool false))), Tree.slc
 (Tree.elems (List.headD (List.tail (Tree.cs y)) (Tree.bool false)))]]) fun y => bif Sh.ok Sh.bool y then some (Tree.bool (Tree.toBool y)) else none else none else some
 (Tree.bool false) else none else none else some (Tree.bool false) else some (Tree.bool false) := by kernel_rfl

theorem e83 (n : Nat) (a00 : List UInt8) (a01 : List Tree) : evQ eQ n 83 [Tree.agg [Tree.str a00, Tree.slc a01]] = L83_0 n n 1 0 0 a00 a01 := by kernel_rfl

theorem l83_0 (n q : Nat) (s4 s5 s6 : Int) (h000 : List UInt8) (h001 : List Tree) : L83_0 n (Nat.succ q) s4 s5 s6 h000 h001 = bif decide (s6 < (↑(List.length h001) : Int))
 then bif decide (0 ≤ s6) then Option.bind (nth h001 (Int.toNat s6)) fun y => bif Sh.ok q2 y then Option.bind (evP eQ n 83 [Tree.agg [Tree.str (Tree.toStr (List.headD
 (Tree.cs y) (Tree.bool false))), Tree.slc (Tree.elems (List.headD (List.tail (Tree.cs y)) (Tree.bool false)))]]) fun y => bif Sh.ok (Sh.tup [Sh.int IntKind.i64, Sh.int
 IntKind.i64]) y then L83_0 n q (IntKind.wrap IntKind.i64 (s4 + Tree.toInt (List.headD (Tree.tupl y) (Tree.bool false)))) (imax s5 (Tree.toInt (List.headD (List.tail
 (Tree.tupl y)) (Tree.bool false)))) (IntKind.wrap IntKind.i64 (s6 + 1)) h000 h001 else none else none else none else some (Tree.tup [q4 s4, q4 (IntKind.wrap IntKind.i64
 (s5 + 1))]) := by kernel_rfl

theorem e84 (n : Nat) (a00 : List UInt8) (a01 : List Tree) : evQ eQ n 84 [Tree.agg [Tree.str a00, Tree.slc a01]] = bif a00 == [78, 97, 116] then some (Tree.bool
 ((↑(List.length a01) : Int) == 0)) else bif a00 == [84, 111] then bif (↑(List.length a01) : Int) == 2 then Option.bind (nth a01 0) fun y => bif Sh.ok q2 y then
 Option.bind (evP eQ n 84 [Tree.agg [Tree.str (Tree.toStr (List.headD (Tree.cs y) (Tree.bool false))), Tree.slc (Tree.elems (List.headD (List.tail (Tree.cs y)) (Tree.bool
 false)))]]) fun y => bif Sh.ok Sh.bool y then bif Tree.toBool y then Option.bind (nth a01 1) fun y => bif Sh.ok q2 y then Option.bind (evP eQ n 84 [Tree.agg [Tree.str
 (Tree.toStr (List.headD (Tree.cs y) (Tree.bool false))), Tree.slc (Tree.elems (List.headD (List.tail (Tree.cs y)) (Tree.bool false)))]]) fun y => bif Sh.ok Sh.bool y then
 some (Tree.bool (Tree.toBool y)) else none else none else some (Tree.bool false) else none else none else some (Tree.bool false) else bif a00 == [80, 97, 105, 114] then
 bif (↑(List.length a01) : Int) == 2 then Option.bind (nth a01 0) fun y => bif Sh.ok q2 y then Option.bind (evP eQ n 84 [Tree.agg [Tree.str (Tree.toStr (List.headD
 (Tree.cs y) (Tree.bool false))), Tree.slc (Tree.elems (List.headD (List.tail (Tree.cs y)) (Tree.bool false)))]]) fun y => bif Sh.ok Sh.bool y then bif Tree.toBool y then
 Option.bind (nth a01 1) fun y => bif Sh.ok q2 y then Option.bind (evP eQ n 84 [Tree.agg [Tree.str (Tree.toStr (List.headD (Tree.cs y) (Tree.bool false))), Tree.slc
 (Tree.elems (List.headD (List.tail (Tree.cs y)) (Tree.bool false)))]]) fun y => bif Sh.ok Sh.bool y then some (Tree.bool (Tree.toBool y)) else none else none else some
 (Tree.bool false) else none else none else some (Tree.bool false) else some (Tree.bool false) := by kernel_rfl

theorem e5 (n : Nat) (a0 : List Tree) : evQ eQ n 5 [Tree.slc a0] = L5_0 n n a0 0 := by kernel_rfl

theorem l5_0 (n q : Nat) (s0 : List Tree) (s3 : Int) : L5_0 n (Nat.succ q) s0 s3 = bif decide (s3 < (↑(List.length s0) : Int)) then bif decide (0 ≤ s3) && (decide (s3 ≤
 IntKind.wrap IntKind.i64 (s3 + 1)) && decide (IntKind.wrap IntKind.i64 (s3 + 1) ≤ (↑(List.length s0) : Int))) then bif firstOk q0 (List.drop (Int.toNat s3) (List.take
 (Int.toNat (IntKind.wrap IntKind.i64 (s3 + 1))) s0)) then Option.bind (evP eQ n 13 [Tree.slc (List.drop (Int.toNat s3) (List.take (Int.toNat (IntKind.wrap IntKind.i64 (s3
 + 1))) s0)), q4 720]) fun y => bif Sh.ok (Sh.int IntKind.i64) y then bif decide (Tree.toInt y > 720) then some (Tree.bool true) else bif decide (0 ≤ s3) then Option.bind
 (nth s0 (Int.toNat s3)) fun y => bif Sh.ok q0 y then Option.bind (evP eQ n 14 [Tree.agg [q4 (Tree.toInt (List.headD (Tree.cs y) (Tree.bool false))), q4 (Tree.toInt
 (List.headD (List.tail (Tree.cs y)) (Tree.bool false))), Tree.str (Tree.toStr (List.headD (List.tail (List.tail (Tree.cs y))) (Tree.bool false))), Tree.slc (Tree.elems
 (List.headD (List.tail (List.tail (List.tail (Tree.cs y)))) (Tree.bool false))), Tree.slc (Tree.elems (List.headD (List.tail (List.tail (List.tail (List.tail (Tree.cs
 y))))) (Tree.bool false)))]]) fun y => bif Sh.ok (Sh.tup [Sh.int IntKind.i64, Sh.int IntKind.i64]) y then bif decide (Tree.toInt (List.headD (Tree.tupl y) (Tree.bool
 false)) > 120) then some (Tree.bool true) else L5_0 n q s0 (IntKind.wrap IntKind.i64 (s3 + 1)) else none else none else none else none else none else none else some
 (Tree.bool false) := by kernel_rfl

theorem e48 (n : Nat) (a0 : Int) : evQ eQ n 48 [q4 a0] = Option.bind (evP eQ n 69 [q4 a0]) fun y => bif Sh.ok Sh.str y then some (Tree.str (Tree.toStr y)) else none := by
 kernel_rfl

theorem e69 (n : Nat) (a0 : Int) : evQ eQ n 69 [q4 a0] = Option.bind (evP eQ n 82 [q4 a0, q4 10]) fun y => bif Sh.ok Sh.str y then some (Tree.str (Tree.toStr y)) else none
 := by kernel_rfl

theorem e82 (n : Nat) (a0 a1 : Int) : evQ eQ n 82 [q4 a0, q4 a1] = bif a1 == 10 then bif decide (0 ≤ a0) then bif decide (a0 < 100) then Option.bind (evP eQ n 90 [q4 a0])
 fun y => bif Sh.ok Sh.str y then some (Tree.str (Tree.toStr y)) else none else bif decide (a0 < 0) then Option.bind (evP eQ n 91 [Tree.int IntKind.u64 (IntKind.wrap
 IntKind.u64 (0 - IntKind.wrap IntKind.u64 a0))]) fun y => bif Sh.ok (Sh.int IntKind.i64) y then none else none else Option.bind (evP eQ n 91 [Tree.int IntKind.u64
 (IntKind.wrap IntKind.u64 a0)]) fun y => bif Sh.ok (Sh.int IntKind.i64) y then none else none else bif decide (a0 < 0) then Option.bind (evP eQ n 91 [Tree.int IntKind.u64
 (IntKind.wrap IntKind.u64 (0 - IntKind.wrap IntKind.u64 a0))]) fun y => bif Sh.ok (Sh.int IntKind.i64) y then none else none else Option.bind (evP eQ n 91 [Tree.int
 IntKind.u64 (IntKind.wrap IntKind.u64 a0)]) fun y => bif Sh.ok (Sh.int IntKind.i64) y then none else none else Option.bind (evP eQ n 93 [Tree.slc [], Tree.int IntKind.u64
 (IntKind.wrap IntKind.u64 a0), q4 a1, Tree.bool (decide (a0 < 0)), Tree.bool false]) fun y => bif Sh.ok (Sh.tup [Sh.slc, Sh.str]) y then some (Tree.str (Tree.toStr
 (List.headD (List.tail (Tree.tupl y)) (Tree.bool false)))) else none := by kernel_rfl


end Go.Proofs.Cw.Si
end

/-
  SIMPLE, specs 1: sizes.
-/
section
namespace Go.Proofs.Cw.Si
open Go.Proofs
abbrev E : Env := Tab.env tab
@[simp] theorem toStr_str (s : List UInt8) : Tree.toStr (.str s) = s := rfl
@[simp] theorem ok_str (s : List UInt8) : Sh.ok .str (.str s) = true := rfl
theorem okT_sh (t : Ty) : Sh.ok (Sh.agg [Sh.str, Sh.slc]) (encT t) = true := by cases t; simp [encT]
theorem lookT (t : Ty) : Tree.agg [Tree.str (Tree.toStr (List.headD (Tree.cs (encT t)) (Tree.bool false))), Tree.slc (Tree.elems (List.headD (List.tail (Tree.cs (encT t))) (Tree.bool false)))] = encT t := by cases t; simp [encT]
theorem nthT (pre : List Ty) (x : Ty) (r : List Ty) : nth (encTs (pre ++ x :: r)) pre.length = some (encT x) := by
 rw [encTs_map, nth_map, nth_app]; rfl
theorem lenT (l : List Ty) : (encTs l).length = l.length := by rw [encTs_map, List.length_map]
theorem sizeT_pos (t : Ty) : 1 ≤ sizeT t := by cases t; unfold sizeT; omega
theorem len_sizeTs : ∀ l : List Ty, l.length ≤ sizeTs l
 | [] => by simp [sizeTs]
 | t :: r => by have := len_sizeTs r; have := sizeT_pos t; simp [sizeTs]; omega
theorem depthT_le : ∀ t : Ty, depthT t ≤ sizeT t
 | .mk s l => by unfold depthT sizeT; have := depthTs_le l; omega
where
 depthTs_le : ∀ l : List Ty, depthTs l ≤ sizeTs l
  | [] => by simp [depthTs]
  | t :: r => by have := depthT_le t; have := depthTs_le r; unfold depthTs sizeTs; omega
theorem imaxN (a b : Nat) : imax (a : Int) b = ((max a b : Nat) : Int) := by
 unfold imax
 split <;> omega
mutual
theorem s76 : ∀ t : Ty, sizeT t ≤ 500000000000 → Ev E (2 * sizeT t + 2) 76 [encT t] (.tup [I (sizeT t), I (depthT t)])
 | .mk s l, h => Ev.mk fun n hn => by
  have hl := len_sizeTs l
  unfold sizeT at h hn ⊢
  rw [encT, e76]
  have := l76 l [] n n 0 0 (by omega) (by omega) (by omega) (by simp; omega)
  rw [lenT]
  simp only [List.nil_append, List.length_nil] at this
  unfold depthT
  simpa [Nat.add_comm] using this
theorem l76 : ∀ (r pre : List Ty) (n q a d : Nat), r.length < q → 2 * sizeTs r + 2 ≤ n → sizeTs r ≤ 500000000000 → a + sizeTs r ≤ 1000000000000 ∧ d ≤ 1000000000000 ∧ (pre ++ r).length ≤ 1000000000000 →
  L76_0 n q a d (encTs (pre ++ r)) ((pre ++ r).length : Nat) (pre.length : Nat) = some (.tup [I ((a + sizeTs r + 1 : Nat) : Int), I ((max d (depthTs r) + 1 : Nat) : Int)])
 | [], pre, n, q, a, d, hq, hn, hs, hb => by
  obtain ⟨q, rfl⟩ : ∃ k, q = k + 1 := ⟨q - 1, by omega⟩
  simp only [List.append_nil, sizeTs] at hs hb ⊢
  rw [show q + 1 = Nat.succ q from rfl, l76_0, bif_neg (by simp), w64 (by omega), w64 (by omega)]
  simp [depthTs]
 | x :: r, pre, n, q, a, d, hq, hn, hs, hb => by
  obtain ⟨q, rfl⟩ : ∃ k, q = k + 1 := ⟨q - 1, by omega⟩
  simp only [List.length_cons] at hq
  have hx := sizeT_pos x
  have hdx := depthT_le x
  simp only [sizeTs] at hn hs hb
  have hpl : pre.length < (pre ++ x :: r).length := by simp
  rw [show q + 1 = Nat.succ q from rfl, l76_0, bif_pos (by exact decide_eq_true (by omega)), bif_pos (by exact decide_eq_true (by omega)), Int.toNat_natCast, nthT, Option.bind_some, okT_sh, cond_true, lookT]
  rw [s76 x (by omega) n (by omega)]
  simp only [Option.bind_some, ok_tup, oks_cons, ok_int, oks_nil, Bool.and_true, cond_true, tupl_tup, List.headD_cons, List.tail_cons, toInt_int]
  rw [imaxN, show (a : Int) + (sizeT x : Int) = ((a + sizeT x : Nat) : Int) by omega, w64 (by omega), w64 (by omega)]
  have ih := l76 r (pre ++ [x]) n q (a + sizeT x) (max d (depthT x)) (by omega) (by omega) (by omega) (by simp at hb ⊢; omega)
  simp only [List.append_assoc, List.singleton_append, List.length_append, List.length_singleton] at ih
  simp only [sizeTs, depthTs]
  rw [← Nat.max_assoc, ← Nat.add_assoc a]
  simpa using ih
end
theorem okL_sh (t : Lam) : Sh.ok (Sh.agg [Sh.int IntKind.i64, Sh.int IntKind.i64, Sh.str, Sh.slc, Sh.slc]) (encL t) = true := by
 cases t with
 | mk o n t l => cases t; simp [encL]
theorem lookL (t : Lam) : Tree.agg [Tree.int IntKind.i64 (Tree.toInt (List.headD (Tree.cs (encL t)) (Tree.bool false))),
  Tree.int IntKind.i64 (Tree.toInt (List.headD (List.tail (Tree.cs (encL t))) (Tree.bool false))),
  Tree.str (Tree.toStr (List.headD (List.tail (List.tail (Tree.cs (encL t)))) (Tree.bool false))),
  Tree.slc (Tree.elems (List.headD (List.tail (List.tail (List.tail (Tree.cs (encL t))))) (Tree.bool false))),
  Tree.slc (Tree.elems (List.headD (List.tail (List.tail (List.tail (List.tail (Tree.cs (encL t)))))) (Tree.bool false)))] = encL t := by
 cases t with
 | mk o n t l => cases t; simp [encL]
theorem nthL (pre : List Lam) (x : Lam) (r : List Lam) : nth (encLs (pre ++ x :: r)) pre.length = some (encL x) := by
 rw [encLs_map, nth_map, nth_app]; rfl
theorem lenL (l : List Lam) : (encLs l).length = l.length := by rw [encLs_map, List.length_map]
theorem sizeL_pos (t : Lam) : 1 ≤ sizeL t := by cases t; unfold sizeL; omega
theorem len_sizeLs : ∀ l : List Lam, l.length ≤ sizeLs l
 | [] => by simp [sizeLs]
 | t :: r => by have := len_sizeLs r; have := sizeL_pos t; simp [sizeLs]; omega
theorem depthL_le : ∀ t : Lam, depthL t ≤ sizeL t
 | .mk _ _ _ l => by unfold depthL sizeL; have := depthLs_le l; omega
where
 depthLs_le : ∀ l : List Lam, depthLs l ≤ sizeLs l
  | [] => by simp [depthLs]
  | t :: r => by have := depthL_le t; have := depthLs_le r; unfold depthLs sizeLs; omega
mutual
theorem s39 : ∀ t : Lam, sizeL t ≤ 500000000000 → Ev E (2 * sizeL t + 2) 39 [encL t] (.tup [I (sizeL t), I (depthL t)])
 | .mk _ _ (.mk _ _) l, h => Ev.mk fun n hn => by
  have hl := len_sizeLs l
  unfold sizeL at h hn ⊢
  rw [encL, e39]
  have := l39 l [] n n 0 0 (by omega) (by omega) (by omega) (by simp; omega)
  rw [lenL]
  simp only [List.nil_append, List.length_nil] at this
  unfold depthL
  simpa [Nat.add_comm] using this
theorem l39 : ∀ (r pre : List Lam) (n q a d : Nat), r.length < q → 2 * sizeLs r + 2 ≤ n → sizeLs r ≤ 500000000000 → a + sizeLs r ≤ 1000000000000 ∧ d ≤ 1000000000000 ∧ (pre ++ r).length ≤ 1000000000000 →
  L39_0 n q a d (encLs (pre ++ r)) ((pre ++ r).length : Nat) (pre.length : Nat) = some (.tup [I ((a + sizeLs r + 1 : Nat) : Int), I ((max d (depthLs r) + 1 : Nat) : Int)])
 | [], pre, n, q, a, d, hq, hn, hs, hb => by
  obtain ⟨q, rfl⟩ : ∃ k, q = k + 1 := ⟨q - 1, by omega⟩
  simp only [List.append_nil, sizeLs] at hs hb ⊢
  rw [show q + 1 = Nat.succ q from rfl, l39_0, bif_neg (by simp), w64 (by omega), w64 (by omega)]
  simp [depthLs]
 | x :: r, pre, n, q, a, d, hq, hn, hs, hb => by
  obtain ⟨q, rfl⟩ : ∃ k, q = k + 1 := ⟨q - 1, by omega⟩
  simp only [List.length_cons] at hq
  have hx := sizeL_pos x
  have hdx := depthL_le x
  simp only [sizeLs] at hn hs hb
  have hpl : pre.length < (pre ++ x :: r).length := by simp
  rw [show q + 1 = Nat.succ q from rfl, l39_0, bif_pos (by exact decide_eq_true (by omega)), bif_pos (by exact decide_eq_true (by omega)), Int.toNat_natCast, nthL, Option.bind_some, okL_sh, cond_true, lookL]
  rw [s39 x (by omega) n (by omega)]
  simp only [Option.bind_some, ok_tup, oks_cons, ok_int, oks_nil, Bool.and_true, cond_true, tupl_tup, List.headD_cons, List.tail_cons, toInt_int]
  rw [imaxN, show (a : Int) + (sizeL x : Int) = ((a + sizeL x : Nat) : Int) by omega, w64 (by omega), w64 (by omega)]
  have ih := l39 r (pre ++ [x]) n q (a + sizeL x) (max d (depthL x)) (by omega) (by omega) (by omega) (by simp at hb ⊢; omega)
  simp only [List.append_assoc, List.singleton_append, List.length_append, List.length_singleton] at ih
  simp only [sizeLs, depthLs]
  rw [← Nat.max_assoc, ← Nat.add_assoc a]
  simpa using ih
end
mutual
theorem s83 : ∀ t : Ty, sizeT t ≤ 500000000000 → Ev E (2 * sizeT t + 2) 83 [encT t] (.tup [I (sizeT t), I (depthT t)])
 | .mk s l, h => Ev.mk fun n hn => by
  have hl := len_sizeTs l
  unfold sizeT at h hn ⊢
  rw [encT, e83]
  have := l83 l [] n n 1 0 s (by omega) (by omega) (by omega) (by simp; omega)
  simp only [List.nil_append, List.length_nil] at this
  unfold depthT
  simpa [Nat.add_comm] using this
theorem l83 : ∀ (r pre : List Ty) (n q a d : Nat) (s : List UInt8), r.length < q → 2 * sizeTs r + 2 ≤ n → sizeTs r ≤ 500000000000 → a + sizeTs r ≤ 1000000000000 ∧ d ≤ 1000000000000 ∧ (pre ++ r).length ≤ 1000000000000 →
  L83_0 n q a d (pre.length : Nat) s (encTs (pre ++ r)) = some (.tup [I ((a + sizeTs r : Nat) : Int), I ((max d (depthTs r) + 1 : Nat) : Int)])
 | [], pre, n, q, a, d, s, hq, hn, hs, hb => by
  obtain ⟨q, rfl⟩ : ∃ k, q = k + 1 := ⟨q - 1, by omega⟩
  simp only [List.append_nil, sizeTs] at hs hb ⊢
  rw [show q + 1 = Nat.succ q from rfl, l83_0, bif_neg (by rw [lenT]; simp), w64 (by omega)]
  simp [depthTs]
 | x :: r, pre, n, q, a, d, s, hq, hn, hs, hb => by
  obtain ⟨q, rfl⟩ : ∃ k, q = k + 1 := ⟨q - 1, by omega⟩
  simp only [List.length_cons] at hq
  have hx := sizeT_pos x
  have hdx := depthT_le x
  simp only [sizeTs] at hn hs hb
  have hpl : pre.length < (pre ++ x :: r).length := by simp
  rw [show q + 1 = Nat.succ q from rfl, l83_0, bif_pos (by rw [lenT]; exact decide_eq_true (by omega)), bif_pos (by exact decide_eq_true (by omega)), Int.toNat_natCast, nthT, Option.bind_some, okT_sh, cond_true, lookT]
  rw [s83 x (by omega) n (by omega)]
  simp only [Option.bind_some, ok_tup, oks_cons, ok_int, oks_nil, Bool.and_true, cond_true, tupl_tup, List.headD_cons, List.tail_cons, toInt_int]
  rw [imaxN, show (a : Int) + (sizeT x : Int) = ((a + sizeT x : Nat) : Int) by omega, w64 (by omega), w64 (by omega)]
  have ih := l83 r (pre ++ [x]) n q (a + sizeT x) (max d (depthT x)) s (by omega) (by omega) (by omega) (by simp at hb ⊢; omega)
  simp only [List.append_assoc, List.singleton_append, List.length_append, List.length_singleton] at ih
  simp only [sizeTs, depthTs]
  rw [← Nat.max_assoc, ← Nat.add_assoc a]
  simpa using ih
end
mutual
theorem s14 : ∀ t : Lam, sizeL t ≤ 500000000000 → Ev E (2 * sizeL t + 2) 14 [encL t] (.tup [I (sizeL t), I (depthL t)])
 | .mk o m (.mk s u) l, h => Ev.mk fun n hn => by
  have hl := len_sizeLs l
  unfold sizeL at h hn ⊢
  rw [encL, e14]
  have := l14 l [] n n 1 0 o m s u (by omega) (by omega) (by omega) (by simp; omega)
  simp only [List.nil_append, List.length_nil] at this
  unfold depthL
  simpa [Nat.add_comm] using this
theorem l14 : ∀ (r pre : List Lam) (n q a d : Nat) (o m : Int) (s : List UInt8) (u : List Ty), r.length < q → 2 * sizeLs r + 2 ≤ n → sizeLs r ≤ 500000000000 → a + sizeLs r ≤ 1000000000000 ∧ d ≤ 1000000000000 ∧ (pre ++ r).length ≤ 1000000000000 →
  L14_0 n q a d (pre.length : Nat) o m s (encTs u) (encLs (pre ++ r)) = some (.tup [I ((a + sizeLs r : Nat) : Int), I ((max d (depthLs r) + 1 : Nat) : Int)])
 | [], pre, n, q, a, d, o, m, s, u, hq, hn, hs, hb => by
  obtain ⟨q, rfl⟩ : ∃ k, q = k + 1 := ⟨q - 1, by omega⟩
  simp only [List.append_nil, sizeLs] at hs hb ⊢
  rw [show q + 1 = Nat.succ q from rfl, l14_0, bif_neg (by rw [lenL]; simp), w64 (by omega)]
  simp [depthLs]
 | x :: r, pre, n, q, a, d, o, m, s, u, hq, hn, hs, hb => by
  obtain ⟨q, rfl⟩ : ∃ k, q = k + 1 := ⟨q - 1, by omega⟩
  simp only [List.length_cons] at hq
  have hx := sizeL_pos x
  have hdx := depthL_le x
  simp only [sizeLs] at hn hs hb
  have hpl : pre.length < (pre ++ x :: r).length := by simp
  rw [show q + 1 = Nat.succ q from rfl, l14_0, bif_pos (by rw [lenL]; exact decide_eq_true (by omega)), bif_pos (by exact decide_eq_true (by omega)), Int.toNat_natCast, nthL, Option.bind_some, okL_sh, cond_true, lookL]
  rw [s14 x (by omega) n (by omega)]
  simp only [Option.bind_some, ok_tup, oks_cons, ok_int, oks_nil, Bool.and_true, cond_true, tupl_tup, List.headD_cons, List.tail_cons, toInt_int]
  rw [imaxN, show (a : Int) + (sizeL x : Int) = ((a + sizeL x : Nat) : Int) by omega, w64 (by omega), w64 (by omega)]
  have ih := l14 r (pre ++ [x]) n q (a + sizeL x) (max d (depthL x)) o m s u (by omega) (by omega) (by omega) (by simp at hb ⊢; omega)
  simp only [List.append_assoc, List.singleton_append, List.length_append, List.length_singleton] at ih
  simp only [sizeLs, depthLs]
  rw [← Nat.max_assoc, ← Nat.add_assoc a]
  simpa using ih
end
end Go.Proofs.Cw.Si
end

/-
  SIMPLE, specs 2: types: well formed, valid, equal.
-/
section
namespace Go.Proofs.Cw.Si
open Go.Proofs
theorem s77 (t : Ty) : Ev E (sizeT t + 1) 77 [encT t] (.bool (formed t)) := by
 cases t with
 | mk s l =>
 exact Ev.mk fun n hn => by
  rw [encT, e77]
  by_cases h0 : s = sNat
  ·subst h0
   rw [bif_pos (by rfl)]
   unfold formed
   rw [if_pos rfl]
   cases l <;> simp [encTs]
   omega
  rw [bif_neg (by simpa [sNat] using h0)]
  unfold formed
  rw [if_neg h0]
  by_cases h1 : s = sTo
  ·rw [bif_pos (by rw [h1]; rfl), if_pos (.inl h1)]
   clear h0 h1
   rcases l with _ | ⟨a, _ | ⟨b, _ | ⟨c, r⟩⟩⟩
   ·rw [bif_neg (by rfl)]; simp
   ·rw [bif_neg (by rfl)]; simp
   ·have ha := s77 a n (by simp only [sizeT, sizeTs] at hn; omega)
    have hb := s77 b n (by simp only [sizeT, sizeTs] at hn; omega)
    rw [bif_pos (by rfl)]
    simp only [encTs, nth, show Int.toNat 0 = 0 from rfl, show Int.toNat 1 = 1 from rfl, Option.bind_some, okT_sh, cond_true, lookT, ha, hb, ok_bool, toBool_bool, formedTs]
    cases formed a <;> simp
   ·rw [bif_neg (by simp only [encTs, List.length_cons]; simp; omega)]; simp
  rw [bif_neg (by simpa [sTo] using h1)]
  by_cases h2 : s = sPair
  ·rw [bif_pos (by rw [h2]; rfl), if_pos (.inr h2)]
   clear h0 h1 h2
   rcases l with _ | ⟨a, _ | ⟨b, _ | ⟨c, r⟩⟩⟩
   ·rw [bif_neg (by rfl)]; simp
   ·rw [bif_neg (by rfl)]; simp
   ·have ha := s77 a n (by simp only [sizeT, sizeTs] at hn; omega)
    have hb := s77 b n (by simp only [sizeT, sizeTs] at hn; omega)
    rw [bif_pos (by rfl)]
    simp only [encTs, nth, show Int.toNat 0 = 0 from rfl, show Int.toNat 1 = 1 from rfl, Option.bind_some, okT_sh, cond_true, lookT, ha, hb, ok_bool, toBool_bool, formedTs]
    cases formed a <;> simp
   ·rw [bif_neg (by simp only [encTs, List.length_cons]; simp; omega)]; simp
  rw [bif_neg (by simpa [sPair] using h2), if_neg (by simp [h1, h2])]
termination_by sizeT t
decreasing_by all_goals simp only [sizeT, sizeTs]; omega
theorem s84 (t : Ty) : Ev E (sizeT t + 1) 84 [encT t] (.bool (formed t)) := by
 cases t with
 | mk s l =>
 exact Ev.mk fun n hn => by
  rw [encT, e84]
  by_cases h0 : s = sNat
  ·subst h0
   rw [bif_pos (by rfl)]
   unfold formed
   rw [if_pos rfl]
   cases l <;> simp [encTs]
   omega
  rw [bif_neg (by simpa [sNat] using h0)]
  unfold formed
  rw [if_neg h0]
  by_cases h1 : s = sTo
  ·rw [bif_pos (by rw [h1]; rfl), if_pos (.inl h1)]
   clear h0 h1
   rcases l with _ | ⟨a, _ | ⟨b, _ | ⟨c, r⟩⟩⟩
   ·rw [bif_neg (by rfl)]; simp
   ·rw [bif_neg (by rfl)]; simp
   ·have ha := s84 a n (by simp only [sizeT, sizeTs] at hn; omega)
    have hb := s84 b n (by simp only [sizeT, sizeTs] at hn; omega)
    rw [bif_pos (by rfl)]
    simp only [encTs, nth, show Int.toNat 0 = 0 from rfl, show Int.toNat 1 = 1 from rfl, Option.bind_some, okT_sh, cond_true, lookT, ha, hb, ok_bool, toBool_bool, formedTs]
    cases formed a <;> simp
   ·rw [bif_neg (by simp only [encTs, List.length_cons]; simp; omega)]; simp
  rw [bif_neg (by simpa [sTo] using h1)]
  by_cases h2 : s = sPair
  ·rw [bif_pos (by rw [h2]; rfl), if_pos (.inr h2)]
   clear h0 h1 h2
   rcases l with _ | ⟨a, _ | ⟨b, _ | ⟨c, r⟩⟩⟩
   ·rw [bif_neg (by rfl)]; simp
   ·rw [bif_neg (by rfl)]; simp
   ·have ha := s84 a n (by simp only [sizeT, sizeTs] at hn; omega)
    have hb := s84 b n (by simp only [sizeT, sizeTs] at hn; omega)
    rw [bif_pos (by rfl)]
    simp only [encTs, nth, show Int.toNat 0 = 0 from rfl, show Int.toNat 1 = 1 from rfl, Option.bind_some, okT_sh, cond_true, lookT, ha, hb, ok_bool, toBool_bool, formedTs]
    cases formed a <;> simp
   ·rw [bif_neg (by simp only [encTs, List.length_cons]; simp; omega)]; simp
  rw [bif_neg (by simpa [sPair] using h2), if_neg (by simp [h1, h2])]
termination_by sizeT t
decreasing_by all_goals simp only [sizeT, sizeTs]; omega
theorem s58 (t : Ty) (ht : sizeT t ≤ 500000000000) : Ev E (2 * sizeT t + 3) 58 [encT t] (.bool (validT t)) :=
 Ev.mk fun n hn => by
  have h1 := s76 t ht n (by omega)
  have h2 := s77 t n (by omega)
  cases t with
  | mk s l =>
  rw [encT] at h1 h2 ⊢
  rw [e58, h1]
  simp only [Option.bind_some, ok_tup, oks_cons, ok_int, oks_nil, Bool.and_true, cond_true, tupl_tup, List.headD_cons, List.tail_cons, toInt_int]
  unfold validT
  by_cases c1 : sizeT (.mk s l) ≤ 60
  ·rw [bif_pos (by exact decide_eq_true (by omega)), decide_eq_true c1]
   by_cases c2 : depthT (.mk s l) ≤ 12
   ·rw [bif_pos (by exact decide_eq_true (by omega)), decide_eq_true c2, h2]
    simp
   ·rw [bif_neg (by exact decide_eq_false (by omega)), decide_eq_false c2]
    simp
  ·rw [bif_neg (by exact decide_eq_false (by omega)), decide_eq_false c1]
   simp
theorem s71 (t : Ty) (ht : sizeT t ≤ 500000000000) : Ev E (2 * sizeT t + 3) 71 [encT t] (.bool (validT t)) :=
 Ev.mk fun n hn => by
  have h1 := s83 t ht n (by omega)
  have h2 := s84 t n (by omega)
  cases t with
  | mk s l =>
  rw [encT] at h1 h2 ⊢
  rw [e71, h1]
  simp only [Option.bind_some, ok_tup, oks_cons, ok_int, oks_nil, Bool.and_true, cond_true, tupl_tup, List.headD_cons, List.tail_cons, toInt_int]
  unfold validT
  by_cases c1 : sizeT (.mk s l) ≤ 60
  ·rw [bif_pos (by exact decide_eq_true (by omega)), decide_eq_true c1]
   by_cases c2 : depthT (.mk s l) ≤ 12
   ·rw [bif_pos (by exact decide_eq_true (by omega)), decide_eq_true c2, h2]
    simp
   ·rw [bif_neg (by exact decide_eq_false (by omega)), decide_eq_false c2]
    simp
  ·rw [bif_neg (by exact decide_eq_false (by omega)), decide_eq_false c1]
   simp
mutual
theorem s8 : ∀ a b : Ty, sizeT a ≤ 500000000000 → Ev E (2 * sizeT a + 2) 8 [encT a, encT b] (.bool (eqT a b))
 | .mk s l, .mk s' l', h => Ev.mk fun n hn => by
  have hl := len_sizeTs l
  unfold sizeT at h hn
  rw [encT, encT, e8]
  unfold eqT
  by_cases hs : s = s'
  ·rw [bif_neg (by simp [hs])]
   by_cases hll : l.length = l'.length
   ·have e := l8 l l' [] [] n n s s' (by omega) (by omega) (by omega) rfl hll (by simp; omega)
    rw [bif_neg (by rw [lenT, lenT, hll]; simp)]
    simp only [List.nil_append, List.length_nil] at e
    rw [show (0 : Int) = ((0 : Nat) : Int) from rfl, e]
    simp [hs]
   ·have : eqTs l l' = false := by
     cases hq : eqTs l l' with
     | false => rfl
     | true => exact absurd (congrArg List.length ((eqTs_iff l l').1 hq)) hll
    rw [bif_pos (by rw [lenT, lenT]; simp; omega), this]
    simp
  ·rw [bif_pos (by simp [hs])]
   simp [hs]
theorem l8 : ∀ (r r' pre pre' : List Ty) (n q : Nat) (s s' : List UInt8), r.length < q → 2 * sizeTs r + 2 ≤ n → sizeTs r ≤ 500000000000 → pre.length = pre'.length → r.length = r'.length → (pre ++ r).length ≤ 1000000000000 →
  L8_0 n q (pre.length : Nat) s (encTs (pre ++ r)) s' (encTs (pre' ++ r')) = some (.bool (eqTs r r'))
 | [], [], pre, pre', n, q, s, s', hq, hn, hs, hp, hr, hb => by
  obtain ⟨q, rfl⟩ : ∃ k, q = k + 1 := ⟨q - 1, by omega⟩
  rw [show q + 1 = Nat.succ q from rfl, l8_0, bif_neg (by rw [lenT]; simp)]
  rfl
 | [], _ :: _, _, _, _, _, _, _, _, _, _, _, hr, _ => by simp at hr
 | _ :: _, [], _, _, _, _, _, _, _, _, _, _, hr, _ => by simp at hr
 | x :: r, x' :: r', pre, pre', n, q, s, s', hq, hn, hs, hp, hr, hb => by
  obtain ⟨q, rfl⟩ : ∃ k, q = k + 1 := ⟨q - 1, by omega⟩
  simp only [List.length_cons] at hq hr
  have hx := sizeT_pos x
  simp only [sizeTs] at hn hs
  have hpl : pre.length < (pre ++ x :: r).length := by simp
  have n2 : nth (encTs (pre' ++ x' :: r')) pre.length = some (encT x') := by rw [hp]; exact nthT pre' x' r'
  rw [show q + 1 = Nat.succ q from rfl, l8_0, bif_pos (by rw [lenT]; exact decide_eq_true (by omega)), bif_pos (by exact decide_eq_true (by omega)), Int.toNat_natCast, nthT, Option.bind_some, okT_sh, cond_true, bif_pos (by exact decide_eq_true (by omega)), n2, Option.bind_some, okT_sh, cond_true, lookT, lookT,
   s8 x x' (by omega) n (by omega)]
  simp only [Option.bind_some, ok_bool, cond_true, toBool_bool, eqTs]
  cases hxx : eqT x x' with
  | false => simp
  | true =>
   have ih := l8 r r' (pre ++ [x]) (pre' ++ [x']) n q s s' (by omega) (by omega) (by omega) (by simp [hp]) (by omega) (by simp at hb ⊢; omega)
   simp only [List.append_assoc, List.singleton_append, List.length_append, List.length_singleton] at ih
   rw [w64 (by simp at hb; omega)]
   simpa using ih
end
end Go.Proofs.Cw.Si
end

/-
  SIMPLE, specs 3: equal types and terms, the program's and the reference's.
-/
section
namespace Go.Proofs.Cw.Si
open Go.Proofs
mutual
def wL : Lam → Nat
 | .mk _ _ t l => 1 + sizeT t + wLs l
def wLs : List Lam → Nat
 | [] => 0
 | t :: r => wL t + wLs r
end
theorem wL_pos (t : Lam) : 2 ≤ wL t := by
 cases t with
 | mk o n t l => have := sizeT_pos t; unfold wL; omega
theorem len_wLs : ∀ l : List Lam, l.length ≤ wLs l
 | [] => by simp [wLs]
 | t :: r => by have := len_wLs r; have := wL_pos t; simp [wLs]; omega
end Go.Proofs.Cw.Si
end

/-
  SIMPLE, specs 4: what is a term at all.
-/
section
namespace Go.Proofs.Cw.Si
open Go.Proofs
theorem s66 (o : Int) : Ev E 1 66 [I o] (I (partsN o)) :=
 Ev.mk fun n _ => by
  rw [e66]
  unfold partsN
  by_cases h1 : o = 1
  ·subst h1; rfl
  by_cases h4 : o = 4
  ·subst h4; rfl
  by_cases h2 : o = 2
  ·subst h2; rfl
  by_cases h5 : o = 5
  ·subst h5; rfl
  by_cases h8 : o = 8
  ·subst h8; rfl
  by_cases h9 : o = 9
  ·subst h9; rfl
  by_cases h3 : o = 3
  ·subst h3; rfl
  by_cases h7 : o = 7
  ·subst h7; rfl
  by_cases h6 : o = 6
  ·subst h6; rfl
  rw [bif_neg (by simp [h1]), bif_neg (by simp [h4]), bif_neg (by simp [h2]), bif_neg (by simp [h5]), bif_neg (by simp [h8]), bif_neg (by simp [h9]), bif_neg (by simp [h3]), bif_neg (by simp [h7]), bif_neg (by simp [h6])]
  simp [h1, h2, h3, h4, h5, h6, h7, h8, h9]
theorem s70 (o : Int) : Ev E 1 70 [I o] (I (partsN o)) :=
 Ev.mk fun n _ => by
  rw [e70]
  unfold partsN
  by_cases h1 : o = 1
  ·subst h1; rfl
  by_cases h4 : o = 4
  ·subst h4; rfl
  by_cases h2 : o = 2
  ·subst h2; rfl
  by_cases h5 : o = 5
  ·subst h5; rfl
  by_cases h8 : o = 8
  ·subst h8; rfl
  by_cases h9 : o = 9
  ·subst h9; rfl
  by_cases h3 : o = 3
  ·subst h3; rfl
  by_cases h7 : o = 7
  ·subst h7; rfl
  by_cases h6 : o = 6
  ·subst h6; rfl
  rw [bif_neg (by simp [h1]), bif_neg (by simp [h4]), bif_neg (by simp [h2]), bif_neg (by simp [h5]), bif_neg (by simp [h8]), bif_neg (by simp [h9]), bif_neg (by simp [h3]), bif_neg (by simp [h7]), bif_neg (by simp [h6])]
  simp [h1, h2, h3, h4, h5, h6, h7, h8, h9]
theorem s36 (t : Ty) : Ev E 1 36 [encT t] (.bool (zeroT t)) :=
 Ev.mk fun n _ => by
  cases t with
  | mk s l =>
   rw [encT, e36]
   unfold zeroT
   rw [lenT]
   cases s <;> cases l <;> simp [Ty.name, Ty.parts]
   omega
def idxS : Int → List Lam → Int
 | _, [] => -1
 | i, x :: r => bif shaped x then idxS (i + 1) r else i
theorem idxS_ge : ∀ (l : List Lam) (i : Int), 0 ≤ i → (idxS i l ≥ 0 ↔ shapeds l = false)
 | [], i, h => by simp [idxS, shapeds]
 | x :: r, i, h => by
  simp only [idxS, shapeds]
  cases hx : shaped x with
  | true => simpa using idxS_ge r (i + 1) (by omega)
  | false => simp [h]
mutual
theorem s40 : ∀ t : Lam, wL t ≤ 500000000000 → Ev E (4 * wL t) 40 [encL t] (.bool (shaped t))
 | .mk o m (.mk s u) l, h => by
  have hw := wL_pos (.mk o m (.mk s u) l)
  obtain ⟨c, hc⟩ : ∃ c, 4 * wL (.mk o m (.mk s u) l) = c + 1 := ⟨4 * wL (.mk o m (.mk s u) l) - 1, by omega⟩
  rw [hc]
  refine Ev.mk fun n hn => ?_
  have hl := len_wLs l
  have hsp := sizeT_pos (.mk s u)
  unfold wL at h hn hc
  have h73 := s66 o n (by omega)
  have h60 := s58 (.mk s u) (by omega) n (by omega)
  have h74 := s36 (.mk s u) n (by omega)
  rw [encT] at h60 h74
  have h75 : Ev E (4 * wLs l + 5) 37 [.slc (encLs l), .fn 67 [] []] (.bool (!shapeds l)) := Ev.mk fun k hk => by
   have h86 : Ev E (4 * wLs l + 4) 65 [.slc (encLs l), .fn 67 [] []] (I (idxS 0 l)) := Ev.mk fun j hj => by
    rw [e65, lenL]
    have e := l65 l [] j j (by omega) (by omega) (by omega) (by simp; omega)
    simpa using e
   rw [e37, h86 k (by omega)]
   simp only [Option.bind_some, ok_int, cond_true, toInt_int]
   have := idxS_ge l 0 (by omega)
   cases hs : shapeds l with
   | true =>
    exact congrArg (fun b => some (Tree.bool b)) (decide_eq_false (fun q => by rw [this, hs] at q; cases q))
   | false =>
    exact congrArg (fun b => some (Tree.bool b)) (decide_eq_true (this.2 hs))
  have h75 := h75 n (by omega)
  rw [encL, e40]
  simp only [h73, h60, h74, h75, Option.bind_some, ok_bool, ok_int, cond_true, toBool_bool, toInt_int, lenL]
  unfold shaped topN
  generalize validT (.mk s u) = v at *
  generalize zeroT (.mk s u) = z at *
  generalize shapeds l = sh at *
  have core : ∀ top : Int, (bif (l.length : Int) != partsN o then some (Tree.bool false) else bif decide (m < 0) then some (Tree.bool false) else bif decide (m > top) then some (Tree.bool false) else
    bif o == 2 then (bif !v then some (Tree.bool false) else bif o != 2 then (bif !z then some (Tree.bool false) else some (Tree.bool !!sh)) else some (Tree.bool !!sh))
    else (bif o != 2 then (bif !z then some (Tree.bool false) else some (Tree.bool !!sh)) else some (Tree.bool !!sh))) =
    some (Tree.bool ((l.length : Int) == partsN o && decide (0 ≤ m) && decide (m ≤ top) && (if o = 2 then v else z) && sh)) := by
   intro top
   rw [show ((l.length : Int) != partsN o) = !((l.length : Int) == partsN o) from rfl]
   generalize ((l.length : Int) == partsN o) = b1
   cases b1 with
   | false => simp
   | true =>
    rw [Bool.not_true, cond_false, Bool.true_and]
    by_cases c1 : m < 0
    ·rw [bif_pos (by exact decide_eq_true c1), decide_eq_false (show ¬ 0 ≤ m by omega)]; simp
    ·rw [bif_neg (by exact decide_eq_false c1), decide_eq_true (show 0 ≤ m by omega), Bool.true_and]
     by_cases c2 : m > top
     ·rw [bif_pos (by exact decide_eq_true c2), decide_eq_false (show ¬ m ≤ top by omega)]; simp
     ·rw [bif_neg (by exact decide_eq_false c2), decide_eq_true (show m ≤ top by omega), Bool.true_and]
      by_cases c3 : o = 2
      ·rw [bif_pos (by simp [c3]), if_pos c3]
       cases v <;> simp [c3]
      ·rw [bif_neg (by simp [c3]), bif_pos (by simp [c3]), if_neg c3]
       cases z <;> simp
  by_cases c1 : o = 1
  ·rw [bif_pos (by simp [c1]), if_pos c1]; exact core 200
  ·rw [bif_neg (by simp [c1]), if_neg c1]
   by_cases c4 : o = 4
   ·rw [bif_pos (by simp [c4]), if_pos c4]; exact core 1000
   ·rw [bif_neg (by simp [c4]), if_neg c4]; exact core 0
theorem l65 : ∀ (r pre : List Lam) (n q : Nat), r.length < q → 4 * wLs r + 3 ≤ n → wLs r ≤ 500000000000 → (pre ++ r).length ≤ 1000000000000 →
  L65_0 n q (encLs (pre ++ r)) 67 [] [] ((pre ++ r).length : Nat) (pre.length : Nat) = some (I (idxS pre.length r))
 | [], pre, n, q, hq, hn, hs, hb => by
  obtain ⟨q, rfl⟩ : ∃ k, q = k + 1 := ⟨q - 1, by omega⟩
  rw [show q + 1 = Nat.succ q from rfl, l65_0, bif_neg (by simp)]
  rfl
 | x :: r, pre, n, q, hq, hn, hs, hb => by
  obtain ⟨q, rfl⟩ : ∃ k, q = k + 1 := ⟨q - 1, by omega⟩
  simp only [List.length_cons] at hq
  have hx := wL_pos x
  simp only [wLs] at hn hs
  have hpl : pre.length < (pre ++ x :: r).length := by simp
  have h76 : Ev E (4 * wL x + 1) 67 [encL x] (.bool (!shaped x)) := Ev.mk fun k hk => by
   have h51 := s40 x (by omega) k (by omega)
   cases x with
   | mk o m t l =>
    cases t with
    | mk s u =>
     rw [encL] at h51 ⊢
     rw [e67, h51]
     simp
  rw [show q + 1 = Nat.succ q from rfl, l65_0, bif_pos (by exact decide_eq_true (by omega)), bif_pos (by exact decide_eq_true (by omega)), Int.toNat_natCast, nthL, Option.bind_some, okL_sh, cond_true, lookL]
  rw [show ([] : List Tree) ++ [encL x] ++ [] = [encL x] from rfl, h76 n (by omega)]
  simp only [Option.bind_some, ok_bool, cond_true, toBool_bool, idxS]
  cases hx2 : shaped x with
  | false => simp
  | true =>
   have ih := l65 r (pre ++ [x]) n q (by omega) (by omega) (by omega) (by simp at hb ⊢; omega)
   simp only [List.append_assoc, List.singleton_append, List.length_append, List.length_singleton] at ih
   rw [w64 (by simp at hb; omega)]
   simpa using ih
end
end Go.Proofs.Cw.Si
end

/-
  SIMPLE, specs 5: what is a term at all, the reference's; valid terms.
-/
section
namespace Go.Proofs.Cw.Si
open Go.Proofs
mutual
theorem s49 : ∀ t : Lam, wL t ≤ 500000000000 → Ev E (2 * wL t + 4) 49 [encL t] (.bool (shaped t))
 | .mk o m (.mk s u) l, h => Ev.mk fun n hn => by
  have hl := len_wLs l
  have hsp := sizeT_pos (.mk s u)
  unfold wL at h hn
  have h65 := s70 o n (by omega)
  have h66 := s71 (.mk s u) (by omega) n (by omega)
  rw [encT] at h66
  have hL := l49 l [] n n o m s (encTs u) (by omega) (by omega) (by omega) (by simp; omega)
  simp only [List.nil_append, List.length_nil] at hL
  rw [show ((0 : Nat) : Int) = 0 from rfl] at hL
  rw [encL, e49]
  simp only [h65, h66, hL, Option.bind_some, ok_bool, ok_int, cond_true, toBool_bool, toInt_int, lenL]
  have tops : (bif o == 1 then bif decide (m < 0) then some (Tree.bool false) else bif decide (m > 200) then some (Tree.bool false) else some (Tree.bool (shapeds l))
    else bif o == 4 then bif decide (m < 0) then some (Tree.bool false) else bif decide (m > 1000) then some (Tree.bool false) else some (Tree.bool (shapeds l))
    else bif decide (m < 0) then some (Tree.bool false) else bif decide (m > 0) then some (Tree.bool false) else some (Tree.bool (shapeds l))) =
    some (Tree.bool (decide (0 ≤ m) && decide (m ≤ topN o) && shapeds l)) := by
   have core : ∀ top : Int, (bif decide (m < 0) then some (Tree.bool false) else bif decide (m > top) then some (Tree.bool false) else some (Tree.bool (shapeds l))) = some (Tree.bool (decide (0 ≤ m) && decide (m ≤ top) && shapeds l)) := by
    intro top
    by_cases c1 : m < 0
    ·rw [bif_pos (by exact decide_eq_true c1), decide_eq_false (show ¬ 0 ≤ m by omega)]; simp
    ·rw [bif_neg (by exact decide_eq_false c1), decide_eq_true (show 0 ≤ m by omega), Bool.true_and]
     by_cases c2 : m > top
     ·rw [bif_pos (by exact decide_eq_true c2), decide_eq_false (show ¬ m ≤ top by omega)]; simp
     ·rw [bif_neg (by exact decide_eq_false c2), decide_eq_true (show m ≤ top by omega), Bool.true_and]
   unfold topN
   by_cases c1 : o = 1
   ·rw [bif_pos (by simp [c1]), if_pos c1]; exact core 200
   ·rw [bif_neg (by simp [c1]), if_neg c1]
    by_cases c4 : o = 4
    ·rw [bif_pos (by simp [c4]), if_pos c4]; exact core 1000
    ·rw [bif_neg (by simp [c4]), if_neg c4]; exact core 0
  rw [tops]
  unfold shaped
  by_cases hp : (l.length : Int) = partsN o
  ·rw [bif_neg (by simp [hp]), bif_neg (by exact decide_eq_false (by omega)), show ((l.length : Int) == partsN o) = true by simp [hp], Bool.true_and]
   by_cases c3 : o = 2
   ·rw [bif_pos (by simp [c3]), if_pos c3]
    cases validT (.mk s u) with
    | false => simp
    | true => rw [Bool.not_true, cond_false, bif_neg (by simp [c3])]; simp
   ·rw [bif_neg (by simp [c3]), bif_pos (by simp [c3]), if_neg c3]
    unfold zeroT
    rw [lenT]
    cases s with
    | cons => rw [bif_pos (by rfl)]; simp [Ty.name]
    | nil =>
     rw [bif_neg (by rfl)]
     cases u with
     | nil => rw [bif_neg (by exact decide_eq_false (by simp))]; simp [Ty.name, Ty.parts]
     | cons => rw [bif_pos (by exact decide_eq_true (by simp))]; simp [Ty.name, Ty.parts]
  ·rw [bif_pos (by simp; omega), show ((l.length : Int) == partsN o) = false by simp [hp]]
   simp
theorem l49 : ∀ (r pre : List Lam) (n q : Nat) (o m : Int) (s : List UInt8) (u : List Tree), r.length < q → 2 * wLs r + 4 ≤ n → wLs r ≤ 500000000000 → (pre ++ r).length ≤ 1000000000000 →
  L49_0 n q (pre.length : Nat) o m s u (encLs (pre ++ r)) = some (.bool (shapeds r))
 | [], pre, n, q, o, m, s, u, hq, hn, hs, hb => by
  obtain ⟨q, rfl⟩ : ∃ k, q = k + 1 := ⟨q - 1, by omega⟩
  rw [show q + 1 = Nat.succ q from rfl, l49_0, bif_neg (by rw [lenL]; simp)]
  rfl
 | x :: r, pre, n, q, o, m, s, u, hq, hn, hs, hb => by
  obtain ⟨q, rfl⟩ : ∃ k, q = k + 1 := ⟨q - 1, by omega⟩
  simp only [List.length_cons] at hq
  have hx := wL_pos x
  simp only [wLs] at hn hs
  have hpl : pre.length < (pre ++ x :: r).length := by simp
  rw [show q + 1 = Nat.succ q from rfl, l49_0, bif_pos (by rw [lenL]; exact decide_eq_true (by omega)), bif_pos (by exact decide_eq_true (by omega)), Int.toNat_natCast, nthL, Option.bind_some, okL_sh, cond_true, lookL, s49 x (by omega) n (by omega)]
  simp only [Option.bind_some, ok_bool, cond_true, toBool_bool, shapeds]
  cases hx2 : shaped x with
  | false => simp
  | true =>
   have ih := l49 r (pre ++ [x]) n q o m s u (by omega) (by omega) (by omega) (by simp at hb ⊢; omega)
   simp only [List.append_assoc, List.singleton_append, List.length_append, List.length_singleton] at ih
   rw [w64 (by simp at hb; omega)]
   simpa using ih
end
mutual
theorem sizeL_wL : ∀ t : Lam, sizeL t ≤ wL t
 | .mk _ _ _ l => by unfold sizeL wL; have := sizeLs_wLs l; omega
theorem sizeLs_wLs : ∀ l : List Lam, sizeLs l ≤ wLs l
 | [] => by simp [sizeLs, wLs]
 | t :: r => by have := sizeL_wL t; have := sizeLs_wLs r; unfold sizeLs wLs; omega
end
theorem s16 (t : Lam) (ht : wL t ≤ 500000000000) : Ev E (4 * wL t + 5) 16 [encL t] (.bool (validL t)) :=
 Ev.mk fun n hn => by
  have hw := sizeL_wL t
  have h1 := s39 t (by omega) n (by omega)
  have h2 := s40 t ht n (by omega)
  cases t with
  | mk o m t l =>
  cases t with
  | mk s u =>
  rw [encL] at h1 h2 ⊢
  rw [e16, h1]
  simp only [Option.bind_some, ok_tup, oks_cons, ok_int, oks_nil, Bool.and_true, cond_true, tupl_tup, List.headD_cons, List.tail_cons, toInt_int]
  unfold validL
  by_cases c1 : sizeL (.mk o m (.mk s u) l) ≤ 300
  ·rw [bif_pos (by exact decide_eq_true (by omega)), decide_eq_true c1]
   by_cases c2 : depthL (.mk o m (.mk s u) l) ≤ 60
   ·rw [bif_pos (by exact decide_eq_true (by omega)), decide_eq_true c2, h2]
    simp
   ·rw [bif_neg (by exact decide_eq_false (by omega)), decide_eq_false c2]
    simp
  ·rw [bif_neg (by exact decide_eq_false (by omega)), decide_eq_false c1]
   simp
theorem s22 (t : Lam) (ht : wL t ≤ 500000000000) : Ev E (4 * wL t + 6) 22 [encL t] (.bool (validL t)) :=
 Ev.mk fun n hn => by
  have hw := sizeL_wL t
  have h1 := s14 t (by omega) n (by omega)
  have h2 := s49 t ht n (by omega)
  cases t with
  | mk o m t l =>
  cases t with
  | mk s u =>
  rw [encL] at h1 h2 ⊢
  rw [e22, h1]
  simp only [Option.bind_some, ok_tup, oks_cons, ok_int, oks_nil, Bool.and_true, cond_true, tupl_tup, List.headD_cons, List.tail_cons, toInt_int]
  unfold validL
  by_cases c1 : sizeL (.mk o m (.mk s u) l) ≤ 300
  ·rw [bif_pos (by exact decide_eq_true (by omega)), decide_eq_true c1]
   by_cases c2 : depthL (.mk o m (.mk s u) l) ≤ 60
   ·rw [bif_pos (by exact decide_eq_true (by omega)), decide_eq_true c2, h2]
    simp
   ·rw [bif_neg (by exact decide_eq_false (by omega)), decide_eq_false c2]
    simp
  ·rw [bif_neg (by exact decide_eq_false (by omega)), decide_eq_false c1]
   simp
end Go.Proofs.Cw.Si
end

/-
  SIMPLE, specs 6: copies.
-/
section
namespace Go.Proofs.Cw.Si
open Go.Proofs
theorem firstL (l : List Lam) : firstOk (Sh.agg [Sh.int IntKind.i64, Sh.int IntKind.i64, Sh.str, Sh.slc, Sh.slc]) (encLs l) = true := by
 cases l with
 | nil => rfl
 | cons t r =>
  cases t with
  | mk o m t l => cases t; rfl
end Go.Proofs.Cw.Si
end

/-
  SIMPLE, specs 9: terms without types.
-/
section
namespace Go.Proofs.Cw.Si
open Go.Proofs
theorem setN_app {α : Type} (x y : α) (r : List α) : ∀ (l : List α), setN (l ++ x :: r) l.length y = l ++ y :: r
 | [] => rfl
 | z :: l => by
  show z :: setN (l ++ x :: r) l.length y = z :: (l ++ y :: r)
  rw [setN_app x y r l]
end Go.Proofs.Cw.Si
end

/-
  SIMPLE, specs 12: how heavy terms are.
-/
section
namespace Go.Proofs.Cw.Si
open Go.Proofs
mutual
theorem l35 : ∀ (r : List Ty), sizeTs r ≤ 100000000 → ∀ (pre : List Ty) (lim a : Int), (0 ≤ lim ∧ lim ≤ 1000000) → (0 ≤ a ∧ a ≤ lim + 1 + sizeTs pre) → sizeTs (pre ++ r) ≤ 100000000 → (a ≤ lim → a = sizeTs pre) →
  ∃ (c : Nat) (x : Int), (∀ n, c ≤ n → ∀ q, r.length < q → L35_0 n q (encTs (pre ++ r)) lim a (pre.length : Nat) = some (I x)) ∧ 0 ≤ x ∧ x ≤ lim + 1 + sizeTs (pre ++ r) ∧ (x ≤ lim → x = sizeTs (pre ++ r))
 | [], _, pre, lim, a, hlim, ha, hp, he => ⟨0, a, fun n hn q hq => by
   obtain ⟨q, rfl⟩ : ∃ k, q = k + 1 := ⟨q - 1, by omega⟩
   rw [show q + 1 = Nat.succ q from rfl, l35_0, bif_neg (by rw [lenT]; simp)], ha.1, by simpa using ha.2, by simpa using he⟩
 | x0 :: r, hw, pre, lim, a, hlim, ha, hp, he => by
  have t14x := t14 x0
  cases x0 with
  | mk s l =>
  simp only [sizeTs, sizeT] at hw
  have hpa : ∀ (a b : List Ty), sizeTs (a ++ b) = sizeTs a + sizeTs b := by
   intro a b
   induction a with
   | nil => simp [sizeTs]
   | cons x a ih => simp only [List.cons_append, sizeTs, ih]; omega
  have hlen : (pre ++ Ty.mk s l :: r).length = pre.length + (r.length + 1) := by simp
  have hl2 := len_sizeTs (pre ++ Ty.mk s l :: r)
  rw [hlen] at hl2
  have hall : sizeTs (pre ++ Ty.mk s l :: r) = sizeTs pre + (1 + sizeTs l) + sizeTs r := by rw [hpa]; simp only [sizeTs, sizeT]; omega
  have hpp : sizeTs (pre ++ [Ty.mk s l]) = sizeTs pre + (1 + sizeTs l) := by rw [hpa]; simp only [sizeTs, sizeT]; omega
  have hpl : pre.length < (pre ++ Ty.mk s l :: r).length := by simp
  have hok : Sh.ok (Sh.agg [Sh.str, Sh.slc]) (Tree.agg [Tree.str s, Tree.slc (encTs l)]) = true := okT_sh (.mk s l)
  by_cases c : a ≤ lim
  ·by_cases c3 : (s.length : Int) > 100
   ·refine ⟨0, lim + 1, fun n hn q hq => ?_, by omega, by omega, fun h => by omega⟩
    obtain ⟨q, rfl⟩ : ∃ k, q = k + 1 := ⟨q - 1, by simp at hq; omega⟩
    rw [show q + 1 = Nat.succ q from rfl, l35_0, bif_pos (by rw [lenT]; exact decide_eq_true (by omega)), bif_pos (by exact decide_eq_true c), bif_pos (by exact decide_eq_true (by omega)), Int.toNat_natCast, nthT, Option.bind_some, okT_sh, cond_true]
    simp only [encT, cs_agg, List.headD_cons, List.tail_cons, toStr_str, elems_slc]
    rw [bif_pos (by exact decide_eq_true c3), w64 (by omega)]
   ·obtain ⟨c1, x, hx, k1, k2, k3⟩ := t14x (by unfold sizeT; omega) (lim - a) (by omega)
    simp only [Ty.parts] at hx k2 k3
    obtain ⟨c2, y, hy, j1, j2, j3⟩ := l35 r (by omega) (pre ++ [Ty.mk s l]) lim (a + 1 + x) hlim ⟨by omega, by rw [hpp]; omega⟩ (by simpa using hp) (fun hle => by rw [hpp]; have := k3 (by omega); have := he c; omega)
    refine ⟨c1 + c2, y, fun n hn q hq => ?_, j1, by simpa using j2, by simpa using j3⟩
    obtain ⟨q, rfl⟩ : ∃ k, q = k + 1 := ⟨q - 1, by simp at hq; omega⟩
    rw [show q + 1 = Nat.succ q from rfl, l35_0, bif_pos (by rw [lenT]; exact decide_eq_true (by omega)), bif_pos (by exact decide_eq_true c), bif_pos (by exact decide_eq_true (by omega)), Int.toNat_natCast, nthT, Option.bind_some, okT_sh, cond_true]
    simp only [encT, cs_agg, List.headD_cons, List.tail_cons, toStr_str, elems_slc]
    rw [bif_neg (by exact decide_eq_false c3), bif_pos (by exact decide_eq_true (by omega)), Option.bind_some, hok, cond_true]
    simp only [cs_agg, List.headD_cons, List.tail_cons, toStr_str, elems_slc]
    rw [w64 (x := lim - a) (by omega), hx n (by omega)]
    simp only [Option.bind_some, ok_int, cond_true, toInt_int]
    rw [w64 (x := a + 1) (by omega), w64 (x := a + 1 + x) (by omega), w64 (by omega)]
    have e := hy n (by omega) q (by simp at hq; omega)
    simpa using e
  ·refine ⟨0, a, fun n hn q hq => ?_, ha.1, by rw [hall]; omega, fun h => absurd h c⟩
   obtain ⟨q, rfl⟩ : ∃ k, q = k + 1 := ⟨q - 1, by simp at hq; omega⟩
   rw [show q + 1 = Nat.succ q from rfl, l35_0, bif_pos (by rw [lenT]; exact decide_eq_true (by omega)), bif_neg (by exact decide_eq_false c)]
theorem t14 : ∀ (t : Ty), sizeT t ≤ 100000000 → ∀ lim : Int, (0 ≤ lim ∧ lim ≤ 1000000) → ∃ (c : Nat) (x : Int), Ev E c 35 [.slc (encTs t.parts), I lim] (I x) ∧ 0 ≤ x ∧ x ≤ lim + 1 + sizeTs t.parts ∧ (x ≤ lim → x = sizeTs t.parts)
 | .mk s l, hw, lim, hlim => by
  have hw' : sizeTs l ≤ 100000000 := by unfold sizeT at hw; omega
  obtain ⟨c, x, hx, k1, k2, k3⟩ := l35 l hw' [] lim 0 hlim (by simp [sizeTs]; omega) (by simpa using hw') (fun _ => by simp [sizeTs])
  refine ⟨c + l.length + 3, x, Ev.mk fun n hn => ?_, k1, by simpa [Ty.parts, Lam.parts] using k2, by simpa [Ty.parts, Lam.parts] using k3⟩
  have hx := hx n (by omega) n (by omega)
  show evQ E n 35 [.slc (encTs l), I lim] = some (I x)
  rw [e35]
  simpa using hx
end
theorem s35 : ∀ (l : List Ty), sizeTs l ≤ 100000000 → ∀ lim : Int, (0 ≤ lim ∧ lim ≤ 1000000) → ∃ (c : Nat) (x : Int), Ev E c 35 [.slc (encTs l), I lim] (I x) ∧ 0 ≤ x ∧ x ≤ lim + 1 + sizeTs l ∧ (x ≤ lim → x = sizeTs l)
 | l, hw, lim, hlim => by
  obtain ⟨c, x, hx, k1, k2, k3⟩ := l35 l hw [] lim 0 hlim (by simp [sizeTs]; omega) (by simpa using hw) (fun _ => by simp [sizeTs])
  refine ⟨c + l.length + 3, x, Ev.mk fun n hn => ?_, k1, by simpa using k2, by simpa using k3⟩
  have hx := hx n (by omega) n (by omega)
  rw [e35]
  simpa using hx
mutual
def tyLe (B : Nat) : Lam → Prop
 | .mk _ _ t l => sizeT t ≤ B ∧ tyLes B l
def tyLes (B : Nat) : List Lam → Prop
 | [] => True
 | t :: r => tyLe B t ∧ tyLes B r
end
theorem sizeTs_one (t : Ty) : sizeTs [t] = sizeT t := by simp [sizeTs]
mutual
theorem l13 : ∀ (r : List Lam), wLs r ≤ 50000000 → ∀ (pre : List Lam) (lim a : Int), (-1000000000000 ≤ lim ∧ lim ≤ 1000000000000) → (0 ≤ a ∧ a ≤ (if lim < 0 then 0 else lim) + 1 + 82 * sizeLs pre) → wLs (pre ++ r) ≤ 50000000 → (a ≤ lim → tyLes 80 pre) →
  ∃ (c : Nat) (x : Int), (∀ n, c ≤ n → ∀ q, r.length < q → L13_0 n q (encLs (pre ++ r)) lim a (pre.length : Nat) = some (I x)) ∧ 0 ≤ x ∧ x ≤ (if lim < 0 then 0 else lim) + 1 + 82 * sizeLs (pre ++ r) ∧ (x ≤ lim → tyLes 80 (pre ++ r))
 | [], _, pre, lim, a, hlim, ha, hp, he => ⟨0, a, fun n hn q hq => by
   obtain ⟨q, rfl⟩ : ∃ k, q = k + 1 := ⟨q - 1, by omega⟩
   rw [show q + 1 = Nat.succ q from rfl, l13_0, bif_neg (by rw [lenL]; simp)], ha.1, by simpa using ha.2, by simpa using he⟩
 | x0 :: r, hw, pre, lim, a, hlim, ha, hp, he => by
  have t37x := t37 x0
  cases x0 with
  | mk o m t l =>
  simp only [wLs, wL] at hw
  have hpa : ∀ (a b : List Lam), sizeLs (a ++ b) = sizeLs a + sizeLs b := by
   intro a b
   induction a with
   | nil => simp [sizeLs]
   | cons x a ih => simp only [List.cons_append, sizeLs, ih]; omega
  have hta : ∀ (a b : List Lam), tyLes 80 (a ++ b) ↔ tyLes 80 a ∧ tyLes 80 b := by
   intro a b
   induction a with
   | nil => simp [tyLes]
   | cons x a ih => simp only [List.cons_append, tyLes, ih]; exact ⟨fun h => ⟨⟨h.1, h.2.1⟩, h.2.2⟩, fun h => ⟨h.1.1, h.1.2, h.2⟩⟩
  have hsw : ∀ a : List Lam, sizeLs a ≤ wLs a := by
   intro a
   have : ∀ (x : Lam), sizeL x ≤ wL x := fun x => sizeL_wL x
   induction a with
   | nil => simp [sizeLs, wLs]
   | cons x a ih => have := this x; simp only [sizeLs, wLs]; omega
  have hlen : (pre ++ Lam.mk o m t l :: r).length = pre.length + (r.length + 1) := by simp
  have hl2 := len_sizeLs (pre ++ Lam.mk o m t l :: r)
  have hs3 := hsw (pre ++ Lam.mk o m t l :: r)
  rw [hlen] at hl2
  have hall : sizeLs (pre ++ Lam.mk o m t l :: r) = sizeLs pre + (1 + sizeLs l) + sizeLs r := by rw [hpa]; simp only [sizeLs, sizeL]; omega
  have hpp : sizeLs (pre ++ [Lam.mk o m t l]) = sizeLs pre + (1 + sizeLs l) := by rw [hpa]; simp only [sizeLs, sizeL]; omega
  have hpl : pre.length < (pre ++ Lam.mk o m t l :: r).length := by simp
  by_cases c : a ≤ lim
  ·have hl0 : ¬ lim < 0 := by omega
   rw [if_neg hl0] at ha ⊢
   obtain ⟨c0, x0, hx0, k1, k2, k3⟩ := s35 [t] (by rw [sizeTs_one]; omega) 80 (by omega)
   have hT : Tree.agg [Tree.str (Tree.toStr (List.headD (List.tail (List.tail (Tree.cs (encL (Lam.mk o m t l))))) (Tree.bool false))), Tree.slc (Tree.elems (List.headD (List.tail (List.tail (List.tail (Tree.cs (encL (Lam.mk o m t l)))))) (Tree.bool false)))] = encT t := by
    cases t with
    | mk s u => rfl
   have hL : Tree.elems (List.headD (List.tail (List.tail (List.tail (List.tail (Tree.cs (encL (Lam.mk o m t l))))))) (Tree.bool false)) = encLs l := by
    cases t with
    | mk s u => rfl
   have hx0' : ∀ n, c0 ≤ n → evP (Tab.env tab) n 35 [.slc [encT t], I 80] = some (I x0) := fun n hn => by simpa [encTs] using hx0 n hn
   rw [sizeTs_one] at k2 k3
   have start : ∀ n q, c0 ≤ n → L13_0 n (q + 1) (encLs (pre ++ Lam.mk o m t l :: r)) lim a (pre.length : Nat) =
     (bif decide (x0 > 80) then some (I (lim + 1)) else
      (evP (Tab.env tab) n 13 [.slc (encLs l), I (IntKind.wrap .i64 (lim - (a + 1 + x0)))]).bind fun y_4 =>
       bif Sh.ok (Sh.int .i64) y_4 then L13_0 n q (encLs (pre ++ Lam.mk o m t l :: r)) lim (IntKind.wrap .i64 (a + 1 + x0 + Tree.toInt y_4)) (IntKind.wrap .i64 ((pre.length : Nat) + 1)) else none) := by
    intro n q hn
    rw [show q + 1 = Nat.succ q from rfl, l13_0, bif_pos (by rw [lenL]; exact decide_eq_true (by omega)), bif_pos (by exact decide_eq_true c), bif_pos (by exact decide_eq_true (by omega)), Int.toNat_natCast, nthL]
    simp only [Option.bind_some, okL_sh, cond_true]
    rw [hT, hx0' n hn]
    simp only [Option.bind_some, ok_int, cond_true, toInt_int]
    rw [bif_pos (c := decide (0 ≤ ((pre.length : Nat) : Int))) (by exact decide_eq_true (by omega)), hL, w64 (x := lim + 1) (by omega), w64 (x := a + 1) (by omega), w64 (x := a + 1 + x0) (by omega)]
    rw [bif_pos (c := decide (0 ≤ ((pre.length : Nat) : Int))) (by exact decide_eq_true (by omega))]
    rfl
   by_cases c3 : x0 > 80
   ·refine ⟨c0, lim + 1, fun n hn q hq => ?_, by omega, by omega, fun h => by omega⟩
    obtain ⟨q, rfl⟩ : ∃ k, q = k + 1 := ⟨q - 1, by simp at hq; omega⟩
    rw [start n q hn, bif_pos (by exact decide_eq_true c3)]
   ·have hst := k3 (by omega)
    obtain ⟨c1, x, hx, j1, j2, j3⟩ := t37x (by unfold wL; omega) (lim - (a + 1 + x0)) (by omega)
    simp only [Lam.parts] at hx j2 j3
    have hsl := hsw l
    have j2' : a + 1 + x0 + x ≤ lim + 82 * (1 + sizeLs l) := by
     split at j2 <;> omega
    obtain ⟨c2, y, hy, i1, i2, i3⟩ := l13 r (by omega) (pre ++ [Lam.mk o m t l]) lim (a + 1 + x0 + x) hlim ⟨by omega, by rw [if_neg hl0, hpp]; omega⟩ (by simpa using hp) (fun hle => by
     rw [hta]
     exact ⟨he c, by unfold tyLes tyLe; exact ⟨⟨by omega, j3 (by omega)⟩, trivial⟩⟩)
    rw [if_neg hl0] at i2
    refine ⟨c0 + c1 + c2, y, fun n hn q hq => ?_, i1, by simpa using i2, by simpa using i3⟩
    obtain ⟨q, rfl⟩ : ∃ k, q = k + 1 := ⟨q - 1, by simp at hq; omega⟩
    rw [start n q (by omega), bif_neg (by exact decide_eq_false c3), w64 (x := lim - (a + 1 + x0)) (by omega), hx n (by omega)]
    simp only [Option.bind_some, ok_int, cond_true, toInt_int]
    rw [w64 (x := a + 1 + x0 + x) (by omega), w64 (by omega)]
    have e := hy n (by omega) q (by simp at hq; omega)
    simpa using e
  ·refine ⟨0, a, fun n hn q hq => ?_, ha.1, by rw [hall]; split at ha <;> omega, fun h => absurd h c⟩
   obtain ⟨q, rfl⟩ : ∃ k, q = k + 1 := ⟨q - 1, by simp at hq; omega⟩
   rw [show q + 1 = Nat.succ q from rfl, l13_0, bif_pos (by rw [lenL]; exact decide_eq_true (by omega)), bif_neg (by exact decide_eq_false c)]
theorem t37 : ∀ (t : Lam), wL t ≤ 50000000 → ∀ lim : Int, (-1000000000000 ≤ lim ∧ lim ≤ 1000000000000) → ∃ (c : Nat) (x : Int), Ev E c 13 [.slc (encLs t.parts), I lim] (I x) ∧ 0 ≤ x ∧ x ≤ (if lim < 0 then 0 else lim) + 1 + 82 * sizeLs t.parts ∧ (x ≤ lim → tyLes 80 t.parts)
 | .mk o m t l, hw, lim, hlim => by
  have hw' : wLs l ≤ 50000000 := by unfold wL at hw; omega
  obtain ⟨c, x, hx, k1, k2, k3⟩ := l13 l hw' [] lim 0 hlim ⟨by omega, by simp only [sizeLs]; split <;> omega⟩ (by simpa using hw') (fun _ => by simp [tyLes])
  refine ⟨c + l.length + 3, x, Ev.mk fun n hn => ?_, k1, by simpa [Ty.parts, Lam.parts] using k2, by simpa [Ty.parts, Lam.parts] using k3⟩
  have hx := hx n (by omega) n (by omega)
  show evQ E n 13 [.slc (encLs l), I lim] = some (I x)
  rw [e13]
  simpa using hx
end
theorem s13 : ∀ (l : List Lam), wLs l ≤ 50000000 → ∀ lim : Int, (-1000000000000 ≤ lim ∧ lim ≤ 1000000000000) → ∃ (c : Nat) (x : Int), Ev E c 13 [.slc (encLs l), I lim] (I x) ∧ 0 ≤ x ∧ x ≤ (if lim < 0 then 0 else lim) + 1 + 82 * sizeLs l ∧ (x ≤ lim → tyLes 80 l)
 | l, hw, lim, hlim => by
  obtain ⟨c, x, hx, k1, k2, k3⟩ := l13 l hw [] lim 0 hlim ⟨by omega, by simp only [sizeLs]; split <;> omega⟩ (by simpa using hw) (fun _ => by simp [tyLes])
  refine ⟨c + l.length + 3, x, Ev.mk fun n hn => ?_, k1, by simpa using k2, by simpa using k3⟩
  have hx := hx n (by omega) n (by omega)
  rw [e13]
  simpa using hx
theorem s5 (ts : List Lam) (hw : wLs ts ≤ 50000000) : ∃ c, ∃ b : Bool, Ev E c 5 [.slc (encLs ts)] (.bool b) ∧ (b = false → ∀ t, t ∈ ts → sizeL t ≤ 120 ∧ tyLe 80 t) := by
 have loop : ∀ (r pre : List Lam), wLs (pre ++ r) ≤ 50000000 → ∃ c, ∃ b : Bool, (∀ n, c ≤ n → ∀ q, r.length < q → L5_0 n q (encLs (pre ++ r)) (pre.length : Nat) = some (.bool b)) ∧ (b = false → ∀ t, t ∈ r → sizeL t ≤ 120 ∧ tyLe 80 t) := by
  intro r
  induction r with
  | nil =>
   intro pre hp
   refine ⟨0, false, fun n hn q hq => ?_, fun _ t ht => by simp at ht⟩
   obtain ⟨q, rfl⟩ : ∃ k, q = k + 1 := ⟨q - 1, by omega⟩
   rw [show q + 1 = Nat.succ q from rfl, l5_0, bif_neg (by rw [lenL]; simp)]
  | cons x r ih =>
   intro pre hp
   have hpa : ∀ (a b : List Lam), wLs (a ++ b) = wLs a + wLs b := by
    intro a b
    induction a with
    | nil => simp [wLs]
    | cons x a ih => simp only [List.cons_append, wLs, ih]; omega
   have hl := len_wLs (pre ++ x :: r)
   rw [hpa] at hp
   simp only [wLs] at hp
   have hlen : (pre ++ x :: r).length = pre.length + (r.length + 1) := by simp
   rw [hpa] at hl
   simp only [wLs] at hl
   rw [hlen] at hl
   have hsx := sizeL_wL x
   have h38 := s14 x (by omega)
   obtain ⟨c1, y, hy, y1, y2, y3⟩ := s13 [x] (by simp only [wLs]; omega) 720 (by omega)
   obtain ⟨c2, b2, h2, h2'⟩ := ih (pre ++ [x]) (by rw [List.append_assoc, List.singleton_append, hpa]; simp only [wLs]; omega)
   have hdrop : List.drop pre.length (List.take (pre.length + 1) (encLs (pre ++ x :: r))) = encLs [x] := by
    have : encLs (pre ++ x :: r) = encLs pre ++ (encL x :: encLs r) := by simp [encLs_map]
    rw [this]
    have hl3 := lenL pre
    rw [List.take_append, List.drop_append]
    simp [hl3, encLs]
   have start : ∀ n q, c1 + 2 * sizeL x + 2 ≤ n → L5_0 n (q + 1) (encLs (pre ++ x :: r)) (pre.length : Nat) =
     (bif decide (y > 720) then some (.bool true) else bif decide ((sizeL x : Int) > 120) then some (.bool true) else L5_0 n q (encLs (pre ++ x :: r)) ((pre.length + 1 : Nat) : Int)) := by
    intro n q hn
    rw [show q + 1 = Nat.succ q from rfl, l5_0, bif_pos (by rw [lenL]; exact decide_eq_true (by omega)), w64 (by omega), lenL, hlen, bif_pos (by rw [decide_eq_true (by omega), decide_eq_true (by omega), decide_eq_true (by omega)]; rfl)]
    rw [show (((pre.length : Nat) : Int) + 1) = ((pre.length + 1 : Nat) : Int) by omega, Int.toNat_natCast, Int.toNat_natCast, hdrop, firstL, cond_true, hy n (by omega)]
    simp only [Option.bind_some, ok_int, cond_true, toInt_int]
    rw [bif_pos (c := decide (0 ≤ ((pre.length : Nat) : Int))) (by exact decide_eq_true (by omega)), nthL, Option.bind_some, okL_sh, cond_true, lookL, h38 n (by omega)]
    simp only [Option.bind_some, ok_tup, oks_cons, ok_int, oks_nil, Bool.and_true, cond_true, tupl_tup, List.headD_cons, List.tail_cons, toInt_int]
    rfl
   by_cases d1 : y > 720
   ·refine ⟨c1 + 2 * sizeL x + 2, true, fun n hn q hq => ?_, fun h => by cases h⟩
    obtain ⟨q, rfl⟩ : ∃ k, q = k + 1 := ⟨q - 1, by simp at hq; omega⟩
    rw [start n q hn, bif_pos (by exact decide_eq_true d1)]
   ·by_cases d2 : (sizeL x : Int) > 120
    ·refine ⟨c1 + 2 * sizeL x + 2, true, fun n hn q hq => ?_, fun h => by cases h⟩
     obtain ⟨q, rfl⟩ : ∃ k, q = k + 1 := ⟨q - 1, by simp at hq; omega⟩
     rw [start n q hn, bif_neg (by exact decide_eq_false d1), bif_pos (by exact decide_eq_true d2)]
    ·refine ⟨c1 + c2 + 2 * sizeL x + 2, b2, fun n hn q hq => ?_, fun hb t ht => ?_⟩
     ·obtain ⟨q, rfl⟩ : ∃ k, q = k + 1 := ⟨q - 1, by simp at hq; omega⟩
      rw [start n q (by omega), bif_neg (by exact decide_eq_false d1), bif_neg (by exact decide_eq_false d2)]
      have e := h2 n (by omega) q (by simp at hq; omega)
      simpa using e
     ·rcases List.mem_cons.1 ht with rfl | ht
      ·exact ⟨by omega, (y3 (by omega)).1⟩
      ·exact h2' hb t ht
 obtain ⟨c, b, h, h'⟩ := loop ts [] (by simpa using hw)
 refine ⟨c + ts.length + 3, b, Ev.mk fun n hn => ?_, h'⟩
 have := h n (by omega) n (by omega)
 rw [e5]
 simpa using this
end Go.Proofs.Cw.Si
end

/-
  SIMPLE: steps through equations.
-/
section
namespace Go.Proofs.Cw.Si
open Go.Proofs
theorem step_b {α β : Type} {x : Option α} {y : α} {f : α → Option β} {r : Option β} (h : x = some y) (k : f y = r) : x.bind f = r := by rw [h]; exact k
theorem step_t {α : Type} {c : Bool} {x y r : α} (h : c = true) (k : x = r) : (bif c then x else y) = r := by rw [h]; exact k
theorem step_f {α : Type} {c : Bool} {x y r : α} (h : c = false) (k : y = r) : (bif c then x else y) = r := by rw [h]; exact k
theorem encL_eta (t : Lam) : encL t = .agg [I t.op, I t.num, .str t.ty.name, .slc (encTs t.ty.parts), .slc (encLs t.parts)] := by
 cases t with
 | mk o m ty l => cases ty; rfl
theorem sizeL_mk (o m : Int) (t : Ty) (l : List Lam) : sizeL (.mk o m t l) = 1 + sizeLs l := rfl
abbrev shT : Sh := Sh.agg [Sh.str, Sh.slc]
end Go.Proofs.Cw.Si
end

/-
  THE INFERER'S WORLD 1: types as objects, what unknowns stand for as a map; find.
-/
section
namespace Go.Proofs.Cw.Si
open Go.Proofs
def Nd.obj : Nd → WObj
 | .unk k => .cells [.str [], I k, .slc []]
 | .nat => .cells [.str sNat, I 0, .slc []]
 | .bin p a b => .cells [.str (if p then sTo else sPair), I 0, .slc [.wp a 0, .wp b 0]]
def Nd.name : Nd → List UInt8
 | .unk _ => []
 | .nat => sNat
 | .bin p _ _ => if p then sTo else sPair
def Nd.leaf : Nd → Int
 | .unk k => k
 | _ => 0
def Nd.kids : Nd → List Tree
 | .bin _ a b => [.wp a 0, .wp b 0]
 | _ => []
theorem Nd.obj_eq (nd : Nd) : nd.obj = .cells [.str nd.name, I nd.leaf, .slc nd.kids] := by cases nd <;> rfl
def bdM (es : Bd) : List (Tree × Tree) := es.map fun p => (I (p.1 : Nat), .wp p.2 0)
structure Wok (G : World') (f m : Nat) (N : NT) (next : Nat) (es : Bd) : Prop where
 hf : nth G f = some (.cells [I next, .wm m])
 hm : nth G m = some (.map (bdM es))
 hN : ∀ i nd, N i = some nd → nth G i = some nd.obj
 le : ∀ i k, N i = some (.unk k) → k ≤ next
 tot : Tot N es
 tg : ∀ k j, look es k = some j → ∃ nd, N j = some nd
 src : ∀ k j, look es k = some j → ∃ i, N i = some (.unk k)
 kid : ∀ i p a b, N i = some (.bin p a b) → (∃ x, N a = some x) ∧ ∃ y, N b = some y
 nx : next ≤ 1000000
theorem wcell_of {G : World'} {i : Nat} {cs : List Tree} (h : nth G i = some (.cells cs)) (j : Nat) : wcell G i j = nth cs j := by
 unfold wcell; rw [h]
theorem mfind_to (k : Nat) : ∀ (es : Bd) (i : Nat), (look es k = none → mfind .int (I k) (bdM es) i = some none) ∧ ∀ j, look es k = some j → ∃ p, mfind .int (I k) (bdM es) i = some (some (p, .wp j 0))
 | [], i => ⟨fun _ => rfl, fun j h => by cases h⟩
 | (x, y) :: r, i => by
  have e : keyEq .int (I k) (I x) = some (((k : Nat) : Int) == ((x : Nat) : Int)) := rfl
  obtain ⟨h1, h2⟩ := mfind_to k r (i + 1)
  have hb : (((k : Nat) : Int) == ((x : Nat) : Int)) = decide (k = x) := by
   by_cases h : k = x
   ·simp [h]
   ·simp [h]; omega
  have step : mfind .int (I k) (bdM ((x, y) :: r)) i = match decide (k = x) with
    | true => some (some (i, .wp y 0))
    | false => mfind .int (I k) (bdM r) (i + 1) := by
   show (match keyEq .int (I k) (I x) with | some true => _ | some false => _ | none => _) = _
   rw [e, hb]
   cases decide (k = x) <;> rfl
  rw [step]
  simp only [look]
  by_cases h : x = k
  ·rw [if_pos h]
   simp only [h, decide_true]
   exact ⟨fun c => (by cases c), fun j hj => by cases hj; exact ⟨i, rfl⟩⟩
  ·rw [if_neg h]
   simp only [show decide (k = x) = false from decide_eq_false fun c => h c.symm]
   exact ⟨h1, h2⟩
theorem wlook_none {G : World'} {m k : Nat} {es : Bd} (hm : nth G m = some (.map (bdM es))) (h : look es k = none) : wlook .int G m (I k) .nilp = some (false, .nilp) := by
 unfold wlook; simp only [hm, (mfind_to k es 0).1 h]
theorem wlook_some {G : World'} {m k j : Nat} {es : Bd} (hm : nth G m = some (.map (bdM es))) (h : look es k = some j) : wlook .int G m (I k) .nilp = some (true, .wp j 0) := by
 obtain ⟨p, hp⟩ := (mfind_to k es 0).2 j h
 unfold wlook; simp only [hm, hp]
section
variable {G : World'} {f m : Nat} {N : NT} {next : Nat} {es : Bd}
theorem Wok.cell (w : Wok G f m N next es) {i : Nat} {nd : Nd} (h : N i = some nd) : wcell G i 0 = some (.str nd.name) ∧ wcell G i 1 = some (I nd.leaf) ∧ wcell G i 2 = some (.slc nd.kids) := by
 have := w.hN i nd h
 rw [Nd.obj_eq] at this
 exact ⟨wcell_of this 0, wcell_of this 1, wcell_of this 2⟩
theorem Wok.fcell (w : Wok G f m N next es) : wcell G f 0 = some (I next) ∧ wcell G f 1 = some (.wm m) := ⟨wcell_of w.hf 0, wcell_of w.hf 1⟩
theorem l47 (w : Wok G f m N next es) {t r : Nat} (h : Find N es t r) : ∃ c, ∀ n q, c ≤ q → L47_0 n q f t G = some (.wp r 0, G) := by
 obtain ⟨f0, f1⟩ := w.fcell
 induction h with
 | @free i k h l =>
  obtain ⟨c0, c1, _⟩ := w.cell h
  refine ⟨1, fun n q hq => ?_⟩
  obtain ⟨q, rfl⟩ : ∃ p, q = Nat.succ p := ⟨q - 1, by omega⟩
  rw [v47_0]
  refine step_b c0 (step_t rfl (step_t rfl (step_b f1 (step_t rfl (step_b c1 (step_t rfl ?_))))))
  exact step_b (wlook_none w.hm l) rfl
 | @link i k j r h l _ ih =>
  obtain ⟨c0, c1, _⟩ := w.cell h
  obtain ⟨c, hc⟩ := ih
  refine ⟨c + 1, fun n q hq => ?_⟩
  obtain ⟨q, rfl⟩ : ∃ p, q = Nat.succ p := ⟨q - 1, by omega⟩
  rw [v47_0]
  refine step_b c0 (step_t rfl (step_t rfl (step_b f1 (step_t rfl (step_b c1 (step_t rfl ?_))))))
  exact step_b (wlook_some w.hm l) (step_t rfl (step_t rfl (hc n q (by omega))))
 | @nat i h =>
  obtain ⟨c0, c1, _⟩ := w.cell h
  refine ⟨1, fun n q hq => ?_⟩
  obtain ⟨q, rfl⟩ : ∃ p, q = Nat.succ p := ⟨q - 1, by omega⟩
  rw [v47_0]
  exact step_b c0 (step_t rfl (step_f rfl rfl))
 | @bin i p a b h =>
  obtain ⟨c0, c1, _⟩ := w.cell h
  refine ⟨1, fun n q hq => ?_⟩
  obtain ⟨q, rfl⟩ : ∃ p, q = Nat.succ p := ⟨q - 1, by omega⟩
  rw [v47_0]
  exact step_b c0 (step_t rfl (step_f (by cases p <;> rfl) rfl))
theorem s47 (w : Wok G f m N next es) {t r : Nat} (h : Find N es t r) : ∃ c, EvW E c 47 [.wp f 0, .wp t 0] G (.wp r 0) G := by
 obtain ⟨c, hc⟩ := l47 w h
 refine ⟨c + 1, EvW.mk fun n hn => ?_⟩
 rw [w47]
 exact hc n n hn
end
end Go.Proofs.Cw.Si
end

/-
  THE INFERER'S WORLD 2: within.
-/
section
namespace Go.Proofs.Cw.Si
open Go.Proofs
theorem nth_set_ne {α : Type} (G : List α) {i j : Nat} (o : α) (h : i ≠ j) : nth (setN G i o) j = nth G j := by
 rw [nth_eq, nth_eq, setN_eq, List.getElem?_set, if_neg h]
theorem nth_set_same {α : Type} {G : List α} {i : Nat} {x : α} (o : α) (h : nth G i = some x) : nth (setN G i o) i = some o := by
 rw [nth_eq] at h
 have := (List.getElem?_eq_some_iff.1 h).1
 rw [nth_eq, setN_eq, List.getElem?_set, if_pos rfl, if_pos this]
theorem set_set {α : Type} (G : List α) (i : Nat) (a b : α) : setN (setN G i a) i b = setN G i b := by
 simp only [setN_eq, List.set_set]
theorem set_self {α : Type} {G : List α} {i : Nat} {x : α} (h : nth G i = some x) : setN G i x = G := by
 rw [nth_eq] at h
 rw [setN_eq]
 apply List.ext_getElem?
 intro j
 rw [List.getElem?_set]
 by_cases e : i = j
 ·subst e
  rw [if_pos rfl, if_pos (List.getElem?_eq_some_iff.1 h).1, h]
 ·rw [if_neg e]
def seenM (S : List Nat) : List (Tree × Tree) := S.map fun x => (.wp x 0, .bool true)
theorem mfind_seen (r : Nat) : ∀ (S : List Nat) (i : Nat), (r ∉ S → mfind .ptr (.wp r 0) (seenM S) i = some none) ∧ (r ∈ S → ∃ p, mfind .ptr (.wp r 0) (seenM S) i = some (some (p, .bool true)))
 | [], i => ⟨fun _ => rfl, fun h => by simp at h⟩
 | x :: S, i => by
  obtain ⟨h1, h2⟩ := mfind_seen r S (i + 1)
  have step : mfind .ptr (.wp r 0) (seenM (x :: S)) i = match Nat.beq r x with
    | true => some (some (i, .bool true))
    | false => mfind .ptr (.wp r 0) (seenM S) (i + 1) := by
   show (match some (Nat.beq r x && Nat.beq 0 0) with | some true => _ | some false => _ | none => _) = _
   cases Nat.beq r x <;> rfl
  rw [step]
  by_cases h : r = x
  ·subst h
   rw [Nat.beq_refl]
   exact ⟨fun c => absurd (List.mem_cons_self) c, fun _ => ⟨i, rfl⟩⟩
  ·have hb : Nat.beq r x = false := by
    cases hq : Nat.beq r x with
    | false => rfl
    | true => exact absurd (Nat.eq_of_beq_eq_true hq) h
   rw [hb]
   exact ⟨fun c => h1 fun k => c (List.mem_cons_of_mem _ k), fun c => h2 ((List.mem_cons.1 c).resolve_left h)⟩
theorem wlook_seen {G : World'} {s r : Nat} {S : List Nat} (hs : nth G s = some (.map (seenM S))) : (r ∉ S → wlook .ptr G s (.wp r 0) (.bool false) = some (false, .bool false)) ∧ (r ∈ S → wlook .ptr G s (.wp r 0) (.bool false) = some (true, .bool true)) := by
 obtain ⟨h1, h2⟩ := mfind_seen r S 0
 refine ⟨fun h => ?_, fun h => ?_⟩
 ·unfold wlook; simp only [hs, h1 h]
 ·obtain ⟨p, hp⟩ := h2 h
  unfold wlook; simp only [hs, hp]
theorem wput_seen {G : World'} {s r : Nat} {S : List Nat} (hs : nth G s = some (.map (seenM S))) (h : r ∉ S) : wput .ptr G s (.wp r 0) (.bool true) = some (setN G s (.map (seenM (S ++ [r])))) := by
 unfold wput
 simp only [hs, (mfind_seen r S 0).1 h]
 simp [seenM]
section
variable {G : World'} {f m : Nat} {N : NT} {next : Nat} {es : Bd}
theorem Wok.set (w : Wok G f m N next es) {s : Nat} (o : WObj) (h1 : s ≠ f) (h2 : s ≠ m) (h3 : N s = none) : Wok (setN G s o) f m N next es where
 hf := by rw [nth_set_ne _ _ h1]; exact w.hf
 hm := by rw [nth_set_ne _ _ h2]; exact w.hm
 hN i nd h := by rw [nth_set_ne _ _ fun e => by rw [e, h] at h3; cases h3]; exact w.hN i nd h
 le := w.le
 tot := w.tot
 tg := w.tg
 src := w.src
 kid := w.kid
 nx := w.nx
abbrev wfn (f k s : Nat) : Tree := .fn 89 [] [.ptr (.wp f 0) 0, .ptr (I (k : Nat)) 0, .ptr (.wm s) 0]
theorem s89 {f k s c x : Nat} {G1 G2 : World'} {v : Bool} (h : EvW E c 81 [.wp f 0, I (k : Nat), .wp x 0, .wm s] G1 (.bool v) G2) : EvW E (c + 1) 89 [.wp x 0, .ptr (.wp f 0) 0, .ptr (I (k : Nat)) 0, .ptr (.wm s) 0] G1 (.bool v) G2 := by
 refine EvW.mk fun n hn => ?_
 rw [w89]
 exact step_b (h n hn) (step_t rfl rfl)
theorem r96 {f k s : Nat} (l : List Tree) (n q j i c : Nat) (v : Bool) (G1 G2 : World') (hi : nth l i = some (.wp j 0)) (hl : i < l.length) (hl2 : l.length ≤ 1000) (h : EvW E c 81 [.wp f 0, I (k : Nat), .wp j 0, .wm s] G1 (.bool v) G2) (hn : c + 1 ≤ n) :
  L96_0 n (Nat.succ q) l f k s (l.length : Nat) (i : Nat) G1 = bif v then some (I (i : Nat), G2) else L96_0 n q l f k s (l.length : Nat) ((i + 1 : Nat) : Int) G2 := by
 rw [v96_0]
 refine step_t (by simp; omega) (step_t (by simp) (step_b (y := .wp j 0) ?_ ?_))
 ·rw [Int.toNat_natCast]; exact hi
 refine step_t rfl ?_
 refine step_b (s89 h n hn) ?_
 refine step_t rfl ?_
 rw [w64 (by omega)]
 rfl
theorem s88 {f k s c : Nat} {l : List Tree} {i : Int} {G1 G2 : World'} (h : EvW E c 96 [.slc l, wfn f k s] G1 (I i) G2) : EvW E (c + 1) 88 [.slc l, wfn f k s] G1 (.bool (decide (i ≥ 0))) G2 := EvW.mk fun n hn => by
 rw [w88]
 exact step_b (h n hn) (step_t rfl rfl)
theorem s88_nil {f k s : Nat} (G1 : World') : EvW E 4 88 [.slc [], wfn f k s] G1 (.bool false) G1 := by
 refine s88 (i := -1) (EvW.mk fun n hn => ?_)
 obtain ⟨n, rfl⟩ : ∃ p, n = Nat.succ p := ⟨n - 1, by omega⟩
 rw [w96, v96_0]
 exact step_f rfl rfl
theorem s88_t {f k s a b ca : Nat} {G1 G2 : World'} (ea : EvW E ca 81 [.wp f 0, I (k : Nat), .wp a 0, .wm s] G1 (.bool true) G2) : EvW E (ca + 5) 88 [.slc [.wp a 0, .wp b 0], wfn f k s] G1 (.bool true) G2 := by
 refine s88 (i := 0) (EvW.mk (c := ca + 3) fun n hn => ?_)
 obtain ⟨q, rfl⟩ : ∃ p, n = Nat.succ p := ⟨n - 1, by omega⟩
 rw [w96]
 exact r96 [.wp a 0, .wp b 0] _ q a 0 ca true G1 G2 rfl (by simp) (by simp) ea (by omega)
theorem z0 : ((0 : Nat) : Int) = 0 := rfl
theorem s88_v {f k s c : Nat} {l : List Tree} {i : Int} {v : Bool} {G1 G2 : World'} (hv : decide (i ≥ 0) = v) (h : ∀ n, c ≤ n → L96_0 n n l f k s (l.length : Nat) 0 G1 = some (I i, G2)) : EvW E (c + 2) 88 [.slc l, wfn f k s] G1 (.bool v) G2 := by
 have h96 : EvW E (c + 1) 96 [.slc l, wfn f k s] G1 (I i) G2 := EvW.mk fun n hn => by rw [w96]; exact h n hn
 have := s88 h96
 rw [hv] at this
 exact this
theorem s88_ft {f k s a b ca cb : Nat} {G1 G2 G3 : World'} (ea : EvW E ca 81 [.wp f 0, I (k : Nat), .wp a 0, .wm s] G1 (.bool false) G2) (eb : EvW E cb 81 [.wp f 0, I (k : Nat), .wp b 0, .wm s] G2 (.bool true) G3) :
  EvW E (ca + cb + 4 + 2) 88 [.slc [.wp a 0, .wp b 0], wfn f k s] G1 (.bool true) G3 := by
 refine s88_v (i := ((1 : Nat) : Int)) (by decide) fun n hn => ?_
 obtain ⟨q, hq⟩ : ∃ p, n = Nat.succ (Nat.succ p) := ⟨n - 2, by omega⟩
 have e1 := r96 (f := f) (k := k) (s := s) [.wp a 0, .wp b 0] n (Nat.succ q) a 0 ca false G1 G2 rfl (by simp) (by simp) ea (by omega)
 have e2 := r96 (f := f) (k := k) (s := s) [.wp a 0, .wp b 0] n q b 1 cb true G2 G3 rfl (by simp) (by simp) eb (by omega)
 rw [cond_false, z0, ← hq] at e1
 rw [cond_true] at e2
 rw [e1]
 exact e2
theorem s88_ff {f k s a b ca cb : Nat} {G1 G2 G3 : World'} (ea : EvW E ca 81 [.wp f 0, I (k : Nat), .wp a 0, .wm s] G1 (.bool false) G2) (eb : EvW E cb 81 [.wp f 0, I (k : Nat), .wp b 0, .wm s] G2 (.bool false) G3) :
  EvW E (ca + cb + 4 + 2) 88 [.slc [.wp a 0, .wp b 0], wfn f k s] G1 (.bool false) G3 := by
 refine s88_v (i := -1) (by decide) fun n hn => ?_
 obtain ⟨q, hq⟩ : ∃ p, n = Nat.succ (Nat.succ (Nat.succ p)) := ⟨n - 3, by omega⟩
 have e1 := r96 (f := f) (k := k) (s := s) [.wp a 0, .wp b 0] n (Nat.succ (Nat.succ q)) a 0 ca false G1 G2 rfl (by simp) (by simp) ea (by omega)
 have e2 := r96 (f := f) (k := k) (s := s) [.wp a 0, .wp b 0] n (Nat.succ q) b 1 cb false G2 G3 rfl (by simp) (by simp) eb (by omega)
 have e3 := v96_0 n q [.wp a 0, .wp b 0] f k s (([Tree.wp a 0, Tree.wp b 0].length : Nat) : Int) ((1 + 1 : Nat) : Int) G3
 rw [cond_false, z0, ← hq] at e1
 rw [cond_false] at e2
 rw [e1, e2, e3]
 exact step_f (by simp) rfl
theorem s81 (k : Nat) {s : Nat} (h1 : s ≠ f) (h2 : s ≠ m) (h3 : N s = none) : ∀ (sz : Nat) {G : World'} {t : Nat} {τ : FT} {S : List Nat}, Wok G f m N next es → Res N es t τ → τ.size ≤ sz → nth G s = some (.map (seenM S)) →
  (∀ x, x ∈ S → ∃ u, Res N es x u ∧ (¬ u.occ k ∨ τ.size < u.size)) →
  ∃ c b S', EvW E c 81 [.wp f 0, I k, .wp t 0, .wm s] G (.bool b) (setN G s (.map (seenM S'))) ∧ (b = true → τ.occ k) ∧ (b = false → ¬ τ.occ k ∧ ∀ x, x ∈ S' → x ∈ S ∨ ∃ u, Res N es x u ∧ ¬ u.occ k)
 | 0, G, t, τ, S, w, hr, hz, hs, hS => by have := τ.size_pos; omega
 | sz + 1, G, t, τ, S, w, hr, hz, hs, hS => by
  obtain ⟨r, hf, hrr, hc⟩ := hr.find
  obtain ⟨c0, h47⟩ := s47 w hf
  rcases hc with ⟨j, hj, hl, rfl⟩ | hc
  ·obtain ⟨e0, e1, _⟩ := w.cell hj
   refine ⟨c0 + 1, ((j : Nat) : Int) == (k : Nat), S, EvW.mk fun n hn => ?_, fun h => ?_, fun h => ⟨fun h' => ?_, fun x hx => .inl hx⟩⟩
   ·rw [w81]
    rw [set_self hs]
    exact step_b (h47 n hn) (step_t rfl (step_b e0 (step_t rfl (step_t rfl (step_b e1 (step_t rfl rfl))))))
   ·show j = k
    have := eq_of_beq h; omega
   ·have e : j = k := h'
    rw [e] at h; simp at h
  ·obtain ⟨nd, hnd, hne⟩ : ∃ nd, N r = some nd ∧ (nd.name == []) = false := by
    rcases hc with ⟨h, _⟩ | ⟨p, a, b, _, _, h, _⟩
    ·exact ⟨_, h, rfl⟩
    ·exact ⟨_, h, by cases p <;> rfl⟩
   obtain ⟨e0, _, _⟩ := w.cell hnd
   obtain ⟨l1, l2⟩ := wlook_seen (r := r) hs
   by_cases hm : r ∈ S
   ·obtain ⟨u, hu, ho⟩ := hS r hm
    have := hu.det hrr
    subst this
    have ho : ¬ u.occ k := ho.resolve_right (by omega)
    refine ⟨c0 + 1, false, S, EvW.mk fun n hn => ?_, (fun h => by cases h), fun _ => ⟨ho, fun x hx => .inl hx⟩⟩
    rw [w81, set_self hs]
    exact step_b (h47 n hn) (step_t rfl (step_b e0 (step_t rfl (step_f hne (step_b (l2 hm) (step_t rfl (step_t rfl rfl)))))))
   ·have hs1 : nth (setN G s (.map (seenM (S ++ [r])))) s = some (.map (seenM (S ++ [r]))) := nth_set_same _ hs
    have w1 : Wok (setN G s (.map (seenM (S ++ [r])))) f m N next es := w.set _ h1 h2 h3
    obtain ⟨_, _, e2⟩ := w1.cell hnd
    have front : ∀ (n : Nat) (R : Option (Tree × World')), c0 ≤ n → ((evW (Tab.env tab) n 88 [.slc nd.kids, .fn 89 [] [.ptr (.wp f 0) 0, .ptr (I k) 0, .ptr (.wm s) 0]] (setN G s (.map (seenM (S ++ [r]))))).bind fun y => bif Sh.ok .bool y.1 then some (.bool y.1.toBool, y.2) else none) = R →
      evWQ (Tab.env tab) n 81 [.wp f 0, I k, .wp t 0, .wm s] G = R := by
     intro n R hn h
     rw [w81]
     exact step_b (h47 n hn) (step_t rfl (step_b e0 (step_t rfl (step_f hne (step_b (l1 hm) (step_t rfl (step_f rfl (step_b (wput_seen hs hm) (step_b e2 (step_t rfl h))))))))))
    rcases hc with ⟨hnat, rfl⟩ | ⟨p, a, b, y, z, hb, ra, rb, rfl⟩
    ·rw [hnat] at hnd; cases hnd
     refine ⟨c0 + 5, false, S ++ [r], EvW.mk fun n hn => front n _ (by omega) (step_b (s88_nil _ n (by omega)) (step_t rfl rfl)), (fun h => by cases h), fun _ => ⟨fun h => h, fun x hx => ?_⟩⟩
     rcases List.mem_append.1 hx with hx | hx
     ·exact .inl hx
     ·rw [List.mem_singleton.1 hx]
      exact .inr ⟨_, hrr, fun h => h⟩
    ·rw [hb] at hnd; cases hnd
     simp only [FT.size] at hz hS
     have hS1 : ∀ d : FT, d.size < y.size + z.size + 1 → ∀ x, x ∈ S ++ [r] → ∃ u, Res N es x u ∧ (¬ u.occ k ∨ d.size < u.size) := by
      intro d hd x hx
      rcases List.mem_append.1 hx with hx | hx
      ·obtain ⟨u, hu, ho | ho⟩ := hS x hx
       ·exact ⟨u, hu, .inl ho⟩
       ·exact ⟨u, hu, .inr (by omega)⟩
      ·rw [List.mem_singleton.1 hx]
       exact ⟨_, hrr, .inr (by simp only [FT.size]; exact hd)⟩
     have hy := y.size_pos
     have hz' := z.size_pos
     obtain ⟨ca, ba, Sa, ea, ta, fa⟩ := s81 k h1 h2 h3 sz w1 ra (by omega) hs1 (hS1 y (by omega))
     rw [set_set] at ea
     have fin : ∀ {c : Nat} {v : Bool} {G2 : World'}, EvW E c 88 [.slc [.wp a 0, .wp b 0], wfn f k s] (setN G s (.map (seenM (S ++ [r])))) (.bool v) G2 → EvW E (c + c0 + 1) 81 [.wp f 0, I k, .wp t 0, .wm s] G (.bool v) G2 := by
      intro c v G2 h
      exact EvW.mk (c := c + c0) fun n hn => front n _ (by omega) (step_b (h n (by omega)) (step_t rfl rfl))
     cases hba : ba with
     | true =>
      subst hba
      exact ⟨_, true, Sa, fin (s88_t ea), fun _ => .inl (ta rfl), fun h => by cases h⟩
     | false =>
      subst hba
      obtain ⟨na, ha⟩ := fa rfl
      have hsa : nth (setN G s (.map (seenM Sa))) s = some (.map (seenM Sa)) := nth_set_same _ hs
      have wa : Wok (setN G s (.map (seenM Sa))) f m N next es := w.set _ h1 h2 h3
      obtain ⟨cb, bb, Sb, eb, tb, fb⟩ := s81 k h1 h2 h3 sz wa rb (by omega) hsa (fun x hx => by
       rcases ha x hx with hx | ⟨u, hu, ho⟩
       ·exact hS1 z (by omega) x hx
       ·exact ⟨u, hu, .inl ho⟩)
      rw [set_set] at eb
      cases hbb : bb with
      | true =>
       subst hbb
       exact ⟨_, true, Sb, fin (s88_ft ea eb), fun _ => .inr (tb rfl), fun h => by cases h⟩
      | false =>
       subst hbb
       obtain ⟨nb, hb'⟩ := fb rfl
       refine ⟨_, false, Sb, fin (s88_ff ea eb), (fun h => by cases h), fun _ => ⟨fun h => h.elim na nb, fun x hx => ?_⟩⟩
       rcases hb' x hx with hx | hx
       ·rcases ha x hx with hx | hx
        ·rcases List.mem_append.1 hx with hx | hx
         ·exact .inl hx
         ·rw [List.mem_singleton.1 hx]
          exact .inr ⟨_, hrr, fun h => h.elim na nb⟩
        ·exact .inr hx
       ·exact .inr hx
end
end Go.Proofs.Cw.Si
end

/-
  THE INFERER'S WORLD 3: pairs that were met, new objects, how many unknowns stand for nothing.
-/
section
namespace Go.Proofs.Cw.Si
open Go.Proofs
def pairM (S : List (Nat × Nat)) : List (Tree × Tree) := S.map fun p => (.agg [.wp p.1 0, .wp p.2 0], .bool true)
theorem beqN (a b : Nat) : Nat.beq a b = decide (a = b) := by
 by_cases h : a = b
 ·subst h; rw [Nat.beq_refl]; simp
 ·rw [decide_eq_false h]
  cases hq : Nat.beq a b with
  | false => rfl
  | true => exact absurd (Nat.eq_of_beq_eq_true hq) h
theorem keyEq_pair (a b x y : Nat) : keyEq (.arr 2) (.agg [.wp a 0, .wp b 0]) (.agg [.wp x 0, .wp y 0]) = some (decide ((a, b) = (x, y))) := by
 show (bif Nat.beq a x && Nat.beq 0 0 then (bif Nat.beq b y && Nat.beq 0 0 then ptrEqs [] [] else some false) else some false) = _
 rw [beqN, beqN, beqN]
 by_cases h1 : a = x
 ·by_cases h2 : b = y
  ·subst h1; subst h2; simp [ptrEqs]
  ·simp [h1, h2]
 ·simp [h1]
theorem mfind_pair (a b : Nat) : ∀ (S : List (Nat × Nat)) (i : Nat), ((a, b) ∉ S → mfind (.arr 2) (.agg [.wp a 0, .wp b 0]) (pairM S) i = some none) ∧ ((a, b) ∈ S → ∃ p, mfind (.arr 2) (.agg [.wp a 0, .wp b 0]) (pairM S) i = some (some (p, .bool true)))
 | [], i => ⟨fun _ => rfl, fun h => by simp at h⟩
 | (x, y) :: S, i => by
  obtain ⟨h1, h2⟩ := mfind_pair a b S (i + 1)
  have step : mfind (.arr 2) (.agg [.wp a 0, .wp b 0]) (pairM ((x, y) :: S)) i = match decide ((a, b) = (x, y)) with
    | true => some (some (i, .bool true))
    | false => mfind (.arr 2) (.agg [.wp a 0, .wp b 0]) (pairM S) (i + 1) := by
   show (match keyEq (.arr 2) (.agg [.wp a 0, .wp b 0]) (.agg [.wp x 0, .wp y 0]) with | some true => _ | some false => _ | none => _) = _
   rw [keyEq_pair]
   cases decide ((a, b) = (x, y)) <;> rfl
  rw [step]
  by_cases h : (a, b) = (x, y)
  ·rw [decide_eq_true h, h]
   exact ⟨fun c => absurd (List.mem_cons_self) c, fun _ => ⟨i, rfl⟩⟩
  ·rw [decide_eq_false h]
   exact ⟨fun c => h1 fun k => c (List.mem_cons_of_mem _ k), fun c => h2 ((List.mem_cons.1 c).resolve_left h)⟩
theorem wlook_pair {G : World'} {s a b : Nat} {S : List (Nat × Nat)} (hs : nth G s = some (.map (pairM S))) :
  ((a, b) ∉ S → wlook (.arr 2) G s (.agg [.wp a 0, .wp b 0]) (.bool false) = some (false, .bool false)) ∧ ((a, b) ∈ S → wlook (.arr 2) G s (.agg [.wp a 0, .wp b 0]) (.bool false) = some (true, .bool true)) := by
 obtain ⟨h1, h2⟩ := mfind_pair a b S 0
 refine ⟨fun h => ?_, fun h => ?_⟩
 ·unfold wlook; simp only [hs, h1 h]
 ·obtain ⟨p, hp⟩ := h2 h
  unfold wlook; simp only [hs, hp]
theorem wput_pair {G : World'} {s a b : Nat} {S : List (Nat × Nat)} (hs : nth G s = some (.map (pairM S))) :
  ∃ S', wput (.arr 2) G s (.agg [.wp a 0, .wp b 0]) (.bool true) = some (setN G s (.map (pairM S'))) ∧ ∀ p, p ∈ S' → p ∈ S ∨ p = (a, b) := by
 obtain ⟨h1, h2⟩ := mfind_pair a b S 0
 by_cases h : (a, b) ∈ S
 ·have key : ∀ (S : List (Nat × Nat)) (i p : Nat) (v : Tree), mfind (.arr 2) (.agg [.wp a 0, .wp b 0]) (pairM S) i = some (some (p, v)) → i ≤ p ∧ setN (pairM S) (p - i) (.agg [.wp a 0, .wp b 0], .bool true) = pairM S := by
   intro S
   induction S with
   | nil => intro i p v h; cases h
   | cons q S ih =>
    obtain ⟨x, y⟩ := q
    intro i p v h
    have step : mfind (.arr 2) (.agg [.wp a 0, .wp b 0]) (pairM ((x, y) :: S)) i = match decide ((a, b) = (x, y)) with
      | true => some (some (i, .bool true))
      | false => mfind (.arr 2) (.agg [.wp a 0, .wp b 0]) (pairM S) (i + 1) := by
     show (match keyEq (.arr 2) (.agg [.wp a 0, .wp b 0]) (.agg [.wp x 0, .wp y 0]) with | some true => _ | some false => _ | none => _) = _
     rw [keyEq_pair]
     cases decide ((a, b) = (x, y)) <;> rfl
    rw [step] at h
    by_cases e : (a, b) = (x, y)
    ·rw [decide_eq_true e] at h
     cases h
     cases e
     exact ⟨Nat.le_refl _, by rw [Nat.sub_self]; rfl⟩
    ·rw [decide_eq_false e] at h
     obtain ⟨k1, k2⟩ := ih (i + 1) p v h
     refine ⟨by omega, ?_⟩
     rw [show p - i = (p - (i + 1)) + 1 by omega]
     show (_ :: setN (pairM S) (p - (i + 1)) _) = _ :: pairM S
     rw [k2]
  obtain ⟨p, hp⟩ := h2 h
  refine ⟨S, ?_, fun q hq => .inl hq⟩
  have k := (key S 0 p _ hp).2
  rw [Nat.sub_zero] at k
  unfold wput
  simp only [hs, hp, k]
 ·refine ⟨S ++ [(a, b)], ?_, fun q hq => ?_⟩
  ·unfold wput
   simp only [hs, h1 h]
   simp [pairM]
  ·rcases List.mem_append.1 hq with hq | hq
   ·exact .inl hq
   ·exact .inr (List.mem_singleton.1 hq)
theorem nth_app_left {α : Type} {G : List α} {i : Nat} {x : α} (l : List α) (h : nth G i = some x) : nth (G ++ l) i = some x := by
 rw [nth_eq] at h ⊢
 rw [List.getElem?_append_left (List.getElem?_eq_some_iff.1 h).1]; exact h
theorem nth_app_new {α : Type} (G : List α) (x : α) : nth (G ++ [x]) G.length = some x := by
 rw [nth_eq]; simp
theorem nth_lt {α : Type} {G : List α} {i : Nat} {x : α} (h : nth G i = some x) : i < G.length := by
 rw [nth_eq] at h; exact (List.getElem?_eq_some_iff.1 h).1
section
variable {G : World'} {f m : Nat} {N : NT} {next : Nat} {es : Bd}
theorem Wok.app (w : Wok G f m N next es) (l : World') : Wok (G ++ l) f m N next es where
 hf := nth_app_left l w.hf
 hm := nth_app_left l w.hm
 hN i nd h := nth_app_left l (w.hN i nd h)
 le := w.le
 tot := w.tot
 tg := w.tg
 src := w.src
 kid := w.kid
 nx := w.nx
theorem Wok.new (w : Wok G f m N next es) : N G.length = none ∧ G.length ≠ f ∧ G.length ≠ m := by
 refine ⟨?_, fun e => ?_, fun e => ?_⟩
 ·cases h : N G.length with
  | none => rfl
  | some nd => have := nth_lt (w.hN _ _ h); omega
 ·have := nth_lt w.hf; omega
 ·have := nth_lt w.hm; omega
theorem Wok.bind (w : Wok G f m N next es) {i k r : Nat} {s : FT} {nd : Nd} (hi : N i = some (.unk k)) (hk : look es k = none) (hr : Res N es r s) (hn : N r = some nd) (hs : ¬ s.occ k) (fm : f ≠ m) :
  Wok (setN G m (.map (bdM (es ++ [(k, r)])))) f m N next (es ++ [(k, r)]) where
 hf := by rw [nth_set_ne _ _ fm.symm]; exact w.hf
 hm := nth_set_same _ w.hm
 hN i nd h := by
  rw [nth_set_ne]
  ·exact w.hN i nd h
  ·intro e
   have := w.hN i nd h
   rw [← e, w.hm] at this
   cases nd <;> cases this
 le := w.le
 tot := w.tot.bind hk hr hs
 tg j x h := by
  rw [look_app k r es j hk] at h
  by_cases e : j = k
  ·rw [if_pos e] at h; cases h; exact ⟨nd, hn⟩
  ·rw [if_neg e] at h; exact w.tg j x h
 src j x h := by
  rw [look_app k r es j hk] at h
  by_cases e : j = k
  ·exact ⟨i, by rw [e]; exact hi⟩
  ·rw [if_neg e] at h; exact w.src j x h
 kid := w.kid
 nx := w.nx
theorem wput_to (w : Wok G f m N next es) {k r : Nat} (hk : look es k = none) : wput .int G m (I (k : Nat)) (.wp r 0) = some (setN G m (.map (bdM (es ++ [(k, r)])))) := by
 unfold wput
 simp only [w.hm, (mfind_to k es 0).1 hk]
 simp [bdM]
end
def freeN (es : Bd) : Nat → Nat
 | 0 => if look es 0 = none then 1 else 0
 | n + 1 => freeN es n + if look es (n + 1) = none then 1 else 0
theorem freeN_bind {k r : Nat} {es : Bd} (hk : look es k = none) : ∀ n, freeN (es ++ [(k, r)]) n ≤ freeN es n ∧ (k ≤ n → freeN (es ++ [(k, r)]) n < freeN es n)
 | 0 => by
  simp only [freeN, look_app k r es _ hk]
  by_cases h : 0 = k
  ·subst h; simp [hk]
  ·rw [if_neg h]; exact ⟨Nat.le_refl _, fun c => by omega⟩
 | n + 1 => by
  obtain ⟨h1, h2⟩ := freeN_bind (r := r) hk n
  simp only [freeN, look_app k r es _ hk]
  by_cases h : n + 1 = k
  ·subst h
   simp only [if_true, hk]
   refine ⟨by simp; omega, fun _ => by simp; omega⟩
  ·rw [if_neg h]
   exact ⟨by omega, fun c => by have := h2 (by omega); omega⟩
end Go.Proofs.Cw.Si
end
