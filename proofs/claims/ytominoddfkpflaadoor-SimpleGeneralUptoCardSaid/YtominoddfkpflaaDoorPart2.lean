/- SIMPLE: what the functions that the law reaches come to, and why. -/
import Derived.Test.YtominoddfkpflaaDoorPart1
import Derived.Test.YtominoddfkpflaaDoorCw4
set_option linter.unusedSimpArgs false
set_option linter.unusedVariables false

/-
  EQUATIONS of the reckoned code: printed by program.
-/
section
set_option maxRecDepth 100000
namespace Go.Proofs.Cw.Si
open Go.Proofs

def L11_0 (n q : Nat) (s12 s13 h000 h001 : Int) (h002 : List UInt8) (h1 : List Tree) (h200 h201 : Int) (h202 : List UInt8) : Option Tree := evL eQ n 11 [1, 1, 1, 0, 1, 0]
 [q] ⟨[AV.any, AV.href 0 0 0, AV.href 2 0 0, AV.any, AV.any, AV.any, AV.any, AV.any, AV.any, AV.any, AV.any, AV.any, AV.t (q4 s12), AV.t (q4 s13)] ++ anyL 14, [HObj.mix q0
 [AV.agg [AV.t (q4 h000), AV.t (q4 h001), AV.t (Tree.str h002), AV.nilS, AV.hsl 1 none]], HObj.tre q0 h1, HObj.mix q0 [AV.agg [AV.t (q4 h200), AV.t (q4 h201), AV.t
 (Tree.str h202), AV.nilS, AV.nilS]]]⟩

def L13_0 (n q : Nat) (s0 : List Tree) (s1 s5 s6 : Int) : Option Tree := evL eQ n 13 [1, 1, 0, 1, 0] [q] ⟨[AV.t (Tree.slc s0), AV.t (q4 s1), AV.any, AV.any, AV.any, AV.t
 (q4 s5), AV.t (q4 s6)] ++ anyL 43, []⟩

def L14_0 (n q : Nat) (s4 s5 s6 h000 h001 : Int) (h002 : List UInt8) (h003 h004 : List Tree) : Option Tree := evL eQ n 14 [1, 1, 0, 1, 0] [q] ⟨[AV.any, AV.href 0 0 0,
 AV.any, AV.any, AV.t (q4 s4), AV.t (q4 s5), AV.t (q4 s6)] ++ anyL 27, [HObj.tre q0 [Tree.agg [q4 h000, q4 h001, Tree.str h002, Tree.slc h003, Tree.slc h004]]]⟩

def L17_0 (n q : Nat) (s15 s16 h000 h001 : Int) (h002 : List UInt8) (h003 h1 : List Tree) (h200 h201 : Int) (h202 : List UInt8) : Option Tree := evL eQ n 17 [1, 1, 1, 0,
 1, 0] [q] ⟨[AV.any, AV.href 0 0 0, AV.href 2 0 0, AV.any, AV.any, AV.any, AV.any, AV.any, AV.any, AV.any, AV.any, AV.any, AV.any, AV.any, AV.any, AV.t (q4 s15), AV.t (q4
 s16)] ++ anyL 14, [HObj.mix q0 [AV.agg [AV.t (q4 h000), AV.t (q4 h001), AV.t (Tree.str h002), AV.t (Tree.slc h003), AV.hsl 1 none]], HObj.tre q0 h1, HObj.mix q0 [AV.agg
 [AV.t (q4 h200), AV.t (q4 h201), AV.t (Tree.str h202), AV.nilS, AV.nilS]]]⟩

def L31_0 (n q : Nat) (s0 s7 s27 : List Tree) (s28 s29 h000 h001 : Int) (h002 : List UInt8) (h003 h004 : List Tree) (h100 : List UInt8) : Option Tree := evL eQ n 31 [1, 1,
 1, 1, 0, 1, 0] [q] ⟨[AV.t (Tree.slc s0), AV.any, AV.any, AV.href 0 0 0, AV.href 1 0 0, AV.any, AV.any, AV.t (Tree.slc s7), AV.nilS, AV.any, AV.any, AV.any, AV.any,
 AV.any, AV.any, AV.any, AV.any, AV.any, AV.any, AV.any, AV.any, AV.any, AV.any, AV.any, AV.any, AV.any, AV.any, AV.t (Tree.slc s27), AV.t (q4 s28), AV.t (q4 s29)] ++ anyL
 32, [HObj.tre q0 [Tree.agg [q4 h000, q4 h001, Tree.str h002, Tree.slc h003, Tree.slc h004]], HObj.mix q2 [AV.agg [AV.t (Tree.str h100), AV.nilS]]]⟩

def L31_0b (n q : Nat) (s0 s7 s27 : List Tree) (s28 s29 h000 h001 : Int) (h002 : List UInt8) (h003 h004 : List Tree) (h100 : List UInt8) (h2 : List Tree) : Option Tree :=
 evL eQ n 31 [1, 1, 1, 1, 0, 1, 0] [q] ⟨[AV.t (Tree.slc s0), AV.any, AV.any, AV.href 0 0 0, AV.href 1 0 0, AV.any, AV.any, AV.t (Tree.slc s7), AV.hsl 2 none, AV.any,
 AV.any, AV.any, AV.any, AV.any, AV.any, AV.any, AV.any, AV.any, AV.any, AV.any, AV.any, AV.any, AV.any, AV.any, AV.any, AV.any, AV.any, AV.t (Tree.slc s27), AV.t (q4
 s28), AV.t (q4 s29)] ++ anyL 32, [HObj.tre q0 [Tree.agg [q4 h000, q4 h001, Tree.str h002, Tree.slc h003, Tree.slc h004]], HObj.mix q2 [AV.agg [AV.t (Tree.str h100),
 AV.nilS]], HObj.tre q2 h2]⟩

def L31_0c (n q : Nat) (s0 s27 : List Tree) (s28 s29 h000 h001 : Int) (h002 : List UInt8) (h003 h004 : List Tree) (h100 : List UInt8) (h2 : List Tree) : Option Tree := evL
 eQ n 31 [1, 1, 1, 1, 0, 1, 0] [q] ⟨[AV.t (Tree.slc s0), AV.any, AV.any, AV.href 0 0 0, AV.href 1 0 0, AV.any, AV.any, AV.hsl 2 none, AV.nilS, AV.any, AV.any, AV.any,
 AV.any, AV.any, AV.any, AV.any, AV.any, AV.any, AV.any, AV.any, AV.any, AV.any, AV.any, AV.any, AV.any, AV.any, AV.any, AV.t (Tree.slc s27), AV.t (q4 s28), AV.t (q4 s29)]
 ++ anyL 32, [HObj.tre q0 [Tree.agg [q4 h000, q4 h001, Tree.str h002, Tree.slc h003, Tree.slc h004]], HObj.mix q2 [AV.agg [AV.t (Tree.str h100), AV.nilS]], HObj.tre q2
 h2]⟩

def L31_0x3 (n q : Nat) (s0 s27 : List Tree) (s28 s29 h000 h001 : Int) (h002 : List UInt8) (h003 h004 : List Tree) (h100 : List UInt8) (h2 h3 : List Tree) : Option Tree :=
 evL eQ n 31 [1, 1, 1, 1, 0, 1, 0] [q] ⟨[AV.t (Tree.slc s0), AV.any, AV.any, AV.href 0 0 0, AV.href 1 0 0, AV.any, AV.any, AV.hsl 2 none, AV.hsl 3 none, AV.any, AV.any,
 AV.any, AV.any, AV.any, AV.any, AV.any, AV.any, AV.any, AV.any, AV.any, AV.any, AV.any, AV.any, AV.any, AV.any, AV.any, AV.any, AV.t (Tree.slc s27), AV.t (q4 s28), AV.t
 (q4 s29)] ++ anyL 32, [HObj.tre q0 [Tree.agg [q4 h000, q4 h001, Tree.str h002, Tree.slc h003, Tree.slc h004]], HObj.mix q2 [AV.agg [AV.t (Tree.str h100), AV.nilS]],
 HObj.froz q2 h2, HObj.tre q2 h3]⟩

def L32_0 (n q : Nat) (s10 s11 : Int) (h000 : List UInt8) (h1 : List Tree) (h200 : List UInt8) : Option Tree := evL eQ n 32 [1, 1, 0, 1, 0] [q] ⟨[AV.any, AV.href 0 0 0,
 AV.href 2 0 0, AV.any, AV.any, AV.any, AV.any, AV.any, AV.any, AV.any, AV.t (q4 s10), AV.t (q4 s11)] ++ anyL 14, [HObj.mix q2 [AV.agg [AV.t (Tree.str h000), AV.hsl 1
 none]], HObj.tre q2 h1, HObj.mix q2 [AV.agg [AV.t (Tree.str h200), AV.nilS]]]⟩

def L35_0 (n q : Nat) (s0 : List Tree) (s1 s5 s6 : Int) : Option Tree := evL eQ n 35 [1, 1, 0, 1, 0] [q] ⟨[AV.t (Tree.slc s0), AV.t (q4 s1), AV.any, AV.any, AV.any, AV.t
 (q4 s5), AV.t (q4 s6)] ++ anyL 33, []⟩

def L39_0 (n q : Nat) (s2 s3 : Int) (s9 : List Tree) (s10 s11 : Int) : Option Tree := evL eQ n 39 [1, 0, 1, 0] [q] ⟨[AV.any, AV.any, AV.t (q4 s2), AV.t (q4 s3), AV.any,
 AV.any, AV.any, AV.any, AV.any, AV.t (Tree.slc s9), AV.t (q4 s10), AV.t (q4 s11)] ++ anyL 19, []⟩

def L63_0 (n q : Nat) (s0 : List Tree) (s1 : List UInt8) (s5 : Int) : Option Tree := evL eQ n 63 [1, 0, 1, 0] [q] ⟨[AV.t (Tree.slc s0), AV.t (Tree.str s1), AV.any, AV.any,
 AV.any, AV.t (q4 s5)] ++ anyL 13, []⟩

def L65_0 (n q : Nat) (s0 : List Tree) (s1g : Nat) (s1p s1c : List Tree) (s7 s8 : Int) : Option Tree := evL eQ n 65 [1, 0, 1, 0] [q] ⟨[AV.t (Tree.slc s0), AV.t (Tree.fn
 s1g s1p s1c), AV.any, AV.any, AV.any, AV.any, AV.any, AV.t (q4 s7), AV.t (q4 s8)] ++ anyL 10, []⟩

def L75_0 (n q : Nat) (s0 : List Tree) (s1g : Nat) (s1p s1c : List Tree) (s7 s8 : Int) : Option Tree := evL eQ n 75 [1, 0, 1, 0] [q] ⟨[AV.t (Tree.slc s0), AV.t (Tree.fn
 s1g s1p s1c), AV.any, AV.any, AV.any, AV.any, AV.any, AV.t (q4 s7), AV.t (q4 s8)] ++ anyL 10, []⟩

def L76_0 (n q : Nat) (s2 s3 : Int) (s9 : List Tree) (s10 s11 : Int) : Option Tree := evL eQ n 76 [1, 0, 1, 0] [q] ⟨[AV.any, AV.any, AV.t (q4 s2), AV.t (q4 s3), AV.any,
 AV.any, AV.any, AV.any, AV.any, AV.t (Tree.slc s9), AV.t (q4 s10), AV.t (q4 s11)] ++ anyL 19, []⟩

def L86_0 (n q : Nat) (s1 : List Tree) (s2g : Nat) (s2p s2c s15 : List Tree) (s16 s17 : Int) : Option Tree := evL eQ n 86 [1, 1, 0, 1, 0] [q] ⟨[AV.any, AV.t (Tree.slc s1),
 AV.t (Tree.fn s2g s2p s2c), AV.any, AV.any, AV.any, AV.any, AV.any, AV.any, AV.any, AV.any, AV.any, AV.any, AV.any, AV.any, AV.t (Tree.slc s15), AV.t (q4 s16), AV.t (q4
 s17)] ++ anyL 14, []⟩

def L5_0 (n q : Nat) (s0 : List Tree) (s3 : Int) : Option Tree := evL eQ n 5 [1, 0, 1, 0] [q] ⟨[AV.t (Tree.slc s0), AV.any, AV.any, AV.t (q4 s3)] ++ anyL 25, []⟩

theorem e10 (n : Nat) (a0 : List Tree) (a10 a11 : Int) (a12 : List UInt8) (a13 a14 : List Tree) : evQ eQ n 10 [Tree.slc a0, Tree.agg [q4 a10, q4 a11, Tree.str a12,
 Tree.slc a13, Tree.slc a14]] = Option.bind (evP eQ n 30 [Tree.slc a0, Tree.agg [q4 a10, q4 a11, Tree.str a12, Tree.slc a13, Tree.slc a14]]) fun y => bif Sh.ok Sh.bool y
 then bif !Tree.toBool y then some (Tree.tup [Tree.agg [Tree.str [], Tree.slc []], q4 4]) else Option.bind (evP eQ n 31 [Tree.slc a0, Tree.agg [q4 a10, q4 a11, Tree.str
 a12, Tree.slc a13, Tree.slc a14]]) fun y => bif Sh.ok (Sh.tup [q2, Sh.slc, Sh.bool]) y then bif !Tree.toBool (List.headD (List.tail (List.tail (Tree.tupl y))) (Tree.bool
 false)) then some (Tree.tup [Tree.agg [Tree.str [], Tree.slc []], q4 250]) else Option.bind (evP eQ n 32 [Tree.agg [Tree.str (Tree.toStr (List.headD (Tree.cs (List.headD
 (Tree.tupl y) (Tree.bool false))) (Tree.bool false))), Tree.slc (Tree.elems (List.headD (List.tail (Tree.cs (List.headD (Tree.tupl y) (Tree.bool false)))) (Tree.bool
 false)))]]) fun y => bif Sh.ok q2 y then some (Tree.tup [Tree.agg [Tree.str (Tree.toStr (List.headD (Tree.cs y) (Tree.bool false))), Tree.slc (Tree.elems (List.headD
 (List.tail (Tree.cs y)) (Tree.bool false)))], q4 0]) else none else none else none := by kernel_rfl

theorem e11 (n : Nat) (a00 a01 : Int) (a02 : List UInt8) (a03 a04 : List Tree) : evQ eQ n 11 [Tree.agg [q4 a00, q4 a01, Tree.str a02, Tree.slc a03, Tree.slc a04]] = bif
 firstOk q0 a04 then bif Nat.ble (List.length a04 * 80) 140737488355328 then L11_0 n n (↑(List.length a04) : Int) 0 a00 a01 [] a04 0 0 [] else none else none := by
 kernel_rfl

theorem l11_0 (n q : Nat) (s12 s13 h000 h001 : Int) (h002 : List UInt8) (h1 : List Tree) (h200 h201 : Int) (h202 : List UInt8) : L11_0 n (Nat.succ q) s12 s13 h000 h001
 h002 h1 h200 h201 h202 = bif decide (s13 < s12) then bif decide (0 ≤ s13) && (decide (s13 < (↑(List.length h1) : Int)) && true) then Option.bind (nth h1 (Int.toNat s13))
 fun y => bif Sh.ok q0 y then Option.bind (evP eQ n 11 [Tree.agg [q4 (Tree.toInt (List.headD (Tree.cs y) (Tree.bool false))), q4 (Tree.toInt (List.headD (List.tail
 (Tree.cs y)) (Tree.bool false))), Tree.str (Tree.toStr (List.headD (List.tail (List.tail (Tree.cs y))) (Tree.bool false))), Tree.slc (Tree.elems (List.headD (List.tail
 (List.tail (List.tail (Tree.cs y)))) (Tree.bool false))), Tree.slc (Tree.elems (List.headD (List.tail (List.tail (List.tail (List.tail (Tree.cs y))))) (Tree.bool
 false)))]]) fun y => bif Sh.ok q0 y then bif decide (0 ≤ s13) && (decide (s13 < (↑(List.length h1) : Int)) && true) then Option.bind (nth h1 (Int.toNat s13)) fun y_1 =>
 bif Sh.ok q0 y_1 then L11_0 n q s12 (IntKind.wrap IntKind.i64 (s13 + 1)) h000 h001 h002 (setN h1 (Int.toNat s13) (Tree.agg [q4 (Tree.toInt (List.headD (Tree.cs y)
 (Tree.bool false))), q4 (Tree.toInt (List.headD (List.tail (Tree.cs y)) (Tree.bool false))), Tree.str (Tree.toStr (List.headD (List.tail (List.tail (Tree.cs y)))
 (Tree.bool false))), Tree.slc (Tree.elems (List.headD (List.tail (List.tail (List.tail (Tree.cs y)))) (Tree.bool false))), Tree.slc (Tree.elems (List.headD (List.tail
 (List.tail (List.tail (List.tail (Tree.cs y))))) (Tree.bool false)))])) h200 h201 h202 else none else none else none else none else none else some (Tree.agg [q4 h000, q4
 h001, Tree.str h002, Tree.slc [], Tree.slc h1]) := by kernel_rfl

theorem e13 (n : Nat) (a0 : List Tree) (a1 : Int) : evQ eQ n 13 [Tree.slc a0, q4 a1] = L13_0 n n a0 a1 0 0 := by kernel_rfl

theorem l13_0 (n q : Nat) (s0 : List Tree) (s1 s5 s6 : Int) : L13_0 n (Nat.succ q) s0 s1 s5 s6 = bif decide (s6 < (↑(List.length s0) : Int)) then bif decide (s5 ≤ s1) then
 bif decide (0 ≤ s6) then Option.bind (nth s0 (Int.toNat s6)) fun y => bif Sh.ok q0 y then Option.bind (evP eQ n 35 [Tree.slc [Tree.agg [Tree.str (Tree.toStr (List.headD
 (List.tail (List.tail (Tree.cs y))) (Tree.bool false))), Tree.slc (Tree.elems (List.headD (List.tail (List.tail (List.tail (Tree.cs y)))) (Tree.bool false)))]], q4 80])
 fun y => bif Sh.ok (Sh.int IntKind.i64) y then bif decide (0 ≤ s6) then Option.bind (nth s0 (Int.toNat s6)) fun y_1 => bif Sh.ok q0 y_1 then Option.bind (evP eQ n 35
 [Tree.slc [Tree.agg [Tree.str (Tree.toStr (List.headD (List.tail (List.tail (Tree.cs y_1))) (Tree.bool false))), Tree.slc (Tree.elems (List.headD (List.tail (List.tail
 (List.tail (Tree.cs y_1)))) (Tree.bool false)))]], q4 80]) fun y_2 => bif Sh.ok (Sh.int IntKind.i64) y_2 then bif decide (Tree.toInt y_2 > 80) then some (q4 (IntKind.wrap
 IntKind.i64 (s1 + 1))) else bif decide (0 ≤ s6) then Option.bind (nth s0 (Int.toNat s6)) fun y_3 => bif Sh.ok q0 y_3 then Option.bind (evP eQ n 13 [Tree.slc (Tree.elems
 (List.headD (List.tail (List.tail (List.tail (List.tail (Tree.cs y_3))))) (Tree.bool false))), q4 (IntKind.wrap IntKind.i64 (s1 - IntKind.wrap IntKind.i64 (IntKind.wrap
 IntKind.i64 (s5 + 1) + Tree.toInt y)))]) fun y_4 => bif Sh.ok (Sh.int IntKind.i64) y_4 then L13_0 n q s0 s1 (IntKind.wrap IntKind.i64 (IntKind.wrap IntKind.i64
 (IntKind.wrap IntKind.i64 (s5 + 1) + Tree.toInt y) + Tree.toInt y_4)) (IntKind.wrap IntKind.i64 (s6 + 1)) else none else none else none else none else none else none else
 none else none else none else some (q4 s5) else some (q4 s5) := by kernel_rfl

theorem e14 (n : Nat) (a00 a01 : Int) (a02 : List UInt8) (a03 a04 : List Tree) : evQ eQ n 14 [Tree.agg [q4 a00, q4 a01, Tree.str a02, Tree.slc a03, Tree.slc a04]] = L14_0
 n n 1 0 0 a00 a01 a02 a03 a04 := by kernel_rfl

theorem l14_0 (n q : Nat) (s4 s5 s6 h000 h001 : Int) (h002 : List UInt8) (h003 h004 : List Tree) : L14_0 n (Nat.succ q) s4 s5 s6 h000 h001 h002 h003 h004 = bif decide (s6
 < (↑(List.length h004) : Int)) then bif decide (0 ≤ s6) then Option.bind (nth h004 (Int.toNat s6)) fun y => bif Sh.ok q0 y then Option.bind (evP eQ n 14 [Tree.agg [q4
 (Tree.toInt (List.headD (Tree.cs y) (Tree.bool false))), q4 (Tree.toInt (List.headD (List.tail (Tree.cs y)) (Tree.bool false))), Tree.str (Tree.toStr (List.headD
 (List.tail (List.tail (Tree.cs y))) (Tree.bool false))), Tree.slc (Tree.elems (List.headD (List.tail (List.tail (List.tail (Tree.cs y)))) (Tree.bool false))), Tree.slc
 (Tree.elems (List.headD (List.tail (List.tail (List.tail (List.tail (Tree.cs y))))) (Tree.bool false)))]]) fun y => bif Sh.ok (Sh.tup [Sh.int IntKind.i64, Sh.int
 IntKind.i64]) y then L14_0 n q (IntKind.wrap IntKind.i64 (s4 + Tree.toInt (List.headD (Tree.tupl y) (Tree.bool false)))) (imax s5 (Tree.toInt (List.headD (List.tail
 (Tree.tupl y)) (Tree.bool false)))) (IntKind.wrap IntKind.i64 (s6 + 1)) h000 h001 h002 h003 h004 else none else none else none else some (Tree.tup [q4 s4, q4
 (IntKind.wrap IntKind.i64 (s5 + 1))]) := by kernel_rfl

theorem e15 (n : Nat) (a00 a01 : Int) (a02 : List UInt8) (a03 a04 : List Tree) : evQ eQ n 15 [Tree.agg [q4 a00, q4 a01, Tree.str a02, Tree.slc a03, Tree.slc a04]] =
 Option.bind (evP eQ n 36 [Tree.agg [Tree.str a02, Tree.slc a03]]) fun y => bif Sh.ok Sh.bool y then bif Tree.toBool y then Option.bind (evP eQ n 37 [Tree.slc a04, Tree.fn
 38 [] []]) fun y => bif Sh.ok Sh.bool y then some (Tree.bool !Tree.toBool y) else none else some (Tree.bool false) else none := by kernel_rfl

theorem e16 (n : Nat) (a00 a01 : Int) (a02 : List UInt8) (a03 a04 : List Tree) : evQ eQ n 16 [Tree.agg [q4 a00, q4 a01, Tree.str a02, Tree.slc a03, Tree.slc a04]] =
 Option.bind (evP eQ n 39 [Tree.agg [q4 a00, q4 a01, Tree.str a02, Tree.slc a03, Tree.slc a04]]) fun y => bif Sh.ok (Sh.tup [Sh.int IntKind.i64, Sh.int IntKind.i64]) y
 then bif decide (Tree.toInt (List.headD (Tree.tupl y) (Tree.bool false)) ≤ 300) then bif decide (Tree.toInt (List.headD (List.tail (Tree.tupl y)) (Tree.bool false)) ≤ 60)
 then Option.bind (evP eQ n 40 [Tree.agg [q4 a00, q4 a01, Tree.str a02, Tree.slc a03, Tree.slc a04]]) fun y => bif Sh.ok Sh.bool y then some (Tree.bool (Tree.toBool y))
 else none else some (Tree.bool false) else some (Tree.bool false) else none := by kernel_rfl

theorem e17 (n : Nat) (a00 a01 : Int) (a02 : List UInt8) (a03 a04 : List Tree) : evQ eQ n 17 [Tree.agg [q4 a00, q4 a01, Tree.str a02, Tree.slc a03, Tree.slc a04]] = bif
 a00 == 2 then Option.bind (evP eQ n 41 []) fun y => bif Sh.ok q2 y then bif firstOk q0 a04 then bif Nat.ble (List.length a04 * 80) 140737488355328 then L17_0 n n
 (↑(List.length a04) : Int) 0 a00 a01 (Tree.toStr (List.headD (Tree.cs y) (Tree.bool false))) (Tree.elems (List.headD (List.tail (Tree.cs y)) (Tree.bool false))) a04 0 0
 [] else none else none else none else bif firstOk q0 a04 then bif Nat.ble (List.length a04 * 80) 140737488355328 then L17_0 n n (↑(List.length a04) : Int) 0 a00 a01 a02
 a03 a04 0 0 [] else none else none := by kernel_rfl

theorem l17_0 (n q : Nat) (s15 s16 h000 h001 : Int) (h002 : List UInt8) (h003 h1 : List Tree) (h200 h201 : Int) (h202 : List UInt8) : L17_0 n (Nat.succ q) s15 s16 h000
 h001 h002 h003 h1 h200 h201 h202 = bif decide (s16 < s15) then bif decide (0 ≤ s16) && (decide (s16 < (↑(List.length h1) : Int)) && true) then Option.bind (nth h1
 (Int.toNat s16)) fun y => bif Sh.ok q0 y then Option.bind (evP eQ n 17 [Tree.agg [q4 (Tree.toInt (List.headD (Tree.cs y) (Tree.bool false))), q4 (Tree.toInt (List.headD
 (List.tail (Tree.cs y)) (Tree.bool false))), Tree.str (Tree.toStr (List.headD (List.tail (List.tail (Tree.cs y))) (Tree.bool false))), Tree.slc (Tree.elems (List.headD
 (List.tail (List.tail (List.tail (Tree.cs y)))) (Tree.bool false))), Tree.slc (Tree.elems (List.headD (List.tail (List.tail (List.tail (List.tail (Tree.cs y)))))
 (Tree.bool false)))]]) fun y => bif Sh.ok q0 y then bif decide (0 ≤ s16) && (decide (s16 < (↑(List.length h1) : Int)) && true) then Option.bind (nth h1 (Int.toNat s16))
 fun y_1 => bif Sh.ok q0 y_1 then L17_0 n q s15 (IntKind.wrap IntKind.i64 (s16 + 1)) h000 h001 h002 h003 (setN h1 (Int.toNat s16) (Tree.agg [q4 (Tree.toInt (List.headD
 (Tree.cs y) (Tree.bool false))), q4 (Tree.toInt (List.headD (List.tail (Tree.cs y)) (Tree.bool false))), Tree.str (Tree.toStr (List.headD (List.tail (List.tail (Tree.cs
 y))) (Tree.bool false))), Tree.slc (Tree.elems (List.headD (List.tail (List.tail (List.tail (Tree.cs y)))) (Tree.bool false))), Tree.slc (Tree.elems (List.headD
 (List.tail (List.tail (List.tail (List.tail (Tree.cs y))))) (Tree.bool false)))])) h200 h201 h202 else none else none else none else none else none else some (Tree.agg
 [q4 h000, q4 h001, Tree.str h002, Tree.slc h003, Tree.slc h1]) := by kernel_rfl

theorem e18 (n : Nat) (a00 a01 : Int) (a02 : List UInt8) (a03 a04 : List Tree) (a1 : Int) : evQ eQ n 18 [Tree.agg [q4 a00, q4 a01, Tree.str a02, Tree.slc a03, Tree.slc
 a04], q4 a1] = bif a00 == 1 then some (Tree.bool (decide (a01 < a1))) else bif a00 == 2 then Option.bind (evP eQ n 37 [Tree.slc a04, Tree.fn 42 [] [Tree.ptr (q4
 (IntKind.wrap IntKind.i64 (a1 + 1))) 0]]) fun y => bif Sh.ok Sh.bool y then some (Tree.bool !Tree.toBool y) else none else Option.bind (evP eQ n 37 [Tree.slc a04, Tree.fn
 42 [] [Tree.ptr (q4 a1) 0]]) fun y => bif Sh.ok Sh.bool y then some (Tree.bool !Tree.toBool y) else none := by kernel_rfl

theorem e30 (n : Nat) (a0 : List Tree) (a10 a11 : Int) (a12 : List UInt8) (a13 a14 : List Tree) : evQ eQ n 30 [Tree.slc a0, Tree.agg [q4 a10, q4 a11, Tree.str a12,
 Tree.slc a13, Tree.slc a14]] = bif decide ((↑(List.length a0) : Int) ≤ 100) then Option.bind (evP eQ n 56 [Tree.slc a0, Tree.fn 57 [] []]) fun y => bif Sh.ok Sh.bool y
 then bif !Tree.toBool y then Option.bind (evP eQ n 16 [Tree.agg [q4 a10, q4 a11, Tree.str a12, Tree.slc a13, Tree.slc a14]]) fun y => bif Sh.ok Sh.bool y then some
 (Tree.bool (Tree.toBool y)) else none else some (Tree.bool false) else none else some (Tree.bool false) := by kernel_rfl

theorem e31 (n : Nat) (a0 : List Tree) (a10 a11 : Int) (a12 : List UInt8) (a13 a14 : List Tree) : evQ eQ n 31 [Tree.slc a0, Tree.agg [q4 a10, q4 a11, Tree.str a12,
 Tree.slc a13, Tree.slc a14]] = bif a10 == 2 then Option.bind (runFn eQ n 59 [AV.t (Tree.slc a0)] []) fun y => bif isClip (Prod.fst y) then bif firstOk q2 (clipOf
 (Prod.fst y)) && (true && Nat.ble ((List.length (clipOf (Prod.fst y)) + 1) * 40) 140737488355328) then L31_0c n n a0 a14 (↑(List.length a14) : Int) 0 a10 a11 a12 a13 a14
 [] (clipOf (Prod.fst y) ++ [Tree.agg [Tree.str a12, Tree.slc a13]]) else none else none else L31_0 n n a0 a0 a14 (↑(List.length a14) : Int) 0 a10 a11 a12 a13 a14 [] := by
 kernel_rfl

theorem l31_0 (n q : Nat) (s0 s7 s27 : List Tree) (s28 s29 h000 h001 : Int) (h002 : List UInt8) (h003 h004 : List Tree) (h100 : List UInt8) : L31_0 n (Nat.succ q) s0 s7
 s27 s28 s29 h000 h001 h002 h003 h004 h100 = bif decide (s29 < s28) then bif decide (0 ≤ s29) then Option.bind (nth s27 (Int.toNat s29)) fun y => bif Sh.ok q0 y then
 Option.bind (evP eQ n 31 [Tree.slc s7, Tree.agg [q4 (Tree.toInt (List.headD (Tree.cs y) (Tree.bool false))), q4 (Tree.toInt (List.headD (List.tail (Tree.cs y)) (Tree.bool
 false))), Tree.str (Tree.toStr (List.headD (List.tail (List.tail (Tree.cs y))) (Tree.bool false))), Tree.slc (Tree.elems (List.headD (List.tail (List.tail (List.tail
 (Tree.cs y)))) (Tree.bool false))), Tree.slc (Tree.elems (List.headD (List.tail (List.tail (List.tail (List.tail (Tree.cs y))))) (Tree.bool false)))]]) fun y => bif Sh.ok
 (Sh.tup [q2, Sh.slc, Sh.bool]) y then bif !Tree.toBool (List.headD (List.tail (List.tail (Tree.tupl y))) (Tree.bool false)) then bif firstOk (Sh.int IntKind.i64)
 (Tree.elems (List.headD (List.tail (Tree.tupl y)) (Tree.bool false))) then bif true && Nat.ble ((1 + List.length (Tree.elems (List.headD (List.tail (Tree.tupl y))
 (Tree.bool false)))) * 8) 140737488355328 then some (Tree.tup [Tree.agg [Tree.str [], Tree.slc []], Tree.slc (q4 s29 :: Tree.elems (List.headD (List.tail (Tree.tupl y))
 (Tree.bool false))), Tree.bool false]) else none else none else L31_0b n q s0 s7 s27 s28 (IntKind.wrap IntKind.i64 (s29 + 1)) h000 h001 h002 h003 h004 h100 [Tree.agg
 [Tree.str (Tree.toStr (List.headD (Tree.cs (List.headD (Tree.tupl y) (Tree.bool false))) (Tree.bool false))), Tree.slc (Tree.elems (List.headD (List.tail (Tree.cs
 (List.headD (Tree.tupl y) (Tree.bool false)))) (Tree.bool false)))]] else none else none else none else Option.bind (evP eQ n 60 [Tree.slc s0, Tree.agg [q4 h000, q4 h001,
 Tree.str h002, Tree.slc h003, Tree.slc h004], Tree.slc []]) fun y => bif Sh.ok (Sh.tup [q2, Sh.bool]) y then some (Tree.tup [Tree.agg [Tree.str (Tree.toStr (List.headD
 (Tree.cs (List.headD (Tree.tupl y) (Tree.bool false))) (Tree.bool false))), Tree.slc (Tree.elems (List.headD (List.tail (Tree.cs (List.headD (Tree.tupl y) (Tree.bool
 false)))) (Tree.bool false)))], Tree.slc [], Tree.bool (Tree.toBool (List.headD (List.tail (Tree.tupl y)) (Tree.bool false)))]) else none := by kernel_rfl

theorem l31_0b (n q : Nat) (s0 s7 s27 : List Tree) (s28 s29 h000 h001 : Int) (h002 : List UInt8) (h003 h004 : List Tree) (h100 : List UInt8) (h2 : List Tree) : L31_0b n
 (Nat.succ q) s0 s7 s27 s28 s29 h000 h001 h002 h003 h004 h100 h2 = bif decide (s29 < s28) then bif decide (0 ≤ s29) then Option.bind (nth s27 (Int.toNat s29)) fun y => bif
 Sh.ok q0 y then Option.bind (evP eQ n 31 [Tree.slc s7, Tree.agg [q4 (Tree.toInt (List.headD (Tree.cs y) (Tree.bool false))), q4 (Tree.toInt (List.headD (List.tail
 (Tree.cs y)) (Tree.bool false))), Tree.str (Tree.toStr (List.headD (List.tail (List.tail (Tree.cs y))) (Tree.bool false))), Tree.slc (Tree.elems (List.headD (List.tail
 (List.tail (List.tail (Tree.cs y)))) (Tree.bool false))), Tree.slc (Tree.elems (List.headD (List.tail (List.tail (List.tail (List.tail (Tree.cs y))))) (Tree.bool
 false)))]]) fun y => bif Sh.ok (Sh.tup [q2, Sh.slc, Sh.bool]) y then bif !Tree.toBool (List.headD (List.tail (List.tail (Tree.tupl y))) (Tree.bool false)) then bif
 firstOk (Sh.int IntKind.i64) (Tree.elems (List.headD (List.tail (Tree.tupl y)) (Tree.bool false))) then bif true && Nat.ble ((1 + List.length (Tree.elems (List.headD
 (List.tail (Tree.tupl y)) (Tree.bool false)))) * 8) 140737488355328 then some (Tree.tup [Tree.agg [Tree.str [], Tree.slc []], Tree.slc (q4 s29 :: Tree.elems (List.headD
 (List.tail (Tree.tupl y)) (Tree.bool false))), Tree.bool false]) else none else none else bif true && Nat.ble ((List.length h2 + 1) * 40) 140737488355328 then L31_0b n q
 s0 s7 s27 s28 (IntKind.wrap IntKind.i64 (s29 + 1)) h000 h001 h002 h003 h004 h100 (h2 ++ [Tree.agg [Tree.str (Tree.toStr (List.headD (Tree.cs (List.headD (Tree.tupl y)
 (Tree.bool false))) (Tree.bool false))), Tree.slc (Tree.elems (List.headD (List.tail (Tree.cs (List.headD (Tree.tupl y) (Tree.bool false)))) (Tree.bool false)))]]) else
 none else none else none else none else Option.bind (evP eQ n 60 [Tree.slc s0, Tree.agg [q4 h000, q4 h001, Tree.str h002, Tree.slc h003, Tree.slc h004], Tree.slc h2]) fun
 y => bif Sh.ok (Sh.tup [q2, Sh.bool]) y then some (Tree.tup [Tree.agg [Tree.str (Tree.toStr (List.headD (Tree.cs (List.headD (Tree.tupl y) (Tree.bool false))) (Tree.bool
 false))), Tree.slc (Tree.elems (List.headD (List.tail (Tree.cs (List.headD (Tree.tupl y) (Tree.bool false)))) (Tree.bool false)))], Tree.slc [], Tree.bool (Tree.toBool
 (List.headD (List.tail (Tree.tupl y)) (Tree.bool false)))]) else none := by kernel_rfl

theorem l31_0c (n q : Nat) (s0 s27 : List Tree) (s28 s29 h000 h001 : Int) (h002 : List UInt8) (h003 h004 : List Tree) (h100 : List UInt8) (h2 : List Tree) : L31_0c n
 (Nat.succ q) s0 s27 s28 s29 h000 h001 h002 h003 h004 h100 h2 = bif decide (s29 < s28) then bif decide (0 ≤ s29) then Option.bind (nth s27 (Int.toNat s29)) fun y => bif
 Sh.ok q0 y then Option.bind (evP eQ n 31 [Tree.slc h2, Tree.agg [q4 (Tree.toInt (List.headD (Tree.cs y) (Tree.bool false))), q4 (Tree.toInt (List.headD (List.tail
 (Tree.cs y)) (Tree.bool false))), Tree.str (Tree.toStr (List.headD (List.tail (List.tail (Tree.cs y))) (Tree.bool false))), Tree.slc (Tree.elems (List.headD (List.tail
 (List.tail (List.tail (Tree.cs y)))) (Tree.bool false))), Tree.slc (Tree.elems (List.headD (List.tail (List.tail (List.tail (List.tail (Tree.cs y))))) (Tree.bool
 false)))]]) fun y => bif Sh.ok (Sh.tup [q2, Sh.slc, Sh.bool]) y then bif !Tree.toBool (List.headD (List.tail (List.tail (Tree.tupl y))) (Tree.bool false)) then bif
 firstOk (Sh.int IntKind.i64) (Tree.elems (List.headD (List.tail (Tree.tupl y)) (Tree.bool false))) then bif true && Nat.ble ((1 + List.length (Tree.elems (List.headD
 (List.tail (Tree.tupl y)) (Tree.bool false)))) * 8) 140737488355328 then some (Tree.tup [Tree.agg [Tree.str [], Tree.slc []], Tree.slc (q4 s29 :: Tree.elems (List.headD
 (List.tail (Tree.tupl y)) (Tree.bool false))), Tree.bool false]) else none else none else L31_0x3 n q s0 s27 s28 (IntKind.wrap IntKind.i64 (s29 + 1)) h000 h001 h002 h003
 h004 h100 h2 [Tree.agg [Tree.str (Tree.toStr (List.headD (Tree.cs (List.headD (Tree.tupl y) (Tree.bool false))) (Tree.bool false))), Tree.slc (Tree.elems (List.headD
 (List.tail (Tree.cs (List.headD (Tree.tupl y) (Tree.bool false)))) (Tree.bool false)))]] else none else none else none else Option.bind (evP eQ n 60 [Tree.slc s0,
 Tree.agg [q4 h000, q4 h001, Tree.str h002, Tree.slc h003, Tree.slc h004], Tree.slc []]) fun y => bif Sh.ok (Sh.tup [q2, Sh.bool]) y then some (Tree.tup [Tree.agg
 [Tree.str (Tree.toStr (List.headD (Tree.cs (List.headD (Tree.tupl y) (Tree.bool false))) (Tree.bool false))), Tree.slc (Tree.elems (List.headD (List.tail (Tree.cs
 (List.headD (Tree.tupl y) (Tree.bool false)))) (Tree.bool false)))], Tree.slc [], Tree.bool (Tree.toBool (List.headD (List.tail (Tree.tupl y)) (Tree.bool false)))]) else
 none := by kernel_rfl

theorem l31_0x3 (n q : Nat) (s0 s27 : List Tree) (s28 s29 h000 h001 : Int) (h002 : List UInt8) (h003 h004 : List Tree) (h100 : List UInt8) (h2 h3 : List Tree) : L31_0x3 n
 (Nat.succ q) s0 s27 s28 s29 h000 h001 h002 h003 h004 h100 h2 h3 = bif decide (s29 < s28) then bif decide (0 ≤ s29) then Option.bind (nth s27 (Int.toNat s29)) fun y => bif
 Sh.ok q0 y then Option.bind (evP eQ n 31 [Tree.slc h2, Tree.agg [q4 (Tree.toInt (List.headD (Tree.cs y) (Tree.bool false))), q4 (Tree.toInt (List.headD (List.tail
 (Tree.cs y)) (Tree.bool false))), Tree.str (Tree.toStr (List.headD (List.tail (List.tail (Tree.cs y))) (Tree.bool false))), Tree.slc (Tree.elems (List.headD (List.tail
 (List.tail (List.tail (Tree.cs y)))) (Tree.bool false))), Tree.slc (Tree.elems (List.headD (List.tail (List.tail (List.tail (List.tail (Tree.cs y))))) (Tree.bool
 false)))]]) fun y => bif Sh.ok (Sh.tup [q2, Sh.slc, Sh.bool]) y then bif !Tree.toBool (List.headD (List.tail (List.tail (Tree.tupl y))) (Tree.bool false)) then bif
 firstOk (Sh.int IntKind.i64) (Tree.elems (List.headD (List.tail (Tree.tupl y)) (Tree.bool false))) then bif true && Nat.ble ((1 + List.length (Tree.elems (List.headD
 (List.tail (Tree.tupl y)) (Tree.bool false)))) * 8) 140737488355328 then some (Tree.tup [Tree.agg [Tree.str [], Tree.slc []], Tree.slc (q4 s29 :: Tree.elems (List.headD
 (List.tail (Tree.tupl y)) (Tree.bool false))), Tree.bool false]) else none else none else bif true && Nat.ble ((List.length h3 + 1) * 40) 140737488355328 then L31_0x3 n q
 s0 s27 s28 (IntKind.wrap IntKind.i64 (s29 + 1)) h000 h001 h002 h003 h004 h100 h2 (h3 ++ [Tree.agg [Tree.str (Tree.toStr (List.headD (Tree.cs (List.headD (Tree.tupl y)
 (Tree.bool false))) (Tree.bool false))), Tree.slc (Tree.elems (List.headD (List.tail (Tree.cs (List.headD (Tree.tupl y) (Tree.bool false)))) (Tree.bool false)))]]) else
 none else none else none else none else Option.bind (evP eQ n 60 [Tree.slc s0, Tree.agg [q4 h000, q4 h001, Tree.str h002, Tree.slc h003, Tree.slc h004], Tree.slc h3]) fun
 y => bif Sh.ok (Sh.tup [q2, Sh.bool]) y then some (Tree.tup [Tree.agg [Tree.str (Tree.toStr (List.headD (Tree.cs (List.headD (Tree.tupl y) (Tree.bool false))) (Tree.bool
 false))), Tree.slc (Tree.elems (List.headD (List.tail (Tree.cs (List.headD (Tree.tupl y) (Tree.bool false)))) (Tree.bool false)))], Tree.slc [], Tree.bool (Tree.toBool
 (List.headD (List.tail (Tree.tupl y)) (Tree.bool false)))]) else none := by kernel_rfl

theorem e32 (n : Nat) (a00 : List UInt8) (a01 : List Tree) : evQ eQ n 32 [Tree.agg [Tree.str a00, Tree.slc a01]] = bif firstOk q2 a01 then bif Nat.ble (List.length a01 *
 40) 140737488355328 then L32_0 n n (↑(List.length a01) : Int) 0 a00 a01 [] else none else none := by kernel_rfl

theorem l32_0 (n q : Nat) (s10 s11 : Int) (h000 : List UInt8) (h1 : List Tree) (h200 : List UInt8) : L32_0 n (Nat.succ q) s10 s11 h000 h1 h200 = bif decide (s11 < s10)
 then bif decide (0 ≤ s11) && (decide (s11 < (↑(List.length h1) : Int)) && true) then Option.bind (nth h1 (Int.toNat s11)) fun y => bif Sh.ok q2 y then Option.bind (evP eQ
 n 32 [Tree.agg [Tree.str (Tree.toStr (List.headD (Tree.cs y) (Tree.bool false))), Tree.slc (Tree.elems (List.headD (List.tail (Tree.cs y)) (Tree.bool false)))]]) fun y =>
 bif Sh.ok q2 y then bif decide (0 ≤ s11) && (decide (s11 < (↑(List.length h1) : Int)) && true) then Option.bind (nth h1 (Int.toNat s11)) fun y_1 => bif Sh.ok q2 y_1 then
 L32_0 n q s10 (IntKind.wrap IntKind.i64 (s11 + 1)) h000 (setN h1 (Int.toNat s11) (Tree.agg [Tree.str (Tree.toStr (List.headD (Tree.cs y) (Tree.bool false))), Tree.slc
 (Tree.elems (List.headD (List.tail (Tree.cs y)) (Tree.bool false)))])) h200 else none else none else none else none else none else some (Tree.agg [Tree.str h000, Tree.slc
 h1]) := by kernel_rfl

theorem e35 (n : Nat) (a0 : List Tree) (a1 : Int) : evQ eQ n 35 [Tree.slc a0, q4 a1] = L35_0 n n a0 a1 0 0 := by kernel_rfl

theorem l35_0 (n q : Nat) (s0 : List Tree) (s1 s5 s6 : Int) : L35_0 n (Nat.succ q) s0 s1 s5 s6 = bif decide (s6 < (↑(List.length s0) : Int)) then bif decide (s5 ≤ s1) then
 bif decide (0 ≤ s6) then Option.bind (nth s0 (Int.toNat s6)) fun y => bif Sh.ok q2 y then bif decide ((↑(List.length (Tree.toStr (List.headD (Tree.cs y) (Tree.bool
 false)))) : Int) > 100) then some (q4 (IntKind.wrap IntKind.i64 (s1 + 1))) else bif decide (0 ≤ s6) then Option.bind (nth s0 (Int.toNat s6)) fun y => bif Sh.ok q2 y then
 Option.bind (evP eQ n 35 [Tree.slc (Tree.elems (List.headD (List.tail (Tree.cs y)) (Tree.bool false))), q4 (IntKind.wrap IntKind.i64 (s1 - s5))]) fun y => bif Sh.ok
 (Sh.int IntKind.i64) y then L35_0 n q s0 s1 (IntKind.wrap IntKind.i64 (IntKind.wrap IntKind.i64 (s5 + 1) + Tree.toInt y)) (IntKind.wrap IntKind.i64 (s6 + 1)) else none
 else none else none else none else none else some (q4 s5) else some (q4 s5) := by kernel_rfl

theorem e36 (n : Nat) (a00 : List UInt8) (a01 : List Tree) : evQ eQ n 36 [Tree.agg [Tree.str a00, Tree.slc a01]] = bif a00 == [] then some (Tree.bool ((↑(List.length a01)
 : Int) == 0)) else some (Tree.bool false) := by kernel_rfl

theorem e37 (n : Nat) (a0 : List Tree) (a1g : Nat) (a1p a1c : List Tree) : evQ eQ n 37 [Tree.slc a0, Tree.fn a1g a1p a1c] = Option.bind (evP eQ n 65 [Tree.slc a0, Tree.fn
 a1g a1p a1c]) fun y => bif Sh.ok (Sh.int IntKind.i64) y then some (Tree.bool (decide (Tree.toInt y ≥ 0))) else none := by kernel_rfl

theorem e38 (n : Nat) (a00 a01 : Int) (a02 : List UInt8) (a03 a04 : List Tree) : evQ eQ n 38 [Tree.agg [q4 a00, q4 a01, Tree.str a02, Tree.slc a03, Tree.slc a04]] =
 Option.bind (evP eQ n 15 [Tree.agg [q4 a00, q4 a01, Tree.str a02, Tree.slc a03, Tree.slc a04]]) fun y => bif Sh.ok Sh.bool y then some (Tree.bool !Tree.toBool y) else
 none := by kernel_rfl

theorem e39 (n : Nat) (a00 a01 : Int) (a02 : List UInt8) (a03 a04 : List Tree) : evQ eQ n 39 [Tree.agg [q4 a00, q4 a01, Tree.str a02, Tree.slc a03, Tree.slc a04]] = L39_0
 n n 0 0 a04 (↑(List.length a04) : Int) 0 := by kernel_rfl

theorem l39_0 (n q : Nat) (s2 s3 : Int) (s9 : List Tree) (s10 s11 : Int) : L39_0 n (Nat.succ q) s2 s3 s9 s10 s11 = bif decide (s11 < s10) then bif decide (0 ≤ s11) then
 Option.bind (nth s9 (Int.toNat s11)) fun y => bif Sh.ok q0 y then Option.bind (evP eQ n 39 [Tree.agg [q4 (Tree.toInt (List.headD (Tree.cs y) (Tree.bool false))), q4
 (Tree.toInt (List.headD (List.tail (Tree.cs y)) (Tree.bool false))), Tree.str (Tree.toStr (List.headD (List.tail (List.tail (Tree.cs y))) (Tree.bool false))), Tree.slc
 (Tree.elems (List.headD (List.tail (List.tail (List.tail (Tree.cs y)))) (Tree.bool false))), Tree.slc (Tree.elems (List.headD (List.tail (List.tail (List.tail (List.tail
 (Tree.cs y))))) (Tree.bool false)))]]) fun y => bif Sh.ok (Sh.tup [Sh.int IntKind.i64, Sh.int IntKind.i64]) y then L39_0 n q (IntKind.wrap IntKind.i64 (s2 + Tree.toInt
 (List.headD (Tree.tupl y) (Tree.bool false)))) (imax s3 (Tree.toInt (List.headD (List.tail (Tree.tupl y)) (Tree.bool false)))) s9 s10 (IntKind.wrap IntKind.i64 (s11 + 1))
 else none else none else none else some (Tree.tup [q4 (IntKind.wrap IntKind.i64 (s2 + 1)), q4 (IntKind.wrap IntKind.i64 (s3 + 1))]) := by kernel_rfl

theorem e40 (n : Nat) (a00 a01 : Int) (a02 : List UInt8) (a03 a04 : List Tree) : evQ eQ n 40 [Tree.agg [q4 a00, q4 a01, Tree.str a02, Tree.slc a03, Tree.slc a04]] = bif
 a00 == 1 then Option.bind (evP eQ n 66 [q4 a00]) fun y => bif Sh.ok (Sh.int IntKind.i64) y then bif (↑(List.length a04) : Int) != Tree.toInt y then some (Tree.bool false)
 else bif decide (a01 < 0) then some (Tree.bool false) else bif decide (a01 > 200) then some (Tree.bool false) else bif a00 == 2 then Option.bind (evP eQ n 58 [Tree.agg
 [Tree.str a02, Tree.slc a03]]) fun y => bif Sh.ok Sh.bool y then bif !Tree.toBool y then some (Tree.bool false) else bif a00 != 2 then Option.bind (evP eQ n 36 [Tree.agg
 [Tree.str a02, Tree.slc a03]]) fun y => bif Sh.ok Sh.bool y then bif !Tree.toBool y then some (Tree.bool false) else Option.bind (evP eQ n 37 [Tree.slc a04, Tree.fn 67 []
 []]) fun y => bif Sh.ok Sh.bool y then some (Tree.bool !Tree.toBool y) else none else none else Option.bind (evP eQ n 37 [Tree.slc a04, Tree.fn 67 [] []]) fun y => bif
 Sh.ok Sh.bool y then some (Tree.bool !Tree.toBool y) else none else none else bif a00 != 2 then Option.bind (evP eQ n 36 [Tree.agg [Tree.str a02, Tree.slc a03]]) fun y =>
 bif Sh.ok Sh.bool y then bif !Tree.toBool y then some (Tree.bool false) else Option.bind (evP eQ n 37 [Tree.slc a04, Tree.fn 67 [] []]) fun y => bif Sh.ok Sh.bool y then
 some (Tree.bool !Tree.toBool y) else none else none else Option.bind (evP eQ n 37 [Tree.slc a04, Tree.fn 67 [] []]) fun y => bif Sh.ok Sh.bool y then some (Tree.bool
 !Tree.toBool y) else none else none else bif a00 == 4 then Option.bind (evP eQ n 66 [q4 a00]) fun y => bif Sh.ok (Sh.int IntKind.i64) y then bif (↑(List.length a04) :
 Int) != Tree.toInt y then some (Tree.bool false) else bif decide (a01 < 0) then some (Tree.bool false) else bif decide (a01 > 1000) then some (Tree.bool false) else bif
 a00 == 2 then Option.bind (evP eQ n 58 [Tree.agg [Tree.str a02, Tree.slc a03]]) fun y => bif Sh.ok Sh.bool y then bif !Tree.toBool y then some (Tree.bool false) else bif
 a00 != 2 then Option.bind (evP eQ n 36 [Tree.agg [Tree.str a02, Tree.slc a03]]) fun y => bif Sh.ok Sh.bool y then bif !Tree.toBool y then some (Tree.bool false) else
 Option.bind (evP eQ n 37 [Tree.slc a04, Tree.fn 67 [] []]) fun y => bif Sh.ok Sh.bool y then some (Tree.bool !Tree.toBool y) else none else none else Option.bind (evP eQ
 n 37 [Tree.slc a04, Tree.fn 67 [] []]) fun y => bif Sh.ok Sh.bool y then some (Tree.bool !Tree.toBool y) else none else none else bif a00 != 2 then Option.bind (evP eQ n
 36 [Tree.agg [Tree.str a02, Tree.slc a03]]) fun y => bif Sh.ok Sh.bool y then bif !Tree.toBool y then some (Tree.bool false) else Option.bind (evP eQ n 37 [Tree.slc a04,
 Tree.fn 67 [] []]) fun y => bif Sh.ok Sh.bool y then some (Tree.bool !Tree.toBool y) else none else none else Option.bind (evP eQ n 37 [Tree.slc a04, Tree.fn 67 [] []])
 fun y => bif Sh.ok Sh.bool y then some (Tree.bool !Tree.toBool y) else none else none else Option.bind (evP eQ n 66 [q4 a00]) fun y => bif Sh.ok (Sh.int IntKind.i64) y
 then bif (↑(List.length a04) : Int) != Tree.toInt y then some (Tree.bool false) else bif decide (a01 < 0) then some (Tree.bool false) else bif decide (a01 > 0) then some
 (Tree.bool false) else bif a00 == 2 then Option.bind (evP eQ n 58 [Tree.agg [Tree.str a02, Tree.slc a03]]) fun y => bif Sh.ok Sh.bool y then bif !Tree.toBool y then some
 (Tree.bool false) else bif a00 != 2 then Option.bind (evP eQ n 36 [Tree.agg [Tree.str a02, Tree.slc a03]]) fun y => bif Sh.ok Sh.bool y then bif !Tree.toBool y then some
 (Tree.bool false) else Option.bind (evP eQ n 37 [Tree.slc a04, Tree.fn 67 [] []]) fun y => bif Sh.ok Sh.bool y then some (Tree.bool !Tree.toBool y) else none else none
 else Option.bind (evP eQ n 37 [Tree.slc a04, Tree.fn 67 [] []]) fun y => bif Sh.ok Sh.bool y then some (Tree.bool !Tree.toBool y) else none else none else bif a00 != 2
 then Option.bind (evP eQ n 36 [Tree.agg [Tree.str a02, Tree.slc a03]]) fun y => bif Sh.ok Sh.bool y then bif !Tree.toBool y then some (Tree.bool false) else Option.bind
 (evP eQ n 37 [Tree.slc a04, Tree.fn 67 [] []]) fun y => bif Sh.ok Sh.bool y then some (Tree.bool !Tree.toBool y) else none else none else Option.bind (evP eQ n 37
 [Tree.slc a04, Tree.fn 67 [] []]) fun y => bif Sh.ok Sh.bool y then some (Tree.bool !Tree.toBool y) else none else none := by kernel_rfl

theorem e42 (n : Nat) (o k : Int) (tn : List UInt8) (tl l : List Tree) (d : Int) : evQ eQ n 42 [Tree.agg [q4 o, q4 k, Tree.str tn, Tree.slc tl, Tree.slc l], Tree.ptr (q4
 d) 0] = Option.bind (evP eQ n 18 [Tree.agg [q4 o, q4 k, Tree.str tn, Tree.slc tl, Tree.slc l], q4 d]) fun y => bif Sh.ok Sh.bool y then some (Tree.bool !Tree.toBool y)
 else none := by kernel_rfl

theorem e41 (n : Nat) : evQ eQ n 41 [] = some (Tree.agg [Tree.str [78, 97, 116], Tree.slc []]) := by kernel_rfl

theorem e56 (n : Nat) (a0 : List Tree) (a1g : Nat) (a1p a1c : List Tree) : evQ eQ n 56 [Tree.slc a0, Tree.fn a1g a1p a1c] = Option.bind (evP eQ n 75 [Tree.slc a0, Tree.fn
 a1g a1p a1c]) fun y => bif Sh.ok (Sh.int IntKind.i64) y then some (Tree.bool (decide (Tree.toInt y ≥ 0))) else none := by kernel_rfl

theorem e57 (n : Nat) (a00 : List UInt8) (a01 : List Tree) : evQ eQ n 57 [Tree.agg [Tree.str a00, Tree.slc a01]] = Option.bind (evP eQ n 58 [Tree.agg [Tree.str a00,
 Tree.slc a01]]) fun y => bif Sh.ok Sh.bool y then some (Tree.bool !Tree.toBool y) else none := by kernel_rfl

theorem e58 (n : Nat) (a00 : List UInt8) (a01 : List Tree) : evQ eQ n 58 [Tree.agg [Tree.str a00, Tree.slc a01]] = Option.bind (evP eQ n 76 [Tree.agg [Tree.str a00,
 Tree.slc a01]]) fun y => bif Sh.ok (Sh.tup [Sh.int IntKind.i64, Sh.int IntKind.i64]) y then bif decide (Tree.toInt (List.headD (Tree.tupl y) (Tree.bool false)) ≤ 60) then
 bif decide (Tree.toInt (List.headD (List.tail (Tree.tupl y)) (Tree.bool false)) ≤ 12) then Option.bind (evP eQ n 77 [Tree.agg [Tree.str a00, Tree.slc a01]]) fun y => bif
 Sh.ok Sh.bool y then some (Tree.bool (Tree.toBool y)) else none else some (Tree.bool false) else some (Tree.bool false) else none := by kernel_rfl

theorem e60 (n : Nat) (a0 : List Tree) (a10 a11 : Int) (a12 : List UInt8) (a13 a14 a2 : List Tree) : evQ eQ n 60 [Tree.slc a0, Tree.agg [q4 a10, q4 a11, Tree.str a12,
 Tree.slc a13, Tree.slc a14], Tree.slc a2] = bif a10 == 1 then bif decide (a11 < (↑(List.length a0) : Int)) then bif decide (0 ≤ IntKind.wrap IntKind.i64 (IntKind.wrap
 IntKind.i64 ((↑(List.length a0) : Int) - 1) - a11)) then Option.bind (nth a0 (Int.toNat (IntKind.wrap IntKind.i64 (IntKind.wrap IntKind.i64 ((↑(List.length a0) : Int) -
 1) - a11)))) fun y => bif Sh.ok q2 y then some (Tree.tup [Tree.agg [Tree.str (Tree.toStr (List.headD (Tree.cs y) (Tree.bool false))), Tree.slc (Tree.elems (List.headD
 (List.tail (Tree.cs y)) (Tree.bool false)))], Tree.bool true]) else none else none else some (Tree.tup [Tree.agg [Tree.str [], Tree.slc []], Tree.bool false]) else bif
 a10 == 2 then Option.bind (nth a2 0) fun y => bif Sh.ok q2 y then Option.bind (evP eQ n 78 [Tree.agg [Tree.str a12, Tree.slc a13], Tree.agg [Tree.str (Tree.toStr
 (List.headD (Tree.cs y) (Tree.bool false))), Tree.slc (Tree.elems (List.headD (List.tail (Tree.cs y)) (Tree.bool false)))]]) fun y => bif Sh.ok q2 y then some (Tree.tup
 [Tree.agg [Tree.str (Tree.toStr (List.headD (Tree.cs y) (Tree.bool false))), Tree.slc (Tree.elems (List.headD (List.tail (Tree.cs y)) (Tree.bool false)))], Tree.bool
 true]) else none else none else bif a10 == 3 then Option.bind (nth a2 0) fun y => bif Sh.ok q2 y then bif Tree.toStr (List.headD (Tree.cs y) (Tree.bool false)) == [84,
 111] then Option.bind (nth a2 0) fun y => bif Sh.ok q2 y then Option.bind (nth (Tree.elems (List.headD (List.tail (Tree.cs y)) (Tree.bool false))) 0) fun y => bif Sh.ok
 q2 y then Option.bind (nth a2 1) fun y_1 => bif Sh.ok q2 y_1 then Option.bind (evP eQ n 79 [Tree.agg [Tree.str (Tree.toStr (List.headD (Tree.cs y) (Tree.bool false))),
 Tree.slc (Tree.elems (List.headD (List.tail (Tree.cs y)) (Tree.bool false)))], Tree.agg [Tree.str (Tree.toStr (List.headD (Tree.cs y_1) (Tree.bool false))), Tree.slc
 (Tree.elems (List.headD (List.tail (Tree.cs y_1)) (Tree.bool false)))]]) fun y => bif Sh.ok Sh.bool y then bif Tree.toBool y then Option.bind (nth a2 0) fun y => bif
 Sh.ok q2 y then Option.bind (nth (Tree.elems (List.headD (List.tail (Tree.cs y)) (Tree.bool false))) 1) fun y => bif Sh.ok q2 y then some (Tree.tup [Tree.agg [Tree.str
 (Tree.toStr (List.headD (Tree.cs y) (Tree.bool false))), Tree.slc (Tree.elems (List.headD (List.tail (Tree.cs y)) (Tree.bool false)))], Tree.bool true]) else none else
 none else some (Tree.tup [Tree.agg [Tree.str [], Tree.slc []], Tree.bool false]) else none else none else none else none else some (Tree.tup [Tree.agg [Tree.str [],
 Tree.slc []], Tree.bool false]) else none else bif a10 == 4 then Option.bind (evP eQ n 41 []) fun y => bif Sh.ok q2 y then some (Tree.tup [Tree.agg [Tree.str (Tree.toStr
 (List.headD (Tree.cs y) (Tree.bool false))), Tree.slc (Tree.elems (List.headD (List.tail (Tree.cs y)) (Tree.bool false)))], Tree.bool true]) else none else bif a10 == 5
 then Option.bind (evP eQ n 41 []) fun y => bif Sh.ok q2 y then Option.bind (nth a2 0) fun y_1 => bif Sh.ok q2 y_1 then some (Tree.tup [Tree.agg [Tree.str (Tree.toStr
 (List.headD (Tree.cs y) (Tree.bool false))), Tree.slc (Tree.elems (List.headD (List.tail (Tree.cs y)) (Tree.bool false)))], Tree.bool (Tree.toStr (List.headD (Tree.cs
 y_1) (Tree.bool false)) == [78, 97, 116])]) else none else none else bif a10 == 6 then Option.bind (nth a2 2) fun y => bif Sh.ok q2 y then Option.bind (nth a2 0) fun y_1
 => bif Sh.ok q2 y_1 then bif Tree.toStr (List.headD (Tree.cs y_1) (Tree.bool false)) == [78, 97, 116] then Option.bind (nth a2 1) fun y_2 => bif Sh.ok q2 y_2 then
 Option.bind (nth a2 2) fun y_3 => bif Sh.ok q2 y_3 then Option.bind (nth a2 2) fun y_4 => bif Sh.ok q2 y_4 then Option.bind (evP eQ n 78 [Tree.agg [Tree.str (Tree.toStr
 (List.headD (Tree.cs y_3) (Tree.bool false))), Tree.slc (Tree.elems (List.headD (List.tail (Tree.cs y_3)) (Tree.bool false)))], Tree.agg [Tree.str (Tree.toStr (List.headD
 (Tree.cs y_4) (Tree.bool false))), Tree.slc (Tree.elems (List.headD (List.tail (Tree.cs y_4)) (Tree.bool false)))]]) fun y_5 => bif Sh.ok q2 y_5 then Option.bind (evP eQ
 n 79 [Tree.agg [Tree.str (Tree.toStr (List.headD (Tree.cs y_2) (Tree.bool false))), Tree.slc (Tree.elems (List.headD (List.tail (Tree.cs y_2)) (Tree.bool false)))],
 Tree.agg [Tree.str (Tree.toStr (List.headD (Tree.cs y_5) (Tree.bool false))), Tree.slc (Tree.elems (List.headD (List.tail (Tree.cs y_5)) (Tree.bool false)))]]) fun y_6 =>
 bif Sh.ok Sh.bool y_6 then some (Tree.tup [Tree.agg [Tree.str (Tree.toStr (List.headD (Tree.cs y) (Tree.bool false))), Tree.slc (Tree.elems (List.headD (List.tail
 (Tree.cs y)) (Tree.bool false)))], Tree.bool (Tree.toBool y_6)]) else none else none else none else none else none else some (Tree.tup [Tree.agg [Tree.str (Tree.toStr
 (List.headD (Tree.cs y) (Tree.bool false))), Tree.slc (Tree.elems (List.headD (List.tail (Tree.cs y)) (Tree.bool false)))], Tree.bool false]) else none else none else bif
 a10 == 7 then some (Tree.tup [Tree.agg [Tree.str [80, 97, 105, 114], Tree.slc a2], Tree.bool true]) else bif a10 == 8 then Option.bind (nth a2 0) fun y => bif Sh.ok q2 y
 then bif Tree.toStr (List.headD (Tree.cs y) (Tree.bool false)) == [80, 97, 105, 114] then Option.bind (nth a2 0) fun y => bif Sh.ok q2 y then bif decide (0 ≤ IntKind.wrap
 IntKind.i64 (a10 - 8)) then Option.bind (nth (Tree.elems (List.headD (List.tail (Tree.cs y)) (Tree.bool false))) (Int.toNat (IntKind.wrap IntKind.i64 (a10 - 8)))) fun y
 => bif Sh.ok q2 y then some (Tree.tup [Tree.agg [Tree.str (Tree.toStr (List.headD (Tree.cs y) (Tree.bool false))), Tree.slc (Tree.elems (List.headD (List.tail (Tree.cs
 y)) (Tree.bool false)))], Tree.bool true]) else none else none else none else some (Tree.tup [Tree.agg [Tree.str [], Tree.slc []], Tree.bool false]) else none else bif
 a10 == 9 then Option.bind (nth a2 0) fun y => bif Sh.ok q2 y then bif Tree.toStr (List.headD (Tree.cs y) (Tree.bool false)) == [80, 97, 105, 114] then Option.bind (nth a2
 0) fun y => bif Sh.ok q2 y then bif decide (0 ≤ IntKind.wrap IntKind.i64 (a10 - 8)) then Option.bind (nth (Tree.elems (List.headD (List.tail (Tree.cs y)) (Tree.bool
 false))) (Int.toNat (IntKind.wrap IntKind.i64 (a10 - 8)))) fun y => bif Sh.ok q2 y then some (Tree.tup [Tree.agg [Tree.str (Tree.toStr (List.headD (Tree.cs y) (Tree.bool
 false))), Tree.slc (Tree.elems (List.headD (List.tail (Tree.cs y)) (Tree.bool false)))], Tree.bool true]) else none else none else none else some (Tree.tup [Tree.agg
 [Tree.str [], Tree.slc []], Tree.bool false]) else none else some (Tree.tup [Tree.agg [Tree.str [], Tree.slc []], Tree.bool false]) := by kernel_rfl

theorem e62 (n : Nat) (a00 : List UInt8) (a01 : List Tree) : evQ eQ n 62 [Tree.agg [Tree.str a00, Tree.slc a01]] = bif (↑(List.length a01) : Int) == 0 then bif decide
 ((↑(List.length a00) : Int) > 0) then Option.bind (nth a00 0) fun y => some (Tree.bool ((↑(UInt8.toNat y) : Int) == 63)) else some (Tree.bool false) else some (Tree.bool
 false) := by kernel_rfl

theorem e63 (n : Nat) (a0 : List Tree) (a1 : List UInt8) : evQ eQ n 63 [Tree.slc a0, Tree.str a1] = L63_0 n n a0 a1 0 := by kernel_rfl

theorem l63_0 (n q : Nat) (s0 : List Tree) (s1 : List UInt8) (s5 : Int) : L63_0 n (Nat.succ q) s0 s1 s5 = bif decide (s5 < (↑(List.length s0) : Int)) then bif decide (0 ≤
 s5) then Option.bind (nth s0 (Int.toNat s5)) fun y => bif Sh.ok Sh.str y then bif Tree.toStr y == s1 then some (q4 s5) else L63_0 n q s0 s1 (IntKind.wrap IntKind.i64 (s5
 + 1)) else none else none else some (q4 (-1)) := by kernel_rfl

theorem e64 (n : Nat) (a00 : List UInt8) (a01 : List Tree) (a10 : List UInt8) (a11 : List Tree) : evQ eQ n 64 [Tree.agg [Tree.str a00, Tree.slc a01], Tree.agg [Tree.str
 a10, Tree.slc a11]] = Option.bind (evP eQ n 80 [Tree.agg [Tree.str a00, Tree.slc a01], Tree.agg [Tree.str a10, Tree.slc a11]]) fun y => bif Sh.ok (Sh.int IntKind.i64) y
 then some (Tree.bool (Tree.toInt y == 0)) else none := by kernel_rfl

theorem e65 (n : Nat) (a0 : List Tree) (a1g : Nat) (a1p a1c : List Tree) : evQ eQ n 65 [Tree.slc a0, Tree.fn a1g a1p a1c] = L65_0 n n a0 a1g a1p a1c (↑(List.length a0) :
 Int) 0 := by kernel_rfl

theorem l65_0 (n q : Nat) (s0 : List Tree) (s1g : Nat) (s1p s1c : List Tree) (s7 s8 : Int) : L65_0 n (Nat.succ q) s0 s1g s1p s1c s7 s8 = bif decide (s8 < s7) then bif
 decide (0 ≤ s8) then Option.bind (nth s0 (Int.toNat s8)) fun y => bif Sh.ok q0 y then Option.bind (evP eQ n s1g (s1p ++ [Tree.agg [q4 (Tree.toInt (List.headD (Tree.cs y)
 (Tree.bool false))), q4 (Tree.toInt (List.headD (List.tail (Tree.cs y)) (Tree.bool false))), Tree.str (Tree.toStr (List.headD (List.tail (List.tail (Tree.cs y)))
 (Tree.bool false))), Tree.slc (Tree.elems (List.headD (List.tail (List.tail (List.tail (Tree.cs y)))) (Tree.bool false))), Tree.slc (Tree.elems (List.headD (List.tail
 (List.tail (List.tail (List.tail (Tree.cs y))))) (Tree.bool false)))]] ++ s1c)) fun y => bif Sh.ok Sh.bool y then bif Tree.toBool y then some (q4 s8) else L65_0 n q s0
 s1g s1p s1c s7 (IntKind.wrap IntKind.i64 (s8 + 1)) else none else none else none else some (q4 (-1)) := by kernel_rfl

theorem e66 (n : Nat) (a0 : Int) : evQ eQ n 66 [q4 a0] = bif a0 == 1 then some (q4 0) else bif a0 == 4 then some (q4 0) else bif a0 == 2 then some (q4 1) else bif a0 == 5
 then some (q4 1) else bif a0 == 8 then some (q4 1) else bif a0 == 9 then some (q4 1) else bif a0 == 3 then some (q4 2) else bif a0 == 7 then some (q4 2) else bif a0 == 6
 then some (q4 3) else some (q4 (-1)) := by kernel_rfl

theorem e67 (n : Nat) (a00 a01 : Int) (a02 : List UInt8) (a03 a04 : List Tree) : evQ eQ n 67 [Tree.agg [q4 a00, q4 a01, Tree.str a02, Tree.slc a03, Tree.slc a04]] =
 Option.bind (evP eQ n 40 [Tree.agg [q4 a00, q4 a01, Tree.str a02, Tree.slc a03, Tree.slc a04]]) fun y => bif Sh.ok Sh.bool y then some (Tree.bool !Tree.toBool y) else
 none := by kernel_rfl

theorem e75 (n : Nat) (a0 : List Tree) (a1g : Nat) (a1p a1c : List Tree) : evQ eQ n 75 [Tree.slc a0, Tree.fn a1g a1p a1c] = L75_0 n n a0 a1g a1p a1c (↑(List.length a0) :
 Int) 0 := by kernel_rfl

theorem l75_0 (n q : Nat) (s0 : List Tree) (s1g : Nat) (s1p s1c : List Tree) (s7 s8 : Int) : L75_0 n (Nat.succ q) s0 s1g s1p s1c s7 s8 = bif decide (s8 < s7) then bif
 decide (0 ≤ s8) then Option.bind (nth s0 (Int.toNat s8)) fun y => bif Sh.ok q2 y then Option.bind (evP eQ n s1g (s1p ++ [Tree.agg [Tree.str (Tree.toStr (List.headD
 (Tree.cs y) (Tree.bool false))), Tree.slc (Tree.elems (List.headD (List.tail (Tree.cs y)) (Tree.bool false)))]] ++ s1c)) fun y => bif Sh.ok Sh.bool y then bif Tree.toBool
 y then some (q4 s8) else L75_0 n q s0 s1g s1p s1c s7 (IntKind.wrap IntKind.i64 (s8 + 1)) else none else none else none else some (q4 (-1)) := by kernel_rfl

theorem e76 (n : Nat) (a00 : List UInt8) (a01 : List Tree) : evQ eQ n 76 [Tree.agg [Tree.str a00, Tree.slc a01]] = L76_0 n n 0 0 a01 (↑(List.length a01) : Int) 0 := by
 kernel_rfl

theorem l76_0 (n q : Nat) (s2 s3 : Int) (s9 : List Tree) (s10 s11 : Int) : L76_0 n (Nat.succ q) s2 s3 s9 s10 s11 = bif decide (s11 < s10) then bif decide (0 ≤ s11) then
 Option.bind (nth s9 (Int.toNat s11)) fun y => bif Sh.ok q2 y then Option.bind (evP eQ n 76 [Tree.agg [Tree.str (Tree.toStr (List.headD (Tree.cs y) (Tree.bool false))),
 Tree.slc (Tree.elems (List.headD (List.tail (Tree.cs y)) (Tree.bool false)))]]) fun y => bif Sh.ok (Sh.tup [Sh.int IntKind.i64, Sh.int IntKind.i64]) y then L76_0 n q
 (IntKind.wrap IntKind.i64 (s2 + Tree.toInt (List.headD (Tree.tupl y) (Tree.bool false)))) (imax s3 (Tree.toInt (List.headD (List.tail (Tree.tupl y)) (Tree.bool false))))
 s9 s10 (IntKind.wrap IntKind.i64 (s11 + 1)) else none else none else none else some (Tree.tup [q4 (IntKind.wrap IntKind.i64 (s2 + 1)), q4 (IntKind.wrap IntKind.i64 (s3 +
 1))]) := by kernel_rfl

theorem e77 (n : Nat) (a00 : List UInt8) (a01 : List Tree) : evQ eQ n 77 [Tree.agg [Tree.str a00, Tree.slc a01]] = bif a00 == [78, 97, 116] then some (Tree.bool
 ((↑(List.length a01) : Int) == 0)) else bif a00 == [84, 111] then bif (↑(List.length a01) : Int) == 2 then Option.bind (nth a01 0) fun y => bif Sh.ok q2 y then
 Option.bind (evP eQ n 77 [Tree.agg [Tree.str (Tree.toStr (List.headD (Tree.cs y) (Tree.bool false))), Tree.slc (Tree.elems (List.headD (List.tail (Tree.cs y)) (Tree.bool
 false)))]]) fun y => bif Sh.ok Sh.bool y then bif Tree.toBool y then Option.bind (nth a01 1) fun y => bif Sh.ok q2 y then Option.bind (evP eQ n 77 [Tree.agg [Tree.str
 (Tree.toStr (List.headD (Tree.cs y) (Tree.bool false))), Tree.slc (Tree.elems (List.headD (List.tail (Tree.cs y)) (Tree.bool false)))]]) fun y => bif Sh.ok Sh.bool y then
 some (Tree.bool (Tree.toBool y)) else none else none else some (Tree.bool false) else none else none else some (Tree.bool false) else bif a00 == [80, 97, 105, 114] then
 bif (↑(List.length a01) : Int) == 2 then Option.bind (nth a01 0) fun y => bif Sh.ok q2 y then Option.bind (evP eQ n 77 [Tree.agg [Tree.str (Tree.toStr (List.headD
 (Tree.cs y) (Tree.bool false))), Tree.slc (Tree.elems (List.headD (List.tail (Tree.cs y)) (Tree.bool false)))]]) fun y => bif Sh.ok Sh.bool y then bif Tree.toBool y then
 Option.bind (nth a01 1) fun y => bif Sh.ok q2 y then Option.bind (evP eQ n 77 [Tree.agg [Tree.str (Tree.toStr (List.headD (Tree.cs y) (Tree.bool false))), Tree.slc
 (Tree.elems (List.headD (List.tail (Tree.cs y)) (Tree.bool false)))]]) fun y => bif Sh.ok Sh.bool y then some (Tree.bool (Tree.toBool y)) else none else none else some
 (Tree.bool false) else none else none else some (Tree.bool false) else some (Tree.bool false) := by kernel_rfl

theorem e78 (n : Nat) (a00 : List UInt8) (a01 : List Tree) (a10 : List UInt8) (a11 : List Tree) : evQ eQ n 78 [Tree.agg [Tree.str a00, Tree.slc a01], Tree.agg [Tree.str
 a10, Tree.slc a11]] = some (Tree.agg [Tree.str [84, 111], Tree.slc [Tree.agg [Tree.str a00, Tree.slc a01], Tree.agg [Tree.str a10, Tree.slc a11]]]) := by kernel_rfl

theorem e79 (n : Nat) (a00 : List UInt8) (a01 : List Tree) (a10 : List UInt8) (a11 : List Tree) : evQ eQ n 79 [Tree.agg [Tree.str a00, Tree.slc a01], Tree.agg [Tree.str
 a10, Tree.slc a11]] = bif a00 == a10 then Option.bind (evP eQ n 86 [Tree.slc a01, Tree.slc a11, Tree.fn 79 [] []]) fun y => bif Sh.ok Sh.bool y then some (Tree.bool
 (Tree.toBool y)) else none else some (Tree.bool false) := by kernel_rfl

theorem e86 (n : Nat) (a0 a1 : List Tree) (a2g : Nat) (a2p a2c : List Tree) : evQ eQ n 86 [Tree.slc a0, Tree.slc a1, Tree.fn a2g a2p a2c] = bif (↑(List.length a0) : Int)
 != (↑(List.length a1) : Int) then some (Tree.bool false) else L86_0 n n a1 a2g a2p a2c a0 (↑(List.length a0) : Int) 0 := by kernel_rfl

theorem l86_0 (n q : Nat) (s1 : List Tree) (s2g : Nat) (s2p s2c s15 : List Tree) (s16 s17 : Int) : L86_0 n (Nat.succ q) s1 s2g s2p s2c s15 s16 s17 = bif decide (s17 < s16)
 then bif decide (0 ≤ s17) then Option.bind (nth s15 (Int.toNat s17)) fun y => bif Sh.ok q2 y then bif decide (0 ≤ s17) then Option.bind (nth s1 (Int.toNat s17)) fun y_1
 => bif Sh.ok q2 y_1 then Option.bind (evP eQ n s2g (s2p ++ [Tree.agg [Tree.str (Tree.toStr (List.headD (Tree.cs y) (Tree.bool false))), Tree.slc (Tree.elems (List.headD
 (List.tail (Tree.cs y)) (Tree.bool false)))], Tree.agg [Tree.str (Tree.toStr (List.headD (Tree.cs y_1) (Tree.bool false))), Tree.slc (Tree.elems (List.headD (List.tail
 (Tree.cs y_1)) (Tree.bool false)))]] ++ s2c)) fun y => bif Sh.ok Sh.bool y then bif !Tree.toBool y then some (Tree.bool false) else L86_0 n q s1 s2g s2p s2c s15 s16
 (IntKind.wrap IntKind.i64 (s17 + 1)) else none else none else none else none else none else some (Tree.bool true) := by kernel_rfl

theorem e5 (n : Nat) (a0 : List Tree) : evQ eQ n 5 [Tree.slc a0] = L5_0 n n a0 0 := by kernel_rfl

theorem l5_0 (n q : Nat) (s0 : List Tree) (s3 : Int) : L5_0 n (Nat.succ q) s0 s3 = bif decide (s3 < (↑(List.length s0) : Int)) then bif decide (0 ≤ s3) && (decide (s3 ≤
 IntKind.wrap IntKind.i64 (s3 + 1)) && decide (IntKind.wrap IntKind.i64 (s3 + 1) ≤ (↑(List.length s0) : Int))) then bif firstOk q0 (List.drop (Int.toNat s3) (List.take
 (Int.toNat (IntKind.wrap IntKind.i64 (s3 + 1))) s0)) then Option.bind (evP eQ n 13 [Tree.slc (List.drop (Int.toNat s3) (List.take (Int.toNat (IntKind.wrap IntKind.i64 (s3
 + 1))) s0)), q4 720]) fun y => bif Sh.ok (Sh.int IntKind.i64) y then bif decide (Tree.toInt y > 720) then some (Tree.bool true) else bif decide (0 ≤ s3) then Option.bind
 (nth s0 (Int.toNat s3)) fun y => bif Sh.ok q0 y then Option.bind (evP eQ n 14 [Tree.agg [q4 (Tree.toInt (List.headD (Tree.cs y) (Tree.bool false))), q4 (Tree.toInt
 (List.headD (List.tail (Tree.cs y)) (Tree.bool false))), Tree.str (Tree.toStr (List.headD (List.tail (List.tail (Tree.cs y))) (Tree.bool false))), Tree.slc (Tree.elems
 (List.headD (List.tail (List.tail (List.tail (Tree.cs y)))) (Tree.bool false))), Tree.slc (Tree.elems (List.headD (List.tail (List.tail (List.tail (List.tail (Tree.cs
 y))))) (Tree.bool false)))]]) fun y => bif Sh.ok (Sh.tup [Sh.int IntKind.i64, Sh.int IntKind.i64]) y then bif decide (Tree.toInt (List.headD (Tree.tupl y) (Tree.bool
 false)) > 120) then some (Tree.bool true) else L5_0 n q s0 (IntKind.wrap IntKind.i64 (s3 + 1)) else none else none else none else none else none else none else some
 (Tree.bool false) := by kernel_rfl

theorem e48 (n : Nat) (a0 : Int) : evQ eQ n 48 [q4 a0] = Option.bind (evP eQ n 69 [q4 a0]) fun y => bif Sh.ok Sh.str y then some (Tree.str (Tree.toStr y)) else none := by
 kernel_rfl

theorem e69 (n : Nat) (a0 : Int) : evQ eQ n 69 [q4 a0] = Option.bind (evP eQ n 82 [q4 a0, q4 10]) fun y => bif Sh.ok Sh.str y then some (Tree.str (Tree.toStr y)) else none
 := by kernel_rfl

theorem e82 (n : Nat) (a0 a1 : Int) : evQ eQ n 82 [q4 a0, q4 a1] = bif a1 == 10 then bif decide (0 ≤ a0) then bif decide (a0 < 100) then Option.bind (evP eQ n 90 [q4 a0])
 fun y => bif Sh.ok Sh.str y then some (Tree.str (Tree.toStr y)) else none else bif decide (a0 < 0) then Option.bind (evP eQ n 91 [Tree.int IntKind.u64 (IntKind.wrap
 IntKind.u64 (0 - IntKind.wrap IntKind.u64 a0))]) fun y => bif Sh.ok (Sh.int IntKind.i64) y then none else none else Option.bind (evP eQ n 91 [Tree.int IntKind.u64
 (IntKind.wrap IntKind.u64 a0)]) fun y => bif Sh.ok (Sh.int IntKind.i64) y then none else none else bif decide (a0 < 0) then Option.bind (evP eQ n 91 [Tree.int IntKind.u64
 (IntKind.wrap IntKind.u64 (0 - IntKind.wrap IntKind.u64 a0))]) fun y => bif Sh.ok (Sh.int IntKind.i64) y then none else none else Option.bind (evP eQ n 91 [Tree.int
 IntKind.u64 (IntKind.wrap IntKind.u64 a0)]) fun y => bif Sh.ok (Sh.int IntKind.i64) y then none else none else Option.bind (evP eQ n 93 [Tree.slc [], Tree.int IntKind.u64
 (IntKind.wrap IntKind.u64 a0), q4 a1, Tree.bool (decide (a0 < 0)), Tree.bool false]) fun y => bif Sh.ok (Sh.tup [Sh.slc, Sh.str]) y then some (Tree.str (Tree.toStr
 (List.headD (List.tail (Tree.tupl y)) (Tree.bool false)))) else none := by kernel_rfl

theorem e87 (n : Nat) (a0 a1 : List UInt8) : evQ eQ n 87 [Tree.str a0, Tree.str a1] = bif Op.bytesLess a0 a1 then some (q4 (-1)) else bif !(Op.bytesLess a0 a1 || a0 == a1)
 then some (q4 1) else some (q4 0) := by kernel_rfl


end Go.Proofs.Cw.Si
end

/-
  SIMPLE, specs 1: sizes.
-/
section
namespace Go.Proofs.Cw.Si
open Go.Proofs
abbrev E : Env := Tab.env tab
@[simp] theorem toStr_str (s : List UInt8) : Tree.toStr (.str s) = s := rfl
@[simp] theorem ok_str (s : List UInt8) : Sh.ok .str (.str s) = true := rfl
theorem okT_sh (t : Ty) : Sh.ok (Sh.agg [Sh.str, Sh.slc]) (encT t) = true := by cases t; simp [encT]
theorem lookT (t : Ty) : Tree.agg [Tree.str (Tree.toStr (List.headD (Tree.cs (encT t)) (Tree.bool false))), Tree.slc (Tree.elems (List.headD (List.tail (Tree.cs (encT t))) (Tree.bool false)))] = encT t := by cases t; simp [encT]
theorem nthT (pre : List Ty) (x : Ty) (r : List Ty) : nth (encTs (pre ++ x :: r)) pre.length = some (encT x) := by
 rw [encTs_map, nth_map, nth_app]; rfl
theorem lenT (l : List Ty) : (encTs l).length = l.length := by rw [encTs_map, List.length_map]
theorem sizeT_pos (t : Ty) : 1 ≤ sizeT t := by cases t; unfold sizeT; omega
theorem len_sizeTs : ∀ l : List Ty, l.length ≤ sizeTs l
 | [] => by simp [sizeTs]
 | t :: r => by have := len_sizeTs r; have := sizeT_pos t; simp [sizeTs]; omega
theorem depthT_le : ∀ t : Ty, depthT t ≤ sizeT t
 | .mk s l => by unfold depthT sizeT; have := depthTs_le l; omega
where
 depthTs_le : ∀ l : List Ty, depthTs l ≤ sizeTs l
  | [] => by simp [depthTs]
  | t :: r => by have := depthT_le t; have := depthTs_le r; unfold depthTs sizeTs; omega
theorem imaxN (a b : Nat) : imax (a : Int) b = ((max a b : Nat) : Int) := by
 unfold imax
 split <;> omega
mutual
theorem s76 : ∀ t : Ty, sizeT t ≤ 500000000000 → Ev E (2 * sizeT t + 2) 76 [encT t] (.tup [I (sizeT t), I (depthT t)])
 | .mk s l, h => Ev.mk fun n hn => by
  have hl := len_sizeTs l
  unfold sizeT at h hn ⊢
  rw [encT, e76]
  have := l76 l [] n n 0 0 (by omega) (by omega) (by omega) (by simp; omega)
  rw [lenT]
  simp only [List.nil_append, List.length_nil] at this
  unfold depthT
  simpa [Nat.add_comm] using this
theorem l76 : ∀ (r pre : List Ty) (n q a d : Nat), r.length < q → 2 * sizeTs r + 2 ≤ n → sizeTs r ≤ 500000000000 → a + sizeTs r ≤ 1000000000000 ∧ d ≤ 1000000000000 ∧ (pre ++ r).length ≤ 1000000000000 →
  L76_0 n q a d (encTs (pre ++ r)) ((pre ++ r).length : Nat) (pre.length : Nat) = some (.tup [I ((a + sizeTs r + 1 : Nat) : Int), I ((max d (depthTs r) + 1 : Nat) : Int)])
 | [], pre, n, q, a, d, hq, hn, hs, hb => by
  obtain ⟨q, rfl⟩ : ∃ k, q = k + 1 := ⟨q - 1, by omega⟩
  simp only [List.append_nil, sizeTs] at hs hb ⊢
  rw [show q + 1 = Nat.succ q from rfl, l76_0, bif_neg (by simp), w64 (by omega), w64 (by omega)]
  simp [depthTs]
 | x :: r, pre, n, q, a, d, hq, hn, hs, hb => by
  obtain ⟨q, rfl⟩ : ∃ k, q = k + 1 := ⟨q - 1, by omega⟩
  simp only [List.length_cons] at hq
  have hx := sizeT_pos x
  have hdx := depthT_le x
  simp only [sizeTs] at hn hs hb
  have hpl : pre.length < (pre ++ x :: r).length := by simp
  rw [show q + 1 = Nat.succ q from rfl, l76_0, bif_pos (by exact decide_eq_true (by omega)), bif_pos (by exact decide_eq_true (by omega)), Int.toNat_natCast, nthT, Option.bind_some, okT_sh, cond_true, lookT]
  rw [s76 x (by omega) n (by omega)]
  simp only [Option.bind_some, ok_tup, oks_cons, ok_int, oks_nil, Bool.and_true, cond_true, tupl_tup, List.headD_cons, List.tail_cons, toInt_int]
  rw [imaxN, show (a : Int) + (sizeT x : Int) = ((a + sizeT x : Nat) : Int) by omega, w64 (by omega), w64 (by omega)]
  have ih := l76 r (pre ++ [x]) n q (a + sizeT x) (max d (depthT x)) (by omega) (by omega) (by omega) (by simp at hb ⊢; omega)
  simp only [List.append_assoc, List.singleton_append, List.length_append, List.length_singleton] at ih
  simp only [sizeTs, depthTs]
  rw [← Nat.max_assoc, ← Nat.add_assoc a]
  simpa using ih
end
theorem okL_sh (t : Lam) : Sh.ok (Sh.agg [Sh.int IntKind.i64, Sh.int IntKind.i64, Sh.str, Sh.slc, Sh.slc]) (encL t) = true := by
 cases t with
 | mk o n t l => cases t; simp [encL]
theorem lookL (t : Lam) : Tree.agg [Tree.int IntKind.i64 (Tree.toInt (List.headD (Tree.cs (encL t)) (Tree.bool false))),
  Tree.int IntKind.i64 (Tree.toInt (List.headD (List.tail (Tree.cs (encL t))) (Tree.bool false))),
  Tree.str (Tree.toStr (List.headD (List.tail (List.tail (Tree.cs (encL t)))) (Tree.bool false))),
  Tree.slc (Tree.elems (List.headD (List.tail (List.tail (List.tail (Tree.cs (encL t))))) (Tree.bool false))),
  Tree.slc (Tree.elems (List.headD (List.tail (List.tail (List.tail (List.tail (Tree.cs (encL t)))))) (Tree.bool false)))] = encL t := by
 cases t with
 | mk o n t l => cases t; simp [encL]
theorem nthL (pre : List Lam) (x : Lam) (r : List Lam) : nth (encLs (pre ++ x :: r)) pre.length = some (encL x) := by
 rw [encLs_map, nth_map, nth_app]; rfl
theorem lenL (l : List Lam) : (encLs l).length = l.length := by rw [encLs_map, List.length_map]
theorem sizeL_pos (t : Lam) : 1 ≤ sizeL t := by cases t; unfold sizeL; omega
theorem len_sizeLs : ∀ l : List Lam, l.length ≤ sizeLs l
 | [] => by simp [sizeLs]
 | t :: r => by have := len_sizeLs r; have := sizeL_pos t; simp [sizeLs]; omega
theorem depthL_le : ∀ t : Lam, depthL t ≤ sizeL t
 | .mk _ _ _ l => by unfold depthL sizeL; have := depthLs_le l; omega
where
 depthLs_le : ∀ l : List Lam, depthLs l ≤ sizeLs l
  | [] => by simp [depthLs]
  | t :: r => by have := depthL_le t; have := depthLs_le r; unfold depthLs sizeLs; omega
mutual
theorem s39 : ∀ t : Lam, sizeL t ≤ 500000000000 → Ev E (2 * sizeL t + 2) 39 [encL t] (.tup [I (sizeL t), I (depthL t)])
 | .mk _ _ (.mk _ _) l, h => Ev.mk fun n hn => by
  have hl := len_sizeLs l
  unfold sizeL at h hn ⊢
  rw [encL, e39]
  have := l39 l [] n n 0 0 (by omega) (by omega) (by omega) (by simp; omega)
  rw [lenL]
  simp only [List.nil_append, List.length_nil] at this
  unfold depthL
  simpa [Nat.add_comm] using this
theorem l39 : ∀ (r pre : List Lam) (n q a d : Nat), r.length < q → 2 * sizeLs r + 2 ≤ n → sizeLs r ≤ 500000000000 → a + sizeLs r ≤ 1000000000000 ∧ d ≤ 1000000000000 ∧ (pre ++ r).length ≤ 1000000000000 →
  L39_0 n q a d (encLs (pre ++ r)) ((pre ++ r).length : Nat) (pre.length : Nat) = some (.tup [I ((a + sizeLs r + 1 : Nat) : Int), I ((max d (depthLs r) + 1 : Nat) : Int)])
 | [], pre, n, q, a, d, hq, hn, hs, hb => by
  obtain ⟨q, rfl⟩ : ∃ k, q = k + 1 := ⟨q - 1, by omega⟩
  simp only [List.append_nil, sizeLs] at hs hb ⊢
  rw [show q + 1 = Nat.succ q from rfl, l39_0, bif_neg (by simp), w64 (by omega), w64 (by omega)]
  simp [depthLs]
 | x :: r, pre, n, q, a, d, hq, hn, hs, hb => by
  obtain ⟨q, rfl⟩ : ∃ k, q = k + 1 := ⟨q - 1, by omega⟩
  simp only [List.length_cons] at hq
  have hx := sizeL_pos x
  have hdx := depthL_le x
  simp only [sizeLs] at hn hs hb
  have hpl : pre.length < (pre ++ x :: r).length := by simp
  rw [show q + 1 = Nat.succ q from rfl, l39_0, bif_pos (by exact decide_eq_true (by omega)), bif_pos (by exact decide_eq_true (by omega)), Int.toNat_natCast, nthL, Option.bind_some, okL_sh, cond_true, lookL]
  rw [s39 x (by omega) n (by omega)]
  simp only [Option.bind_some, ok_tup, oks_cons, ok_int, oks_nil, Bool.and_true, cond_true, tupl_tup, List.headD_cons, List.tail_cons, toInt_int]
  rw [imaxN, show (a : Int) + (sizeL x : Int) = ((a + sizeL x : Nat) : Int) by omega, w64 (by omega), w64 (by omega)]
  have ih := l39 r (pre ++ [x]) n q (a + sizeL x) (max d (depthL x)) (by omega) (by omega) (by omega) (by simp at hb ⊢; omega)
  simp only [List.append_assoc, List.singleton_append, List.length_append, List.length_singleton] at ih
  simp only [sizeLs, depthLs]
  rw [← Nat.max_assoc, ← Nat.add_assoc a]
  simpa using ih
end
mutual
theorem s14 : ∀ t : Lam, sizeL t ≤ 500000000000 → Ev E (2 * sizeL t + 2) 14 [encL t] (.tup [I (sizeL t), I (depthL t)])
 | .mk o m (.mk s u) l, h => Ev.mk fun n hn => by
  have hl := len_sizeLs l
  unfold sizeL at h hn ⊢
  rw [encL, e14]
  have := l14 l [] n n 1 0 o m s u (by omega) (by omega) (by omega) (by simp; omega)
  simp only [List.nil_append, List.length_nil] at this
  unfold depthL
  simpa [Nat.add_comm] using this
theorem l14 : ∀ (r pre : List Lam) (n q a d : Nat) (o m : Int) (s : List UInt8) (u : List Ty), r.length < q → 2 * sizeLs r + 2 ≤ n → sizeLs r ≤ 500000000000 → a + sizeLs r ≤ 1000000000000 ∧ d ≤ 1000000000000 ∧ (pre ++ r).length ≤ 1000000000000 →
  L14_0 n q a d (pre.length : Nat) o m s (encTs u) (encLs (pre ++ r)) = some (.tup [I ((a + sizeLs r : Nat) : Int), I ((max d (depthLs r) + 1 : Nat) : Int)])
 | [], pre, n, q, a, d, o, m, s, u, hq, hn, hs, hb => by
  obtain ⟨q, rfl⟩ : ∃ k, q = k + 1 := ⟨q - 1, by omega⟩
  simp only [List.append_nil, sizeLs] at hs hb ⊢
  rw [show q + 1 = Nat.succ q from rfl, l14_0, bif_neg (by rw [lenL]; simp), w64 (by omega)]
  simp [depthLs]
 | x :: r, pre, n, q, a, d, o, m, s, u, hq, hn, hs, hb => by
  obtain ⟨q, rfl⟩ : ∃ k, q = k + 1 := ⟨q - 1, by omega⟩
  simp only [List.length_cons] at hq
  have hx := sizeL_pos x
  have hdx := depthL_le x
  simp only [sizeLs] at hn hs hb
  have hpl : pre.length < (pre ++ x :: r).length := by simp
  rw [show q + 1 = Nat.succ q from rfl, l14_0, bif_pos (by rw [lenL]; exact decide_eq_true (by omega)), bif_pos (by exact decide_eq_true (by omega)), Int.toNat_natCast, nthL, Option.bind_some, okL_sh, cond_true, lookL]
  rw [s14 x (by omega) n (by omega)]
  simp only [Option.bind_some, ok_tup, oks_cons, ok_int, oks_nil, Bool.and_true, cond_true, tupl_tup, List.headD_cons, List.tail_cons, toInt_int]
  rw [imaxN, show (a : Int) + (sizeL x : Int) = ((a + sizeL x : Nat) : Int) by omega, w64 (by omega), w64 (by omega)]
  have ih := l14 r (pre ++ [x]) n q (a + sizeL x) (max d (depthL x)) o m s u (by omega) (by omega) (by omega) (by simp at hb ⊢; omega)
  simp only [List.append_assoc, List.singleton_append, List.length_append, List.length_singleton] at ih
  simp only [sizeLs, depthLs]
  rw [← Nat.max_assoc, ← Nat.add_assoc a]
  simpa using ih
end
end Go.Proofs.Cw.Si
end

/-
  SIMPLE, specs 2: types: well formed, valid, equal.
-/
section
namespace Go.Proofs.Cw.Si
open Go.Proofs
theorem s77 (t : Ty) : Ev E (sizeT t + 1) 77 [encT t] (.bool (formed t)) := by
 cases t with
 | mk s l =>
 exact Ev.mk fun n hn => by
  rw [encT, e77]
  by_cases h0 : s = sNat
  ·subst h0
   rw [bif_pos (by rfl)]
   unfold formed
   rw [if_pos rfl]
   cases l <;> simp [encTs]
   omega
  rw [bif_neg (by simpa [sNat] using h0)]
  unfold formed
  rw [if_neg h0]
  by_cases h1 : s = sTo
  ·rw [bif_pos (by rw [h1]; rfl), if_pos (.inl h1)]
   clear h0 h1
   rcases l with _ | ⟨a, _ | ⟨b, _ | ⟨c, r⟩⟩⟩
   ·rw [bif_neg (by rfl)]; simp
   ·rw [bif_neg (by rfl)]; simp
   ·have ha := s77 a n (by simp only [sizeT, sizeTs] at hn; omega)
    have hb := s77 b n (by simp only [sizeT, sizeTs] at hn; omega)
    rw [bif_pos (by rfl)]
    simp only [encTs, nth, show Int.toNat 0 = 0 from rfl, show Int.toNat 1 = 1 from rfl, Option.bind_some, okT_sh, cond_true, lookT, ha, hb, ok_bool, toBool_bool, formedTs]
    cases formed a <;> simp
   ·rw [bif_neg (by simp only [encTs, List.length_cons]; simp; omega)]; simp
  rw [bif_neg (by simpa [sTo] using h1)]
  by_cases h2 : s = sPair
  ·rw [bif_pos (by rw [h2]; rfl), if_pos (.inr h2)]
   clear h0 h1 h2
   rcases l with _ | ⟨a, _ | ⟨b, _ | ⟨c, r⟩⟩⟩
   ·rw [bif_neg (by rfl)]; simp
   ·rw [bif_neg (by rfl)]; simp
   ·have ha := s77 a n (by simp only [sizeT, sizeTs] at hn; omega)
    have hb := s77 b n (by simp only [sizeT, sizeTs] at hn; omega)
    rw [bif_pos (by rfl)]
    simp only [encTs, nth, show Int.toNat 0 = 0 from rfl, show Int.toNat 1 = 1 from rfl, Option.bind_some, okT_sh, cond_true, lookT, ha, hb, ok_bool, toBool_bool, formedTs]
    cases formed a <;> simp
   ·rw [bif_neg (by simp only [encTs, List.length_cons]; simp; omega)]; simp
  rw [bif_neg (by simpa [sPair] using h2), if_neg (by simp [h1, h2])]
termination_by sizeT t
decreasing_by all_goals simp only [sizeT, sizeTs]; omega
theorem s58 (t : Ty) (ht : sizeT t ≤ 500000000000) : Ev E (2 * sizeT t + 3) 58 [encT t] (.bool (validT t)) :=
 Ev.mk fun n hn => by
  have h1 := s76 t ht n (by omega)
  have h2 := s77 t n (by omega)
  cases t with
  | mk s l =>
  rw [encT] at h1 h2 ⊢
  rw [e58, h1]
  simp only [Option.bind_some, ok_tup, oks_cons, ok_int, oks_nil, Bool.and_true, cond_true, tupl_tup, List.headD_cons, List.tail_cons, toInt_int]
  unfold validT
  by_cases c1 : sizeT (.mk s l) ≤ 60
  ·rw [bif_pos (by exact decide_eq_true (by omega)), decide_eq_true c1]
   by_cases c2 : depthT (.mk s l) ≤ 12
   ·rw [bif_pos (by exact decide_eq_true (by omega)), decide_eq_true c2, h2]
    simp
   ·rw [bif_neg (by exact decide_eq_false (by omega)), decide_eq_false c2]
    simp
  ·rw [bif_neg (by exact decide_eq_false (by omega)), decide_eq_false c1]
   simp
end Go.Proofs.Cw.Si
end

/-
  SIMPLE, specs 3: equal types and terms, the program's and the reference's.
-/
section
namespace Go.Proofs.Cw.Si
open Go.Proofs
mutual
def wL : Lam → Nat
 | .mk _ _ t l => 1 + sizeT t + wLs l
def wLs : List Lam → Nat
 | [] => 0
 | t :: r => wL t + wLs r
end
theorem wL_pos (t : Lam) : 2 ≤ wL t := by
 cases t with
 | mk o n t l => have := sizeT_pos t; unfold wL; omega
theorem len_wLs : ∀ l : List Lam, l.length ≤ wLs l
 | [] => by simp [wLs]
 | t :: r => by have := len_wLs r; have := wL_pos t; simp [wLs]; omega
theorem eqTs_len {l l' : List Ty} (h : l.length ≠ l'.length) : eqTs l l' = false := by
 cases hq : eqTs l l' with
 | false => rfl
 | true => exact absurd (congrArg List.length ((eqTs_iff l l').1 hq)) h
mutual
theorem s79 : ∀ a b : Ty, sizeT a ≤ 500000000000 → Ev E (2 * sizeT a + 3) 79 [encT a, encT b] (.bool (eqT a b))
 | .mk s l, .mk s' l', h => Ev.mk fun n hn => by
  have hl := len_sizeTs l
  unfold sizeT at h hn
  rw [encT, encT, e79]
  unfold eqT
  by_cases hs : s = s'
  ·rw [bif_pos (by simp [hs])]
   have h78 : Ev E (2 * sizeTs l + 4) 86 [.slc (encTs l), .slc (encTs l'), .fn 79 [] []] (.bool (eqTs l l')) := Ev.mk fun m hm => by
    rw [e86]
    by_cases hll : l.length = l'.length
    ·have e := l86 l l' [] [] m m (by omega) (by omega) (by omega) rfl hll (by simp; omega)
     rw [bif_neg (by rw [lenT, lenT, hll]; simp)]
     simp only [List.nil_append, List.length_nil] at e
     rw [lenT, show (0 : Int) = ((0 : Nat) : Int) from rfl, e]
    ·rw [bif_pos (by rw [lenT, lenT]; simp; omega), eqTs_len hll]
   rw [h78 n (by omega)]
   simp [hs]
  ·rw [bif_neg (by simp [hs])]
   simp [hs]
theorem l86 : ∀ (r r' pre pre' : List Ty) (n q : Nat), r.length < q → 2 * sizeTs r + 3 ≤ n → sizeTs r ≤ 500000000000 → pre.length = pre'.length → r.length = r'.length → (pre ++ r).length ≤ 1000000000000 →
  L86_0 n q (encTs (pre' ++ r')) 79 [] [] (encTs (pre ++ r)) ((pre ++ r).length : Nat) (pre.length : Nat) = some (.bool (eqTs r r'))
 | [], [], pre, pre', n, q, hq, hn, hs, hp, hr, hb => by
  obtain ⟨q, rfl⟩ : ∃ k, q = k + 1 := ⟨q - 1, by omega⟩
  rw [show q + 1 = Nat.succ q from rfl, l86_0, bif_neg (by simp)]
  rfl
 | [], _ :: _, _, _, _, _, _, _, _, _, hr, _ => by simp at hr
 | _ :: _, [], _, _, _, _, _, _, _, _, hr, _ => by simp at hr
 | x :: r, x' :: r', pre, pre', n, q, hq, hn, hs, hp, hr, hb => by
  obtain ⟨q, rfl⟩ : ∃ k, q = k + 1 := ⟨q - 1, by omega⟩
  simp only [List.length_cons] at hq hr
  have hx := sizeT_pos x
  simp only [sizeTs] at hn hs
  have hpl : pre.length < (pre ++ x :: r).length := by simp
  have n2 : nth (encTs (pre' ++ x' :: r')) pre.length = some (encT x') := by rw [hp]; exact nthT pre' x' r'
  rw [show q + 1 = Nat.succ q from rfl, l86_0, bif_pos (by exact decide_eq_true (by omega)), bif_pos (by exact decide_eq_true (by omega)), Int.toNat_natCast, nthT, Option.bind_some, okT_sh, cond_true, bif_pos (by exact decide_eq_true (by omega)), n2, Option.bind_some, okT_sh, cond_true, lookT, lookT]
  rw [show ([] : List Tree) ++ [encT x, encT x'] ++ [] = [encT x, encT x'] from rfl, s79 x x' (by omega) n (by omega)]
  simp only [Option.bind_some, ok_bool, cond_true, toBool_bool, eqTs]
  cases hxx : eqT x x' with
  | false => simp
  | true =>
   have ih := l86 r r' (pre ++ [x]) (pre' ++ [x']) n q (by omega) (by omega) (by omega) (by simp [hp]) (by omega) (by simp at hb ⊢; omega)
   simp only [List.append_assoc, List.singleton_append, List.length_append, List.length_singleton] at ih
   rw [w64 (by simp at hb; omega)]
   simpa using ih
end
end Go.Proofs.Cw.Si
end

/-
  SIMPLE, specs 4: what is a term at all.
-/
section
namespace Go.Proofs.Cw.Si
open Go.Proofs
theorem s66 (o : Int) : Ev E 1 66 [I o] (I (partsN o)) :=
 Ev.mk fun n _ => by
  rw [e66]
  unfold partsN
  by_cases h1 : o = 1
  ·subst h1; rfl
  by_cases h4 : o = 4
  ·subst h4; rfl
  by_cases h2 : o = 2
  ·subst h2; rfl
  by_cases h5 : o = 5
  ·subst h5; rfl
  by_cases h8 : o = 8
  ·subst h8; rfl
  by_cases h9 : o = 9
  ·subst h9; rfl
  by_cases h3 : o = 3
  ·subst h3; rfl
  by_cases h7 : o = 7
  ·subst h7; rfl
  by_cases h6 : o = 6
  ·subst h6; rfl
  rw [bif_neg (by simp [h1]), bif_neg (by simp [h4]), bif_neg (by simp [h2]), bif_neg (by simp [h5]), bif_neg (by simp [h8]), bif_neg (by simp [h9]), bif_neg (by simp [h3]), bif_neg (by simp [h7]), bif_neg (by simp [h6])]
  simp [h1, h2, h3, h4, h5, h6, h7, h8, h9]
theorem s36 (t : Ty) : Ev E 1 36 [encT t] (.bool (zeroT t)) :=
 Ev.mk fun n _ => by
  cases t with
  | mk s l =>
   rw [encT, e36]
   unfold zeroT
   rw [lenT]
   cases s <;> cases l <;> simp [Ty.name, Ty.parts]
   omega
def idxS : Int → List Lam → Int
 | _, [] => -1
 | i, x :: r => bif shaped x then idxS (i + 1) r else i
theorem idxS_ge : ∀ (l : List Lam) (i : Int), 0 ≤ i → (idxS i l ≥ 0 ↔ shapeds l = false)
 | [], i, h => by simp [idxS, shapeds]
 | x :: r, i, h => by
  simp only [idxS, shapeds]
  cases hx : shaped x with
  | true => simpa using idxS_ge r (i + 1) (by omega)
  | false => simp [h]
mutual
theorem s40 : ∀ t : Lam, wL t ≤ 500000000000 → Ev E (4 * wL t) 40 [encL t] (.bool (shaped t))
 | .mk o m (.mk s u) l, h => by
  have hw := wL_pos (.mk o m (.mk s u) l)
  obtain ⟨c, hc⟩ : ∃ c, 4 * wL (.mk o m (.mk s u) l) = c + 1 := ⟨4 * wL (.mk o m (.mk s u) l) - 1, by omega⟩
  rw [hc]
  refine Ev.mk fun n hn => ?_
  have hl := len_wLs l
  have hsp := sizeT_pos (.mk s u)
  unfold wL at h hn hc
  have h73 := s66 o n (by omega)
  have h60 := s58 (.mk s u) (by omega) n (by omega)
  have h74 := s36 (.mk s u) n (by omega)
  rw [encT] at h60 h74
  have h75 : Ev E (4 * wLs l + 5) 37 [.slc (encLs l), .fn 67 [] []] (.bool (!shapeds l)) := Ev.mk fun k hk => by
   have h86 : Ev E (4 * wLs l + 4) 65 [.slc (encLs l), .fn 67 [] []] (I (idxS 0 l)) := Ev.mk fun j hj => by
    rw [e65, lenL]
    have e := l65 l [] j j (by omega) (by omega) (by omega) (by simp; omega)
    simpa using e
   rw [e37, h86 k (by omega)]
   simp only [Option.bind_some, ok_int, cond_true, toInt_int]
   have := idxS_ge l 0 (by omega)
   cases hs : shapeds l with
   | true =>
    exact congrArg (fun b => some (Tree.bool b)) (decide_eq_false (fun q => by rw [this, hs] at q; cases q))
   | false =>
    exact congrArg (fun b => some (Tree.bool b)) (decide_eq_true (this.2 hs))
  have h75 := h75 n (by omega)
  rw [encL, e40]
  simp only [h73, h60, h74, h75, Option.bind_some, ok_bool, ok_int, cond_true, toBool_bool, toInt_int, lenL]
  unfold shaped topN
  generalize validT (.mk s u) = v at *
  generalize zeroT (.mk s u) = z at *
  generalize shapeds l = sh at *
  have core : ∀ top : Int, (bif (l.length : Int) != partsN o then some (Tree.bool false) else bif decide (m < 0) then some (Tree.bool false) else bif decide (m > top) then some (Tree.bool false) else
    bif o == 2 then (bif !v then some (Tree.bool false) else bif o != 2 then (bif !z then some (Tree.bool false) else some (Tree.bool !!sh)) else some (Tree.bool !!sh))
    else (bif o != 2 then (bif !z then some (Tree.bool false) else some (Tree.bool !!sh)) else some (Tree.bool !!sh))) =
    some (Tree.bool ((l.length : Int) == partsN o && decide (0 ≤ m) && decide (m ≤ top) && (if o = 2 then v else z) && sh)) := by
   intro top
   rw [show ((l.length : Int) != partsN o) = !((l.length : Int) == partsN o) from rfl]
   generalize ((l.length : Int) == partsN o) = b1
   cases b1 with
   | false => simp
   | true =>
    rw [Bool.not_true, cond_false, Bool.true_and]
    by_cases c1 : m < 0
    ·rw [bif_pos (by exact decide_eq_true c1), decide_eq_false (show ¬ 0 ≤ m by omega)]; simp
    ·rw [bif_neg (by exact decide_eq_false c1), decide_eq_true (show 0 ≤ m by omega), Bool.true_and]
     by_cases c2 : m > top
     ·rw [bif_pos (by exact decide_eq_true c2), decide_eq_false (show ¬ m ≤ top by omega)]; simp
     ·rw [bif_neg (by exact decide_eq_false c2), decide_eq_true (show m ≤ top by omega), Bool.true_and]
      by_cases c3 : o = 2
      ·rw [bif_pos (by simp [c3]), if_pos c3]
       cases v <;> simp [c3]
      ·rw [bif_neg (by simp [c3]), bif_pos (by simp [c3]), if_neg c3]
       cases z <;> simp
  by_cases c1 : o = 1
  ·rw [bif_pos (by simp [c1]), if_pos c1]; exact core 200
  ·rw [bif_neg (by simp [c1]), if_neg c1]
   by_cases c4 : o = 4
   ·rw [bif_pos (by simp [c4]), if_pos c4]; exact core 1000
   ·rw [bif_neg (by simp [c4]), if_neg c4]; exact core 0
theorem l65 : ∀ (r pre : List Lam) (n q : Nat), r.length < q → 4 * wLs r + 3 ≤ n → wLs r ≤ 500000000000 → (pre ++ r).length ≤ 1000000000000 →
  L65_0 n q (encLs (pre ++ r)) 67 [] [] ((pre ++ r).length : Nat) (pre.length : Nat) = some (I (idxS pre.length r))
 | [], pre, n, q, hq, hn, hs, hb => by
  obtain ⟨q, rfl⟩ : ∃ k, q = k + 1 := ⟨q - 1, by omega⟩
  rw [show q + 1 = Nat.succ q from rfl, l65_0, bif_neg (by simp)]
  rfl
 | x :: r, pre, n, q, hq, hn, hs, hb => by
  obtain ⟨q, rfl⟩ : ∃ k, q = k + 1 := ⟨q - 1, by omega⟩
  simp only [List.length_cons] at hq
  have hx := wL_pos x
  simp only [wLs] at hn hs
  have hpl : pre.length < (pre ++ x :: r).length := by simp
  have h76 : Ev E (4 * wL x + 1) 67 [encL x] (.bool (!shaped x)) := Ev.mk fun k hk => by
   have h51 := s40 x (by omega) k (by omega)
   cases x with
   | mk o m t l =>
    cases t with
    | mk s u =>
     rw [encL] at h51 ⊢
     rw [e67, h51]
     simp
  rw [show q + 1 = Nat.succ q from rfl, l65_0, bif_pos (by exact decide_eq_true (by omega)), bif_pos (by exact decide_eq_true (by omega)), Int.toNat_natCast, nthL, Option.bind_some, okL_sh, cond_true, lookL]
  rw [show ([] : List Tree) ++ [encL x] ++ [] = [encL x] from rfl, h76 n (by omega)]
  simp only [Option.bind_some, ok_bool, cond_true, toBool_bool, idxS]
  cases hx2 : shaped x with
  | false => simp
  | true =>
   have ih := l65 r (pre ++ [x]) n q (by omega) (by omega) (by omega) (by simp at hb ⊢; omega)
   simp only [List.append_assoc, List.singleton_append, List.length_append, List.length_singleton] at ih
   rw [w64 (by simp at hb; omega)]
   simpa using ih
end
end Go.Proofs.Cw.Si
end

/-
  SIMPLE, specs 5: what is a term at all, the reference's; valid terms.
-/
section
namespace Go.Proofs.Cw.Si
open Go.Proofs
mutual
theorem sizeL_wL : ∀ t : Lam, sizeL t ≤ wL t
 | .mk _ _ _ l => by unfold sizeL wL; have := sizeLs_wLs l; omega
theorem sizeLs_wLs : ∀ l : List Lam, sizeLs l ≤ wLs l
 | [] => by simp [sizeLs, wLs]
 | t :: r => by have := sizeL_wL t; have := sizeLs_wLs r; unfold sizeLs wLs; omega
end
theorem s16 (t : Lam) (ht : wL t ≤ 500000000000) : Ev E (4 * wL t + 5) 16 [encL t] (.bool (validL t)) :=
 Ev.mk fun n hn => by
  have hw := sizeL_wL t
  have h1 := s39 t (by omega) n (by omega)
  have h2 := s40 t ht n (by omega)
  cases t with
  | mk o m t l =>
  cases t with
  | mk s u =>
  rw [encL] at h1 h2 ⊢
  rw [e16, h1]
  simp only [Option.bind_some, ok_tup, oks_cons, ok_int, oks_nil, Bool.and_true, cond_true, tupl_tup, List.headD_cons, List.tail_cons, toInt_int]
  unfold validL
  by_cases c1 : sizeL (.mk o m (.mk s u) l) ≤ 300
  ·rw [bif_pos (by exact decide_eq_true (by omega)), decide_eq_true c1]
   by_cases c2 : depthL (.mk o m (.mk s u) l) ≤ 60
   ·rw [bif_pos (by exact decide_eq_true (by omega)), decide_eq_true c2, h2]
    simp
   ·rw [bif_neg (by exact decide_eq_false (by omega)), decide_eq_false c2]
    simp
  ·rw [bif_neg (by exact decide_eq_false (by omega)), decide_eq_false c1]
   simp
end Go.Proofs.Cw.Si
end

/-
  SIMPLE, specs 6: copies.
-/
section
namespace Go.Proofs.Cw.Si
open Go.Proofs
theorem setN_same {α : Type} (x : α) (r : List α) : ∀ (l : List α), setN (l ++ x :: r) l.length x = l ++ x :: r
 | [] => rfl
 | y :: l => by
  show y :: setN (l ++ x :: r) l.length x = y :: (l ++ x :: r)
  rw [setN_same x r l]
theorem firstT (l : List Ty) : firstOk (Sh.agg [Sh.str, Sh.slc]) (encTs l) = true := by
 cases l with
 | nil => rfl
 | cons t r => cases t; rfl
theorem firstL (l : List Lam) : firstOk (Sh.agg [Sh.int IntKind.i64, Sh.int IntKind.i64, Sh.str, Sh.slc, Sh.slc]) (encLs l) = true := by
 cases l with
 | nil => rfl
 | cons t r =>
  cases t with
  | mk o m t l => cases t; rfl
mutual
theorem s32 : ∀ t : Ty, sizeT t ≤ 500000000000 → Ev E (2 * sizeT t + 2) 32 [encT t] (encT t)
 | .mk s l, h => Ev.mk fun n hn => by
  have hl := len_sizeTs l
  unfold sizeT at h hn
  rw [encT, e32, firstT, cond_true, lenT, bif_pos (by rw [Nat.ble_eq]; omega)]
  have e := l32 l [] n n s [] (by omega) (by omega) (by omega) (by simp; omega)
  simpa using e
theorem l32 : ∀ (r pre : List Ty) (n q : Nat) (s j : List UInt8), r.length < q → 2 * sizeTs r + 2 ≤ n → sizeTs r ≤ 500000000000 → (pre ++ r).length ≤ 1000000000000 →
  L32_0 n q ((pre ++ r).length : Nat) (pre.length : Nat) s (encTs (pre ++ r)) j = some (.agg [.str s, .slc (encTs (pre ++ r))])
 | [], pre, n, q, s, j, hq, hn, hs, hb => by
  obtain ⟨q, rfl⟩ : ∃ k, q = k + 1 := ⟨q - 1, by omega⟩
  rw [show q + 1 = Nat.succ q from rfl, l32_0, bif_neg (by simp)]
 | x :: r, pre, n, q, s, j, hq, hn, hs, hb => by
  obtain ⟨q, rfl⟩ : ∃ k, q = k + 1 := ⟨q - 1, by omega⟩
  simp only [List.length_cons] at hq
  have hx := sizeT_pos x
  simp only [sizeTs] at hn hs
  have hpl : pre.length < (pre ++ x :: r).length := by simp
  have hc : (decide ((0 : Int) ≤ (pre.length : Nat)) && (decide (((pre.length : Nat) : Int) < ((encTs (pre ++ x :: r)).length : Nat)) && true)) = true := by
   rw [lenT, decide_eq_true (by omega), decide_eq_true (by omega)]; rfl
  rw [show q + 1 = Nat.succ q from rfl, l32_0, bif_pos (by exact decide_eq_true (by omega)), bif_pos hc, Int.toNat_natCast, nthT, Option.bind_some, okT_sh, cond_true, lookT, s32 x (by omega) n (by omega), Option.bind_some, okT_sh, cond_true, bif_pos hc, Option.bind_some, okT_sh, cond_true, lookT]
  have ih := l32 r (pre ++ [x]) n q s j (by omega) (by omega) (by omega) (by simp at hb ⊢; omega)
  simp only [List.append_assoc, List.singleton_append, List.length_append, List.length_singleton] at ih
  have hset : setN (encTs (pre ++ x :: r)) pre.length (encT x) = encTs (pre ++ x :: r) := by
   have := setN_same (encT x) (encTs r) (encTs pre)
   rw [lenT] at this
   simpa [encTs_map] using this
  rw [hset, w64 (by simp at hb; omega)]
  simpa using ih
end
end Go.Proofs.Cw.Si
end

/-
  SIMPLE, specs 9: terms without types.
-/
section
namespace Go.Proofs.Cw.Si
open Go.Proofs
mutual
def eraseL : Lam → Lam
 | .mk o n _ l => .mk o n tyZero (eraseLs l)
def eraseLs : List Lam → List Lam
 | [] => []
 | t :: r => eraseL t :: eraseLs r
end
theorem setN_app {α : Type} (x y : α) (r : List α) : ∀ (l : List α), setN (l ++ x :: r) l.length y = l ++ y :: r
 | [] => rfl
 | z :: l => by
  show z :: setN (l ++ x :: r) l.length y = z :: (l ++ y :: r)
  rw [setN_app x y r l]
mutual
theorem s11 : ∀ t : Lam, wL t ≤ 500000000000 → Ev E (2 * wL t + 4) 11 [encL t] (encL (eraseL t))
 | .mk o m (.mk s u) l, h => Ev.mk fun n hn => by
  have hl := len_wLs l
  unfold wL at h hn
  have hL := l11 l [] n n o m (by omega) (by omega) (by omega) (by simp; omega) [] 0 0 []
  simp only [List.nil_append, List.length_nil] at hL
  rw [show ((0 : Nat) : Int) = 0 from rfl] at hL
  rw [encL, e11, firstL, cond_true, lenL, bif_pos (by rw [Nat.ble_eq]; omega)]
  exact hL
theorem l11 : ∀ (r pre : List Lam) (n q : Nat) (o m : Int), r.length < q → 2 * wLs r + 4 ≤ n → wLs r ≤ 500000000000 → (pre ++ r).length ≤ 1000000000000 →
  ∀ (s : List UInt8) (j1 j2 : Int) (j3 : List UInt8),
  L11_0 n q ((pre ++ r).length : Nat) (pre.length : Nat) o m s (encLs (pre ++ r)) j1 j2 j3 = some (.agg [I o, I m, .str s, .slc [], .slc (encLs (pre ++ eraseLs r))])
 | [], pre, n, q, o, m, hq, hn, hs, hb => fun s j1 j2 j3 => by
  obtain ⟨q, rfl⟩ : ∃ k, q = k + 1 := ⟨q - 1, by omega⟩
  rw [show q + 1 = Nat.succ q from rfl, l11_0, bif_neg (by simp)]
  simp [eraseLs]
 | x :: r, pre, n, q, o, m, hq, hn, hs, hb => fun s j1 j2 j3 => by
  obtain ⟨q, rfl⟩ : ∃ k, q = k + 1 := ⟨q - 1, by omega⟩
  simp only [List.length_cons] at hq
  have hx := wL_pos x
  simp only [wLs] at hn hs
  have hpl : pre.length < (pre ++ x :: r).length := by simp
  have hc : (decide ((0 : Int) ≤ (pre.length : Nat)) && (decide (((pre.length : Nat) : Int) < ((encLs (pre ++ x :: r)).length : Nat)) && true)) = true := by
   rw [lenL, decide_eq_true (by omega), decide_eq_true (by omega)]; rfl
  rw [show q + 1 = Nat.succ q from rfl, l11_0, bif_pos (by exact decide_eq_true (by omega)), bif_pos hc, Int.toNat_natCast, nthL, Option.bind_some, okL_sh, cond_true, lookL, s11 x (by omega) n (by omega), Option.bind_some, okL_sh, cond_true, bif_pos hc, Option.bind_some, okL_sh, cond_true, lookL]
  have ih := l11 r (pre ++ [eraseL x]) n q o m (by omega) (by omega) (by omega) (by simp at hb ⊢; omega) s j1 j2 j3
  simp only [List.append_assoc, List.singleton_append, List.length_append, List.length_singleton] at ih
  have hset : setN (encLs (pre ++ x :: r)) pre.length (encL (eraseL x)) = encLs (pre ++ eraseL x :: r) := by
   have := setN_app (encL x) (encL (eraseL x)) (encLs r) (encLs pre)
   rw [lenL] at this
   simpa [encLs_map] using this
  rw [hset, w64 (by simp at hb; omega)]
  simpa [eraseLs] using ih
end
end Go.Proofs.Cw.Si
end

/-
  SIMPLE, specs 12: how heavy terms are.
-/
section
namespace Go.Proofs.Cw.Si
open Go.Proofs
mutual
theorem l35 : ∀ (r : List Ty), sizeTs r ≤ 100000000 → ∀ (pre : List Ty) (lim a : Int), (0 ≤ lim ∧ lim ≤ 1000000) → (0 ≤ a ∧ a ≤ lim + 1 + sizeTs pre) → sizeTs (pre ++ r) ≤ 100000000 → (a ≤ lim → a = sizeTs pre) →
  ∃ (c : Nat) (x : Int), (∀ n, c ≤ n → ∀ q, r.length < q → L35_0 n q (encTs (pre ++ r)) lim a (pre.length : Nat) = some (I x)) ∧ 0 ≤ x ∧ x ≤ lim + 1 + sizeTs (pre ++ r) ∧ (x ≤ lim → x = sizeTs (pre ++ r))
 | [], _, pre, lim, a, hlim, ha, hp, he => ⟨0, a, fun n hn q hq => by
   obtain ⟨q, rfl⟩ : ∃ k, q = k + 1 := ⟨q - 1, by omega⟩
   rw [show q + 1 = Nat.succ q from rfl, l35_0, bif_neg (by rw [lenT]; simp)], ha.1, by simpa using ha.2, by simpa using he⟩
 | x0 :: r, hw, pre, lim, a, hlim, ha, hp, he => by
  have t14x := t14 x0
  cases x0 with
  | mk s l =>
  simp only [sizeTs, sizeT] at hw
  have hpa : ∀ (a b : List Ty), sizeTs (a ++ b) = sizeTs a + sizeTs b := by
   intro a b
   induction a with
   | nil => simp [sizeTs]
   | cons x a ih => simp only [List.cons_append, sizeTs, ih]; omega
  have hlen : (pre ++ Ty.mk s l :: r).length = pre.length + (r.length + 1) := by simp
  have hl2 := len_sizeTs (pre ++ Ty.mk s l :: r)
  rw [hlen] at hl2
  have hall : sizeTs (pre ++ Ty.mk s l :: r) = sizeTs pre + (1 + sizeTs l) + sizeTs r := by rw [hpa]; simp only [sizeTs, sizeT]; omega
  have hpp : sizeTs (pre ++ [Ty.mk s l]) = sizeTs pre + (1 + sizeTs l) := by rw [hpa]; simp only [sizeTs, sizeT]; omega
  have hpl : pre.length < (pre ++ Ty.mk s l :: r).length := by simp
  have hok : Sh.ok (Sh.agg [Sh.str, Sh.slc]) (Tree.agg [Tree.str s, Tree.slc (encTs l)]) = true := okT_sh (.mk s l)
  by_cases c : a ≤ lim
  ·by_cases c3 : (s.length : Int) > 100
   ·refine ⟨0, lim + 1, fun n hn q hq => ?_, by omega, by omega, fun h => by omega⟩
    obtain ⟨q, rfl⟩ : ∃ k, q = k + 1 := ⟨q - 1, by simp at hq; omega⟩
    rw [show q + 1 = Nat.succ q from rfl, l35_0, bif_pos (by rw [lenT]; exact decide_eq_true (by omega)), bif_pos (by exact decide_eq_true c), bif_pos (by exact decide_eq_true (by omega)), Int.toNat_natCast, nthT, Option.bind_some, okT_sh, cond_true]
    simp only [encT, cs_agg, List.headD_cons, List.tail_cons, toStr_str, elems_slc]
    rw [bif_pos (by exact decide_eq_true c3), w64 (by omega)]
   ·obtain ⟨c1, x, hx, k1, k2, k3⟩ := t14x (by unfold sizeT; omega) (lim - a) (by omega)
    simp only [Ty.parts] at hx k2 k3
    obtain ⟨c2, y, hy, j1, j2, j3⟩ := l35 r (by omega) (pre ++ [Ty.mk s l]) lim (a + 1 + x) hlim ⟨by omega, by rw [hpp]; omega⟩ (by simpa using hp) (fun hle => by rw [hpp]; have := k3 (by omega); have := he c; omega)
    refine ⟨c1 + c2, y, fun n hn q hq => ?_, j1, by simpa using j2, by simpa using j3⟩
    obtain ⟨q, rfl⟩ : ∃ k, q = k + 1 := ⟨q - 1, by simp at hq; omega⟩
    rw [show q + 1 = Nat.succ q from rfl, l35_0, bif_pos (by rw [lenT]; exact decide_eq_true (by omega)), bif_pos (by exact decide_eq_true c), bif_pos (by exact decide_eq_true (by omega)), Int.toNat_natCast, nthT, Option.bind_some, okT_sh, cond_true]
    simp only [encT, cs_agg, List.headD_cons, List.tail_cons, toStr_str, elems_slc]
    rw [bif_neg (by exact decide_eq_false c3), bif_pos (by exact decide_eq_true (by omega)), Option.bind_some, hok, cond_true]
    simp only [cs_agg, List.headD_cons, List.tail_cons, toStr_str, elems_slc]
    rw [w64 (x := lim - a) (by omega), hx n (by omega)]
    simp only [Option.bind_some, ok_int, cond_true, toInt_int]
    rw [w64 (x := a + 1) (by omega), w64 (x := a + 1 + x) (by omega), w64 (by omega)]
    have e := hy n (by omega) q (by simp at hq; omega)
    simpa using e
  ·refine ⟨0, a, fun n hn q hq => ?_, ha.1, by rw [hall]; omega, fun h => absurd h c⟩
   obtain ⟨q, rfl⟩ : ∃ k, q = k + 1 := ⟨q - 1, by simp at hq; omega⟩
   rw [show q + 1 = Nat.succ q from rfl, l35_0, bif_pos (by rw [lenT]; exact decide_eq_true (by omega)), bif_neg (by exact decide_eq_false c)]
theorem t14 : ∀ (t : Ty), sizeT t ≤ 100000000 → ∀ lim : Int, (0 ≤ lim ∧ lim ≤ 1000000) → ∃ (c : Nat) (x : Int), Ev E c 35 [.slc (encTs t.parts), I lim] (I x) ∧ 0 ≤ x ∧ x ≤ lim + 1 + sizeTs t.parts ∧ (x ≤ lim → x = sizeTs t.parts)
 | .mk s l, hw, lim, hlim => by
  have hw' : sizeTs l ≤ 100000000 := by unfold sizeT at hw; omega
  obtain ⟨c, x, hx, k1, k2, k3⟩ := l35 l hw' [] lim 0 hlim (by simp [sizeTs]; omega) (by simpa using hw') (fun _ => by simp [sizeTs])
  refine ⟨c + l.length + 3, x, Ev.mk fun n hn => ?_, k1, by simpa [Ty.parts, Lam.parts] using k2, by simpa [Ty.parts, Lam.parts] using k3⟩
  have hx := hx n (by omega) n (by omega)
  show evQ E n 35 [.slc (encTs l), I lim] = some (I x)
  rw [e35]
  simpa using hx
end
theorem s35 : ∀ (l : List Ty), sizeTs l ≤ 100000000 → ∀ lim : Int, (0 ≤ lim ∧ lim ≤ 1000000) → ∃ (c : Nat) (x : Int), Ev E c 35 [.slc (encTs l), I lim] (I x) ∧ 0 ≤ x ∧ x ≤ lim + 1 + sizeTs l ∧ (x ≤ lim → x = sizeTs l)
 | l, hw, lim, hlim => by
  obtain ⟨c, x, hx, k1, k2, k3⟩ := l35 l hw [] lim 0 hlim (by simp [sizeTs]; omega) (by simpa using hw) (fun _ => by simp [sizeTs])
  refine ⟨c + l.length + 3, x, Ev.mk fun n hn => ?_, k1, by simpa using k2, by simpa using k3⟩
  have hx := hx n (by omega) n (by omega)
  rw [e35]
  simpa using hx
mutual
def tyLe (B : Nat) : Lam → Prop
 | .mk _ _ t l => sizeT t ≤ B ∧ tyLes B l
def tyLes (B : Nat) : List Lam → Prop
 | [] => True
 | t :: r => tyLe B t ∧ tyLes B r
end
theorem sizeTs_one (t : Ty) : sizeTs [t] = sizeT t := by simp [sizeTs]
mutual
theorem l13 : ∀ (r : List Lam), wLs r ≤ 50000000 → ∀ (pre : List Lam) (lim a : Int), (-1000000000000 ≤ lim ∧ lim ≤ 1000000000000) → (0 ≤ a ∧ a ≤ (if lim < 0 then 0 else lim) + 1 + 82 * sizeLs pre) → wLs (pre ++ r) ≤ 50000000 → (a ≤ lim → tyLes 80 pre) →
  ∃ (c : Nat) (x : Int), (∀ n, c ≤ n → ∀ q, r.length < q → L13_0 n q (encLs (pre ++ r)) lim a (pre.length : Nat) = some (I x)) ∧ 0 ≤ x ∧ x ≤ (if lim < 0 then 0 else lim) + 1 + 82 * sizeLs (pre ++ r) ∧ (x ≤ lim → tyLes 80 (pre ++ r))
 | [], _, pre, lim, a, hlim, ha, hp, he => ⟨0, a, fun n hn q hq => by
   obtain ⟨q, rfl⟩ : ∃ k, q = k + 1 := ⟨q - 1, by omega⟩
   rw [show q + 1 = Nat.succ q from rfl, l13_0, bif_neg (by rw [lenL]; simp)], ha.1, by simpa using ha.2, by simpa using he⟩
 | x0 :: r, hw, pre, lim, a, hlim, ha, hp, he => by
  have t37x := t37 x0
  cases x0 with
  | mk o m t l =>
  simp only [wLs, wL] at hw
  have hpa : ∀ (a b : List Lam), sizeLs (a ++ b) = sizeLs a + sizeLs b := by
   intro a b
   induction a with
   | nil => simp [sizeLs]
   | cons x a ih => simp only [List.cons_append, sizeLs, ih]; omega
  have hta : ∀ (a b : List Lam), tyLes 80 (a ++ b) ↔ tyLes 80 a ∧ tyLes 80 b := by
   intro a b
   induction a with
   | nil => simp [tyLes]
   | cons x a ih => simp only [List.cons_append, tyLes, ih]; exact ⟨fun h => ⟨⟨h.1, h.2.1⟩, h.2.2⟩, fun h => ⟨h.1.1, h.1.2, h.2⟩⟩
  have hsw : ∀ a : List Lam, sizeLs a ≤ wLs a := by
   intro a
   have : ∀ (x : Lam), sizeL x ≤ wL x := fun x => sizeL_wL x
   induction a with
   | nil => simp [sizeLs, wLs]
   | cons x a ih => have := this x; simp only [sizeLs, wLs]; omega
  have hlen : (pre ++ Lam.mk o m t l :: r).length = pre.length + (r.length + 1) := by simp
  have hl2 := len_sizeLs (pre ++ Lam.mk o m t l :: r)
  have hs3 := hsw (pre ++ Lam.mk o m t l :: r)
  rw [hlen] at hl2
  have hall : sizeLs (pre ++ Lam.mk o m t l :: r) = sizeLs pre + (1 + sizeLs l) + sizeLs r := by rw [hpa]; simp only [sizeLs, sizeL]; omega
  have hpp : sizeLs (pre ++ [Lam.mk o m t l]) = sizeLs pre + (1 + sizeLs l) := by rw [hpa]; simp only [sizeLs, sizeL]; omega
  have hpl : pre.length < (pre ++ Lam.mk o m t l :: r).length := by simp
  by_cases c : a ≤ lim
  ·have hl0 : ¬ lim < 0 := by omega
   rw [if_neg hl0] at ha ⊢
   obtain ⟨c0, x0, hx0, k1, k2, k3⟩ := s35 [t] (by rw [sizeTs_one]; omega) 80 (by omega)
   have hT : Tree.agg [Tree.str (Tree.toStr (List.headD (List.tail (List.tail (Tree.cs (encL (Lam.mk o m t l))))) (Tree.bool false))), Tree.slc (Tree.elems (List.headD (List.tail (List.tail (List.tail (Tree.cs (encL (Lam.mk o m t l)))))) (Tree.bool false)))] = encT t := by
    cases t with
    | mk s u => rfl
   have hL : Tree.elems (List.headD (List.tail (List.tail (List.tail (List.tail (Tree.cs (encL (Lam.mk o m t l))))))) (Tree.bool false)) = encLs l := by
    cases t with
    | mk s u => rfl
   have hx0' : ∀ n, c0 ≤ n → evP (Tab.env tab) n 35 [.slc [encT t], I 80] = some (I x0) := fun n hn => by simpa [encTs] using hx0 n hn
   rw [sizeTs_one] at k2 k3
   have start : ∀ n q, c0 ≤ n → L13_0 n (q + 1) (encLs (pre ++ Lam.mk o m t l :: r)) lim a (pre.length : Nat) =
     (bif decide (x0 > 80) then some (I (lim + 1)) else
      (evP (Tab.env tab) n 13 [.slc (encLs l), I (IntKind.wrap .i64 (lim - (a + 1 + x0)))]).bind fun y_4 =>
       bif Sh.ok (Sh.int .i64) y_4 then L13_0 n q (encLs (pre ++ Lam.mk o m t l :: r)) lim (IntKind.wrap .i64 (a + 1 + x0 + Tree.toInt y_4)) (IntKind.wrap .i64 ((pre.length : Nat) + 1)) else none) := by
    intro n q hn
    rw [show q + 1 = Nat.succ q from rfl, l13_0, bif_pos (by rw [lenL]; exact decide_eq_true (by omega)), bif_pos (by exact decide_eq_true c), bif_pos (by exact decide_eq_true (by omega)), Int.toNat_natCast, nthL]
    simp only [Option.bind_some, okL_sh, cond_true]
    rw [hT, hx0' n hn]
    simp only [Option.bind_some, ok_int, cond_true, toInt_int]
    rw [bif_pos (c := decide (0 ≤ ((pre.length : Nat) : Int))) (by exact decide_eq_true (by omega)), hL, w64 (x := lim + 1) (by omega), w64 (x := a + 1) (by omega), w64 (x := a + 1 + x0) (by omega)]
    rw [bif_pos (c := decide (0 ≤ ((pre.length : Nat) : Int))) (by exact decide_eq_true (by omega))]
    rfl
   by_cases c3 : x0 > 80
   ·refine ⟨c0, lim + 1, fun n hn q hq => ?_, by omega, by omega, fun h => by omega⟩
    obtain ⟨q, rfl⟩ : ∃ k, q = k + 1 := ⟨q - 1, by simp at hq; omega⟩
    rw [start n q hn, bif_pos (by exact decide_eq_true c3)]
   ·have hst := k3 (by omega)
    obtain ⟨c1, x, hx, j1, j2, j3⟩ := t37x (by unfold wL; omega) (lim - (a + 1 + x0)) (by omega)
    simp only [Lam.parts] at hx j2 j3
    have hsl := hsw l
    have j2' : a + 1 + x0 + x ≤ lim + 82 * (1 + sizeLs l) := by
     split at j2 <;> omega
    obtain ⟨c2, y, hy, i1, i2, i3⟩ := l13 r (by omega) (pre ++ [Lam.mk o m t l]) lim (a + 1 + x0 + x) hlim ⟨by omega, by rw [if_neg hl0, hpp]; omega⟩ (by simpa using hp) (fun hle => by
     rw [hta]
     exact ⟨he c, by unfold tyLes tyLe; exact ⟨⟨by omega, j3 (by omega)⟩, trivial⟩⟩)
    rw [if_neg hl0] at i2
    refine ⟨c0 + c1 + c2, y, fun n hn q hq => ?_, i1, by simpa using i2, by simpa using i3⟩
    obtain ⟨q, rfl⟩ : ∃ k, q = k + 1 := ⟨q - 1, by simp at hq; omega⟩
    rw [start n q (by omega), bif_neg (by exact decide_eq_false c3), w64 (x := lim - (a + 1 + x0)) (by omega), hx n (by omega)]
    simp only [Option.bind_some, ok_int, cond_true, toInt_int]
    rw [w64 (x := a + 1 + x0 + x) (by omega), w64 (by omega)]
    have e := hy n (by omega) q (by simp at hq; omega)
    simpa using e
  ·refine ⟨0, a, fun n hn q hq => ?_, ha.1, by rw [hall]; split at ha <;> omega, fun h => absurd h c⟩
   obtain ⟨q, rfl⟩ : ∃ k, q = k + 1 := ⟨q - 1, by simp at hq; omega⟩
   rw [show q + 1 = Nat.succ q from rfl, l13_0, bif_pos (by rw [lenL]; exact decide_eq_true (by omega)), bif_neg (by exact decide_eq_false c)]
theorem t37 : ∀ (t : Lam), wL t ≤ 50000000 → ∀ lim : Int, (-1000000000000 ≤ lim ∧ lim ≤ 1000000000000) → ∃ (c : Nat) (x : Int), Ev E c 13 [.slc (encLs t.parts), I lim] (I x) ∧ 0 ≤ x ∧ x ≤ (if lim < 0 then 0 else lim) + 1 + 82 * sizeLs t.parts ∧ (x ≤ lim → tyLes 80 t.parts)
 | .mk o m t l, hw, lim, hlim => by
  have hw' : wLs l ≤ 50000000 := by unfold wL at hw; omega
  obtain ⟨c, x, hx, k1, k2, k3⟩ := l13 l hw' [] lim 0 hlim ⟨by omega, by simp only [sizeLs]; split <;> omega⟩ (by simpa using hw') (fun _ => by simp [tyLes])
  refine ⟨c + l.length + 3, x, Ev.mk fun n hn => ?_, k1, by simpa [Ty.parts, Lam.parts] using k2, by simpa [Ty.parts, Lam.parts] using k3⟩
  have hx := hx n (by omega) n (by omega)
  show evQ E n 13 [.slc (encLs l), I lim] = some (I x)
  rw [e13]
  simpa using hx
end
theorem s13 : ∀ (l : List Lam), wLs l ≤ 50000000 → ∀ lim : Int, (-1000000000000 ≤ lim ∧ lim ≤ 1000000000000) → ∃ (c : Nat) (x : Int), Ev E c 13 [.slc (encLs l), I lim] (I x) ∧ 0 ≤ x ∧ x ≤ (if lim < 0 then 0 else lim) + 1 + 82 * sizeLs l ∧ (x ≤ lim → tyLes 80 l)
 | l, hw, lim, hlim => by
  obtain ⟨c, x, hx, k1, k2, k3⟩ := l13 l hw [] lim 0 hlim ⟨by omega, by simp only [sizeLs]; split <;> omega⟩ (by simpa using hw) (fun _ => by simp [tyLes])
  refine ⟨c + l.length + 3, x, Ev.mk fun n hn => ?_, k1, by simpa using k2, by simpa using k3⟩
  have hx := hx n (by omega) n (by omega)
  rw [e13]
  simpa using hx
theorem s5 (ts : List Lam) (hw : wLs ts ≤ 50000000) : ∃ c, ∃ b : Bool, Ev E c 5 [.slc (encLs ts)] (.bool b) ∧ (b = false → ∀ t, t ∈ ts → sizeL t ≤ 120 ∧ tyLe 80 t) := by
 have loop : ∀ (r pre : List Lam), wLs (pre ++ r) ≤ 50000000 → ∃ c, ∃ b : Bool, (∀ n, c ≤ n → ∀ q, r.length < q → L5_0 n q (encLs (pre ++ r)) (pre.length : Nat) = some (.bool b)) ∧ (b = false → ∀ t, t ∈ r → sizeL t ≤ 120 ∧ tyLe 80 t) := by
  intro r
  induction r with
  | nil =>
   intro pre hp
   refine ⟨0, false, fun n hn q hq => ?_, fun _ t ht => by simp at ht⟩
   obtain ⟨q, rfl⟩ : ∃ k, q = k + 1 := ⟨q - 1, by omega⟩
   rw [show q + 1 = Nat.succ q from rfl, l5_0, bif_neg (by rw [lenL]; simp)]
  | cons x r ih =>
   intro pre hp
   have hpa : ∀ (a b : List Lam), wLs (a ++ b) = wLs a + wLs b := by
    intro a b
    induction a with
    | nil => simp [wLs]
    | cons x a ih => simp only [List.cons_append, wLs, ih]; omega
   have hl := len_wLs (pre ++ x :: r)
   rw [hpa] at hp
   simp only [wLs] at hp
   have hlen : (pre ++ x :: r).length = pre.length + (r.length + 1) := by simp
   rw [hpa] at hl
   simp only [wLs] at hl
   rw [hlen] at hl
   have hsx := sizeL_wL x
   have h38 := s14 x (by omega)
   obtain ⟨c1, y, hy, y1, y2, y3⟩ := s13 [x] (by simp only [wLs]; omega) 720 (by omega)
   obtain ⟨c2, b2, h2, h2'⟩ := ih (pre ++ [x]) (by rw [List.append_assoc, List.singleton_append, hpa]; simp only [wLs]; omega)
   have hdrop : List.drop pre.length (List.take (pre.length + 1) (encLs (pre ++ x :: r))) = encLs [x] := by
    have : encLs (pre ++ x :: r) = encLs pre ++ (encL x :: encLs r) := by simp [encLs_map]
    rw [this]
    have hl3 := lenL pre
    rw [List.take_append, List.drop_append]
    simp [hl3, encLs]
   have start : ∀ n q, c1 + 2 * sizeL x + 2 ≤ n → L5_0 n (q + 1) (encLs (pre ++ x :: r)) (pre.length : Nat) =
     (bif decide (y > 720) then some (.bool true) else bif decide ((sizeL x : Int) > 120) then some (.bool true) else L5_0 n q (encLs (pre ++ x :: r)) ((pre.length + 1 : Nat) : Int)) := by
    intro n q hn
    rw [show q + 1 = Nat.succ q from rfl, l5_0, bif_pos (by rw [lenL]; exact decide_eq_true (by omega)), w64 (by omega), lenL, hlen, bif_pos (by rw [decide_eq_true (by omega), decide_eq_true (by omega), decide_eq_true (by omega)]; rfl)]
    rw [show (((pre.length : Nat) : Int) + 1) = ((pre.length + 1 : Nat) : Int) by omega, Int.toNat_natCast, Int.toNat_natCast, hdrop, firstL, cond_true, hy n (by omega)]
    simp only [Option.bind_some, ok_int, cond_true, toInt_int]
    rw [bif_pos (c := decide (0 ≤ ((pre.length : Nat) : Int))) (by exact decide_eq_true (by omega)), nthL, Option.bind_some, okL_sh, cond_true, lookL, h38 n (by omega)]
    simp only [Option.bind_some, ok_tup, oks_cons, ok_int, oks_nil, Bool.and_true, cond_true, tupl_tup, List.headD_cons, List.tail_cons, toInt_int]
    rfl
   by_cases d1 : y > 720
   ·refine ⟨c1 + 2 * sizeL x + 2, true, fun n hn q hq => ?_, fun h => by cases h⟩
    obtain ⟨q, rfl⟩ : ∃ k, q = k + 1 := ⟨q - 1, by simp at hq; omega⟩
    rw [start n q hn, bif_pos (by exact decide_eq_true d1)]
   ·by_cases d2 : (sizeL x : Int) > 120
    ·refine ⟨c1 + 2 * sizeL x + 2, true, fun n hn q hq => ?_, fun h => by cases h⟩
     obtain ⟨q, rfl⟩ : ∃ k, q = k + 1 := ⟨q - 1, by simp at hq; omega⟩
     rw [start n q hn, bif_neg (by exact decide_eq_false d1), bif_pos (by exact decide_eq_true d2)]
    ·refine ⟨c1 + c2 + 2 * sizeL x + 2, b2, fun n hn q hq => ?_, fun hb t ht => ?_⟩
     ·obtain ⟨q, rfl⟩ : ∃ k, q = k + 1 := ⟨q - 1, by simp at hq; omega⟩
      rw [start n q (by omega), bif_neg (by exact decide_eq_false d1), bif_neg (by exact decide_eq_false d2)]
      have e := h2 n (by omega) q (by simp at hq; omega)
      simpa using e
     ·rcases List.mem_cons.1 ht with rfl | ht
      ·exact ⟨by omega, (y3 (by omega)).1⟩
      ·exact h2' hb t ht
 obtain ⟨c, b, h, h'⟩ := loop ts [] (by simpa using hw)
 refine ⟨c + ts.length + 3, b, Ev.mk fun n hn => ?_, h'⟩
 have := h n (by omega) n (by omega)
 rw [e5]
 simpa using this
end Go.Proofs.Cw.Si
end

/-
  SIMPLE: steps through equations.
-/
section
namespace Go.Proofs.Cw.Si
open Go.Proofs
theorem step_b {α β : Type} {x : Option α} {y : α} {f : α → Option β} {r : Option β} (h : x = some y) (k : f y = r) : x.bind f = r := by rw [h]; exact k
theorem step_t {α : Type} {c : Bool} {x y r : α} (h : c = true) (k : x = r) : (bif c then x else y) = r := by rw [h]; exact k
theorem step_f {α : Type} {c : Bool} {x y r : α} (h : c = false) (k : y = r) : (bif c then x else y) = r := by rw [h]; exact k
theorem encL_eta (t : Lam) : encL t = .agg [I t.op, I t.num, .str t.ty.name, .slc (encTs t.ty.parts), .slc (encLs t.parts)] := by
 cases t with
 | mk o m ty l => cases ty; rfl
theorem sizeL_mk (o m : Int) (t : Ty) (l : List Lam) : sizeL (.mk o m t l) = 1 + sizeLs l := rfl
abbrev shT : Sh := Sh.agg [Sh.str, Sh.slc]
def pathT (p : List Nat) : List Tree := p.map fun k => I ((k : Nat) : Int)
theorem pathT_len (p : List Nat) : (pathT p).length = p.length := by simp [pathT]
theorem pathT_first (p : List Nat) : firstOk (Sh.int IntKind.i64) (pathT p) = true := by cases p <;> rfl
end Go.Proofs.Cw.Si
end

/-
  THE INFERER'S WORLD 1: types as objects, what unknowns stand for as a map; find.
-/
section
namespace Go.Proofs.Cw.Si
open Go.Proofs
def Nd.obj : Nd → WObj
 | .unk k => .cells [.str [], I k, .slc []]
 | .nat => .cells [.str sNat, I 0, .slc []]
 | .bin p a b => .cells [.str (if p then sTo else sPair), I 0, .slc [.wp a 0, .wp b 0]]
def Nd.name : Nd → List UInt8
 | .unk _ => []
 | .nat => sNat
 | .bin p _ _ => if p then sTo else sPair
def Nd.leaf : Nd → Int
 | .unk k => k
 | _ => 0
def Nd.kids : Nd → List Tree
 | .bin _ a b => [.wp a 0, .wp b 0]
 | _ => []
theorem Nd.obj_eq (nd : Nd) : nd.obj = .cells [.str nd.name, I nd.leaf, .slc nd.kids] := by cases nd <;> rfl
def bdM (es : Bd) : List (Tree × Tree) := es.map fun p => (I (p.1 : Nat), .wp p.2 0)
structure Wok (G : World') (f m : Nat) (N : NT) (next : Nat) (es : Bd) : Prop where
 hf : nth G f = some (.cells [I next, .wm m])
 hm : nth G m = some (.map (bdM es))
 hN : ∀ i nd, N i = some nd → nth G i = some nd.obj
 le : ∀ i k, N i = some (.unk k) → k ≤ next
 tot : Tot N es
 tg : ∀ k j, look es k = some j → ∃ nd, N j = some nd
 src : ∀ k j, look es k = some j → ∃ i, N i = some (.unk k)
 kid : ∀ i p a b, N i = some (.bin p a b) → (∃ x, N a = some x) ∧ ∃ y, N b = some y
 nx : next ≤ 1000000
theorem wcell_of {G : World'} {i : Nat} {cs : List Tree} (h : nth G i = some (.cells cs)) (j : Nat) : wcell G i j = nth cs j := by
 unfold wcell; rw [h]
theorem mfind_to (k : Nat) : ∀ (es : Bd) (i : Nat), (look es k = none → mfind .int (I k) (bdM es) i = some none) ∧ ∀ j, look es k = some j → ∃ p, mfind .int (I k) (bdM es) i = some (some (p, .wp j 0))
 | [], i => ⟨fun _ => rfl, fun j h => by cases h⟩
 | (x, y) :: r, i => by
  have e : keyEq .int (I k) (I x) = some (((k : Nat) : Int) == ((x : Nat) : Int)) := rfl
  obtain ⟨h1, h2⟩ := mfind_to k r (i + 1)
  have hb : (((k : Nat) : Int) == ((x : Nat) : Int)) = decide (k = x) := by
   by_cases h : k = x
   ·simp [h]
   ·simp [h]; omega
  have step : mfind .int (I k) (bdM ((x, y) :: r)) i = match decide (k = x) with
    | true => some (some (i, .wp y 0))
    | false => mfind .int (I k) (bdM r) (i + 1) := by
   show (match keyEq .int (I k) (I x) with | some true => _ | some false => _ | none => _) = _
   rw [e, hb]
   cases decide (k = x) <;> rfl
  rw [step]
  simp only [look]
  by_cases h : x = k
  ·rw [if_pos h]
   simp only [h, decide_true]
   exact ⟨fun c => (by cases c), fun j hj => by cases hj; exact ⟨i, rfl⟩⟩
  ·rw [if_neg h]
   simp only [show decide (k = x) = false from decide_eq_false fun c => h c.symm]
   exact ⟨h1, h2⟩
theorem wlook_none {G : World'} {m k : Nat} {es : Bd} (hm : nth G m = some (.map (bdM es))) (h : look es k = none) : wlook .int G m (I k) .nilp = some (false, .nilp) := by
 unfold wlook; simp only [hm, (mfind_to k es 0).1 h]
theorem wlook_some {G : World'} {m k j : Nat} {es : Bd} (hm : nth G m = some (.map (bdM es))) (h : look es k = some j) : wlook .int G m (I k) .nilp = some (true, .wp j 0) := by
 obtain ⟨p, hp⟩ := (mfind_to k es 0).2 j h
 unfold wlook; simp only [hm, hp]
section
variable {G : World'} {f m : Nat} {N : NT} {next : Nat} {es : Bd}
theorem Wok.cell (w : Wok G f m N next es) {i : Nat} {nd : Nd} (h : N i = some nd) : wcell G i 0 = some (.str nd.name) ∧ wcell G i 1 = some (I nd.leaf) ∧ wcell G i 2 = some (.slc nd.kids) := by
 have := w.hN i nd h
 rw [Nd.obj_eq] at this
 exact ⟨wcell_of this 0, wcell_of this 1, wcell_of this 2⟩
theorem Wok.fcell (w : Wok G f m N next es) : wcell G f 0 = some (I next) ∧ wcell G f 1 = some (.wm m) := ⟨wcell_of w.hf 0, wcell_of w.hf 1⟩
theorem l47 (w : Wok G f m N next es) {t r : Nat} (h : Find N es t r) : ∃ c, ∀ n q, c ≤ q → L47_0 n q f t G = some (.wp r 0, G) := by
 obtain ⟨f0, f1⟩ := w.fcell
 induction h with
 | @free i k h l =>
  obtain ⟨c0, c1, _⟩ := w.cell h
  refine ⟨1, fun n q hq => ?_⟩
  obtain ⟨q, rfl⟩ : ∃ p, q = Nat.succ p := ⟨q - 1, by omega⟩
  rw [v47_0]
  refine step_b c0 (step_t rfl (step_t rfl (step_b f1 (step_t rfl (step_b c1 (step_t rfl ?_))))))
  exact step_b (wlook_none w.hm l) rfl
 | @link i k j r h l _ ih =>
  obtain ⟨c0, c1, _⟩ := w.cell h
  obtain ⟨c, hc⟩ := ih
  refine ⟨c + 1, fun n q hq => ?_⟩
  obtain ⟨q, rfl⟩ : ∃ p, q = Nat.succ p := ⟨q - 1, by omega⟩
  rw [v47_0]
  refine step_b c0 (step_t rfl (step_t rfl (step_b f1 (step_t rfl (step_b c1 (step_t rfl ?_))))))
  exact step_b (wlook_some w.hm l) (step_t rfl (step_t rfl (hc n q (by omega))))
 | @nat i h =>
  obtain ⟨c0, c1, _⟩ := w.cell h
  refine ⟨1, fun n q hq => ?_⟩
  obtain ⟨q, rfl⟩ : ∃ p, q = Nat.succ p := ⟨q - 1, by omega⟩
  rw [v47_0]
  exact step_b c0 (step_t rfl (step_f rfl rfl))
 | @bin i p a b h =>
  obtain ⟨c0, c1, _⟩ := w.cell h
  refine ⟨1, fun n q hq => ?_⟩
  obtain ⟨q, rfl⟩ : ∃ p, q = Nat.succ p := ⟨q - 1, by omega⟩
  rw [v47_0]
  exact step_b c0 (step_t rfl (step_f (by cases p <;> rfl) rfl))
theorem s47 (w : Wok G f m N next es) {t r : Nat} (h : Find N es t r) : ∃ c, EvW E c 47 [.wp f 0, .wp t 0] G (.wp r 0) G := by
 obtain ⟨c, hc⟩ := l47 w h
 refine ⟨c + 1, EvW.mk fun n hn => ?_⟩
 rw [w47]
 exact hc n n hn
end
end Go.Proofs.Cw.Si
end

/-
  THE INFERER'S WORLD 2: within.
-/
section
namespace Go.Proofs.Cw.Si
open Go.Proofs
theorem nth_set_ne {α : Type} (G : List α) {i j : Nat} (o : α) (h : i ≠ j) : nth (setN G i o) j = nth G j := by
 rw [nth_eq, nth_eq, setN_eq, List.getElem?_set, if_neg h]
theorem nth_set_same {α : Type} {G : List α} {i : Nat} {x : α} (o : α) (h : nth G i = some x) : nth (setN G i o) i = some o := by
 rw [nth_eq] at h
 have := (List.getElem?_eq_some_iff.1 h).1
 rw [nth_eq, setN_eq, List.getElem?_set, if_pos rfl, if_pos this]
theorem set_set {α : Type} (G : List α) (i : Nat) (a b : α) : setN (setN G i a) i b = setN G i b := by
 simp only [setN_eq, List.set_set]
theorem set_self {α : Type} {G : List α} {i : Nat} {x : α} (h : nth G i = some x) : setN G i x = G := by
 rw [nth_eq] at h
 rw [setN_eq]
 apply List.ext_getElem?
 intro j
 rw [List.getElem?_set]
 by_cases e : i = j
 ·subst e
  rw [if_pos rfl, if_pos (List.getElem?_eq_some_iff.1 h).1, h]
 ·rw [if_neg e]
def seenM (S : List Nat) : List (Tree × Tree) := S.map fun x => (.wp x 0, .bool true)
theorem mfind_seen (r : Nat) : ∀ (S : List Nat) (i : Nat), (r ∉ S → mfind .ptr (.wp r 0) (seenM S) i = some none) ∧ (r ∈ S → ∃ p, mfind .ptr (.wp r 0) (seenM S) i = some (some (p, .bool true)))
 | [], i => ⟨fun _ => rfl, fun h => by simp at h⟩
 | x :: S, i => by
  obtain ⟨h1, h2⟩ := mfind_seen r S (i + 1)
  have step : mfind .ptr (.wp r 0) (seenM (x :: S)) i = match Nat.beq r x with
    | true => some (some (i, .bool true))
    | false => mfind .ptr (.wp r 0) (seenM S) (i + 1) := by
   show (match some (Nat.beq r x && Nat.beq 0 0) with | some true => _ | some false => _ | none => _) = _
   cases Nat.beq r x <;> rfl
  rw [step]
  by_cases h : r = x
  ·subst h
   rw [Nat.beq_refl]
   exact ⟨fun c => absurd (List.mem_cons_self) c, fun _ => ⟨i, rfl⟩⟩
  ·have hb : Nat.beq r x = false := by
    cases hq : Nat.beq r x with
    | false => rfl
    | true => exact absurd (Nat.eq_of_beq_eq_true hq) h
   rw [hb]
   exact ⟨fun c => h1 fun k => c (List.mem_cons_of_mem _ k), fun c => h2 ((List.mem_cons.1 c).resolve_left h)⟩
theorem wlook_seen {G : World'} {s r : Nat} {S : List Nat} (hs : nth G s = some (.map (seenM S))) : (r ∉ S → wlook .ptr G s (.wp r 0) (.bool false) = some (false, .bool false)) ∧ (r ∈ S → wlook .ptr G s (.wp r 0) (.bool false) = some (true, .bool true)) := by
 obtain ⟨h1, h2⟩ := mfind_seen r S 0
 refine ⟨fun h => ?_, fun h => ?_⟩
 ·unfold wlook; simp only [hs, h1 h]
 ·obtain ⟨p, hp⟩ := h2 h
  unfold wlook; simp only [hs, hp]
theorem wput_seen {G : World'} {s r : Nat} {S : List Nat} (hs : nth G s = some (.map (seenM S))) (h : r ∉ S) : wput .ptr G s (.wp r 0) (.bool true) = some (setN G s (.map (seenM (S ++ [r])))) := by
 unfold wput
 simp only [hs, (mfind_seen r S 0).1 h]
 simp [seenM]
section
variable {G : World'} {f m : Nat} {N : NT} {next : Nat} {es : Bd}
theorem Wok.set (w : Wok G f m N next es) {s : Nat} (o : WObj) (h1 : s ≠ f) (h2 : s ≠ m) (h3 : N s = none) : Wok (setN G s o) f m N next es where
 hf := by rw [nth_set_ne _ _ h1]; exact w.hf
 hm := by rw [nth_set_ne _ _ h2]; exact w.hm
 hN i nd h := by rw [nth_set_ne _ _ fun e => by rw [e, h] at h3; cases h3]; exact w.hN i nd h
 le := w.le
 tot := w.tot
 tg := w.tg
 src := w.src
 kid := w.kid
 nx := w.nx
abbrev wfn (f k s : Nat) : Tree := .fn 89 [] [.ptr (.wp f 0) 0, .ptr (I (k : Nat)) 0, .ptr (.wm s) 0]
theorem s89 {f k s c x : Nat} {G1 G2 : World'} {v : Bool} (h : EvW E c 81 [.wp f 0, I (k : Nat), .wp x 0, .wm s] G1 (.bool v) G2) : EvW E (c + 1) 89 [.wp x 0, .ptr (.wp f 0) 0, .ptr (I (k : Nat)) 0, .ptr (.wm s) 0] G1 (.bool v) G2 := by
 refine EvW.mk fun n hn => ?_
 rw [w89]
 exact step_b (h n hn) (step_t rfl rfl)
theorem r96 {f k s : Nat} (l : List Tree) (n q j i c : Nat) (v : Bool) (G1 G2 : World') (hi : nth l i = some (.wp j 0)) (hl : i < l.length) (hl2 : l.length ≤ 1000) (h : EvW E c 81 [.wp f 0, I (k : Nat), .wp j 0, .wm s] G1 (.bool v) G2) (hn : c + 1 ≤ n) :
  L96_0 n (Nat.succ q) l f k s (l.length : Nat) (i : Nat) G1 = bif v then some (I (i : Nat), G2) else L96_0 n q l f k s (l.length : Nat) ((i + 1 : Nat) : Int) G2 := by
 rw [v96_0]
 refine step_t (by simp; omega) (step_t (by simp) (step_b (y := .wp j 0) ?_ ?_))
 ·rw [Int.toNat_natCast]; exact hi
 refine step_t rfl ?_
 refine step_b (s89 h n hn) ?_
 refine step_t rfl ?_
 rw [w64 (by omega)]
 rfl
theorem s88 {f k s c : Nat} {l : List Tree} {i : Int} {G1 G2 : World'} (h : EvW E c 96 [.slc l, wfn f k s] G1 (I i) G2) : EvW E (c + 1) 88 [.slc l, wfn f k s] G1 (.bool (decide (i ≥ 0))) G2 := EvW.mk fun n hn => by
 rw [w88]
 exact step_b (h n hn) (step_t rfl rfl)
theorem s88_nil {f k s : Nat} (G1 : World') : EvW E 4 88 [.slc [], wfn f k s] G1 (.bool false) G1 := by
 refine s88 (i := -1) (EvW.mk fun n hn => ?_)
 obtain ⟨n, rfl⟩ : ∃ p, n = Nat.succ p := ⟨n - 1, by omega⟩
 rw [w96, v96_0]
 exact step_f rfl rfl
theorem s88_t {f k s a b ca : Nat} {G1 G2 : World'} (ea : EvW E ca 81 [.wp f 0, I (k : Nat), .wp a 0, .wm s] G1 (.bool true) G2) : EvW E (ca + 5) 88 [.slc [.wp a 0, .wp b 0], wfn f k s] G1 (.bool true) G2 := by
 refine s88 (i := 0) (EvW.mk (c := ca + 3) fun n hn => ?_)
 obtain ⟨q, rfl⟩ : ∃ p, n = Nat.succ p := ⟨n - 1, by omega⟩
 rw [w96]
 exact r96 [.wp a 0, .wp b 0] _ q a 0 ca true G1 G2 rfl (by simp) (by simp) ea (by omega)
theorem z0 : ((0 : Nat) : Int) = 0 := rfl
theorem s88_v {f k s c : Nat} {l : List Tree} {i : Int} {v : Bool} {G1 G2 : World'} (hv : decide (i ≥ 0) = v) (h : ∀ n, c ≤ n → L96_0 n n l f k s (l.length : Nat) 0 G1 = some (I i, G2)) : EvW E (c + 2) 88 [.slc l, wfn f k s] G1 (.bool v) G2 := by
 have h96 : EvW E (c + 1) 96 [.slc l, wfn f k s] G1 (I i) G2 := EvW.mk fun n hn => by rw [w96]; exact h n hn
 have := s88 h96
 rw [hv] at this
 exact this
theorem s88_ft {f k s a b ca cb : Nat} {G1 G2 G3 : World'} (ea : EvW E ca 81 [.wp f 0, I (k : Nat), .wp a 0, .wm s] G1 (.bool false) G2) (eb : EvW E cb 81 [.wp f 0, I (k : Nat), .wp b 0, .wm s] G2 (.bool true) G3) :
  EvW E (ca + cb + 4 + 2) 88 [.slc [.wp a 0, .wp b 0], wfn f k s] G1 (.bool true) G3 := by
 refine s88_v (i := ((1 : Nat) : Int)) (by decide) fun n hn => ?_
 obtain ⟨q, hq⟩ : ∃ p, n = Nat.succ (Nat.succ p) := ⟨n - 2, by omega⟩
 have e1 := r96 (f := f) (k := k) (s := s) [.wp a 0, .wp b 0] n (Nat.succ q) a 0 ca false G1 G2 rfl (by simp) (by simp) ea (by omega)
 have e2 := r96 (f := f) (k := k) (s := s) [.wp a 0, .wp b 0] n q b 1 cb true G2 G3 rfl (by simp) (by simp) eb (by omega)
 rw [cond_false, z0, ← hq] at e1
 rw [cond_true] at e2
 rw [e1]
 exact e2
theorem s88_ff {f k s a b ca cb : Nat} {G1 G2 G3 : World'} (ea : EvW E ca 81 [.wp f 0, I (k : Nat), .wp a 0, .wm s] G1 (.bool false) G2) (eb : EvW E cb 81 [.wp f 0, I (k : Nat), .wp b 0, .wm s] G2 (.bool false) G3) :
  EvW E (ca + cb + 4 + 2) 88 [.slc [.wp a 0, .wp b 0], wfn f k s] G1 (.bool false) G3 := by
 refine s88_v (i := -1) (by decide) fun n hn => ?_
 obtain ⟨q, hq⟩ : ∃ p, n = Nat.succ (Nat.succ (Nat.succ p)) := ⟨n - 3, by omega⟩
 have e1 := r96 (f := f) (k := k) (s := s) [.wp a 0, .wp b 0] n (Nat.succ (Nat.succ q)) a 0 ca false G1 G2 rfl (by simp) (by simp) ea (by omega)
 have e2 := r96 (f := f) (k := k) (s := s) [.wp a 0, .wp b 0] n (Nat.succ q) b 1 cb false G2 G3 rfl (by simp) (by simp) eb (by omega)
 have e3 := v96_0 n q [.wp a 0, .wp b 0] f k s (([Tree.wp a 0, Tree.wp b 0].length : Nat) : Int) ((1 + 1 : Nat) : Int) G3
 rw [cond_false, z0, ← hq] at e1
 rw [cond_false] at e2
 rw [e1, e2, e3]
 exact step_f (by simp) rfl
theorem s81 (k : Nat) {s : Nat} (h1 : s ≠ f) (h2 : s ≠ m) (h3 : N s = none) : ∀ (sz : Nat) {G : World'} {t : Nat} {τ : FT} {S : List Nat}, Wok G f m N next es → Res N es t τ → τ.size ≤ sz → nth G s = some (.map (seenM S)) →
  (∀ x, x ∈ S → ∃ u, Res N es x u ∧ (¬ u.occ k ∨ τ.size < u.size)) →
  ∃ c b S', EvW E c 81 [.wp f 0, I k, .wp t 0, .wm s] G (.bool b) (setN G s (.map (seenM S'))) ∧ (b = true → τ.occ k) ∧ (b = false → ¬ τ.occ k ∧ ∀ x, x ∈ S' → x ∈ S ∨ ∃ u, Res N es x u ∧ ¬ u.occ k)
 | 0, G, t, τ, S, w, hr, hz, hs, hS => by have := τ.size_pos; omega
 | sz + 1, G, t, τ, S, w, hr, hz, hs, hS => by
  obtain ⟨r, hf, hrr, hc⟩ := hr.find
  obtain ⟨c0, h47⟩ := s47 w hf
  rcases hc with ⟨j, hj, hl, rfl⟩ | hc
  ·obtain ⟨e0, e1, _⟩ := w.cell hj
   refine ⟨c0 + 1, ((j : Nat) : Int) == (k : Nat), S, EvW.mk fun n hn => ?_, fun h => ?_, fun h => ⟨fun h' => ?_, fun x hx => .inl hx⟩⟩
   ·rw [w81]
    rw [set_self hs]
    exact step_b (h47 n hn) (step_t rfl (step_b e0 (step_t rfl (step_t rfl (step_b e1 (step_t rfl rfl))))))
   ·show j = k
    have := eq_of_beq h; omega
   ·have e : j = k := h'
    rw [e] at h; simp at h
  ·obtain ⟨nd, hnd, hne⟩ : ∃ nd, N r = some nd ∧ (nd.name == []) = false := by
    rcases hc with ⟨h, _⟩ | ⟨p, a, b, _, _, h, _⟩
    ·exact ⟨_, h, rfl⟩
    ·exact ⟨_, h, by cases p <;> rfl⟩
   obtain ⟨e0, _, _⟩ := w.cell hnd
   obtain ⟨l1, l2⟩ := wlook_seen (r := r) hs
   by_cases hm : r ∈ S
   ·obtain ⟨u, hu, ho⟩ := hS r hm
    have := hu.det hrr
    subst this
    have ho : ¬ u.occ k := ho.resolve_right (by omega)
    refine ⟨c0 + 1, false, S, EvW.mk fun n hn => ?_, (fun h => by cases h), fun _ => ⟨ho, fun x hx => .inl hx⟩⟩
    rw [w81, set_self hs]
    exact step_b (h47 n hn) (step_t rfl (step_b e0 (step_t rfl (step_f hne (step_b (l2 hm) (step_t rfl (step_t rfl rfl)))))))
   ·have hs1 : nth (setN G s (.map (seenM (S ++ [r])))) s = some (.map (seenM (S ++ [r]))) := nth_set_same _ hs
    have w1 : Wok (setN G s (.map (seenM (S ++ [r])))) f m N next es := w.set _ h1 h2 h3
    obtain ⟨_, _, e2⟩ := w1.cell hnd
    have front : ∀ (n : Nat) (R : Option (Tree × World')), c0 ≤ n → ((evW (Tab.env tab) n 88 [.slc nd.kids, .fn 89 [] [.ptr (.wp f 0) 0, .ptr (I k) 0, .ptr (.wm s) 0]] (setN G s (.map (seenM (S ++ [r]))))).bind fun y => bif Sh.ok .bool y.1 then some (.bool y.1.toBool, y.2) else none) = R →
      evWQ (Tab.env tab) n 81 [.wp f 0, I k, .wp t 0, .wm s] G = R := by
     intro n R hn h
     rw [w81]
     exact step_b (h47 n hn) (step_t rfl (step_b e0 (step_t rfl (step_f hne (step_b (l1 hm) (step_t rfl (step_f rfl (step_b (wput_seen hs hm) (step_b e2 (step_t rfl h))))))))))
    rcases hc with ⟨hnat, rfl⟩ | ⟨p, a, b, y, z, hb, ra, rb, rfl⟩
    ·rw [hnat] at hnd; cases hnd
     refine ⟨c0 + 5, false, S ++ [r], EvW.mk fun n hn => front n _ (by omega) (step_b (s88_nil _ n (by omega)) (step_t rfl rfl)), (fun h => by cases h), fun _ => ⟨fun h => h, fun x hx => ?_⟩⟩
     rcases List.mem_append.1 hx with hx | hx
     ·exact .inl hx
     ·rw [List.mem_singleton.1 hx]
      exact .inr ⟨_, hrr, fun h => h⟩
    ·rw [hb] at hnd; cases hnd
     simp only [FT.size] at hz hS
     have hS1 : ∀ d : FT, d.size < y.size + z.size + 1 → ∀ x, x ∈ S ++ [r] → ∃ u, Res N es x u ∧ (¬ u.occ k ∨ d.size < u.size) := by
      intro d hd x hx
      rcases List.mem_append.1 hx with hx | hx
      ·obtain ⟨u, hu, ho | ho⟩ := hS x hx
       ·exact ⟨u, hu, .inl ho⟩
       ·exact ⟨u, hu, .inr (by omega)⟩
      ·rw [List.mem_singleton.1 hx]
       exact ⟨_, hrr, .inr (by simp only [FT.size]; exact hd)⟩
     have hy := y.size_pos
     have hz' := z.size_pos
     obtain ⟨ca, ba, Sa, ea, ta, fa⟩ := s81 k h1 h2 h3 sz w1 ra (by omega) hs1 (hS1 y (by omega))
     rw [set_set] at ea
     have fin : ∀ {c : Nat} {v : Bool} {G2 : World'}, EvW E c 88 [.slc [.wp a 0, .wp b 0], wfn f k s] (setN G s (.map (seenM (S ++ [r])))) (.bool v) G2 → EvW E (c + c0 + 1) 81 [.wp f 0, I k, .wp t 0, .wm s] G (.bool v) G2 := by
      intro c v G2 h
      exact EvW.mk (c := c + c0) fun n hn => front n _ (by omega) (step_b (h n (by omega)) (step_t rfl rfl))
     cases hba : ba with
     | true =>
      subst hba
      exact ⟨_, true, Sa, fin (s88_t ea), fun _ => .inl (ta rfl), fun h => by cases h⟩
     | false =>
      subst hba
      obtain ⟨na, ha⟩ := fa rfl
      have hsa : nth (setN G s (.map (seenM Sa))) s = some (.map (seenM Sa)) := nth_set_same _ hs
      have wa : Wok (setN G s (.map (seenM Sa))) f m N next es := w.set _ h1 h2 h3
      obtain ⟨cb, bb, Sb, eb, tb, fb⟩ := s81 k h1 h2 h3 sz wa rb (by omega) hsa (fun x hx => by
       rcases ha x hx with hx | ⟨u, hu, ho⟩
       ·exact hS1 z (by omega) x hx
       ·exact ⟨u, hu, .inl ho⟩)
      rw [set_set] at eb
      cases hbb : bb with
      | true =>
       subst hbb
       exact ⟨_, true, Sb, fin (s88_ft ea eb), fun _ => .inr (tb rfl), fun h => by cases h⟩
      | false =>
       subst hbb
       obtain ⟨nb, hb'⟩ := fb rfl
       refine ⟨_, false, Sb, fin (s88_ff ea eb), (fun h => by cases h), fun _ => ⟨fun h => h.elim na nb, fun x hx => ?_⟩⟩
       rcases hb' x hx with hx | hx
       ·rcases ha x hx with hx | hx
        ·rcases List.mem_append.1 hx with hx | hx
         ·exact .inl hx
         ·rw [List.mem_singleton.1 hx]
          exact .inr ⟨_, hrr, fun h => h.elim na nb⟩
        ·exact .inr hx
       ·exact .inr hx
end
end Go.Proofs.Cw.Si
end

/-
  THE INFERER'S WORLD 3: pairs that were met, new objects, how many unknowns stand for nothing.
-/
section
namespace Go.Proofs.Cw.Si
open Go.Proofs
def pairM (S : List (Nat × Nat)) : List (Tree × Tree) := S.map fun p => (.agg [.wp p.1 0, .wp p.2 0], .bool true)
theorem beqN (a b : Nat) : Nat.beq a b = decide (a = b) := by
 by_cases h : a = b
 ·subst h; rw [Nat.beq_refl]; simp
 ·rw [decide_eq_false h]
  cases hq : Nat.beq a b with
  | false => rfl
  | true => exact absurd (Nat.eq_of_beq_eq_true hq) h
theorem keyEq_pair (a b x y : Nat) : keyEq (.arr 2) (.agg [.wp a 0, .wp b 0]) (.agg [.wp x 0, .wp y 0]) = some (decide ((a, b) = (x, y))) := by
 show (bif Nat.beq a x && Nat.beq 0 0 then (bif Nat.beq b y && Nat.beq 0 0 then ptrEqs [] [] else some false) else some false) = _
 rw [beqN, beqN, beqN]
 by_cases h1 : a = x
 ·by_cases h2 : b = y
  ·subst h1; subst h2; simp [ptrEqs]
  ·simp [h1, h2]
 ·simp [h1]
theorem mfind_pair (a b : Nat) : ∀ (S : List (Nat × Nat)) (i : Nat), ((a, b) ∉ S → mfind (.arr 2) (.agg [.wp a 0, .wp b 0]) (pairM S) i = some none) ∧ ((a, b) ∈ S → ∃ p, mfind (.arr 2) (.agg [.wp a 0, .wp b 0]) (pairM S) i = some (some (p, .bool true)))
 | [], i => ⟨fun _ => rfl, fun h => by simp at h⟩
 | (x, y) :: S, i => by
  obtain ⟨h1, h2⟩ := mfind_pair a b S (i + 1)
  have step : mfind (.arr 2) (.agg [.wp a 0, .wp b 0]) (pairM ((x, y) :: S)) i = match decide ((a, b) = (x, y)) with
    | true => some (some (i, .bool true))
    | false => mfind (.arr 2) (.agg [.wp a 0, .wp b 0]) (pairM S) (i + 1) := by
   show (match keyEq (.arr 2) (.agg [.wp a 0, .wp b 0]) (.agg [.wp x 0, .wp y 0]) with | some true => _ | some false => _ | none => _) = _
   rw [keyEq_pair]
   cases decide ((a, b) = (x, y)) <;> rfl
  rw [step]
  by_cases h : (a, b) = (x, y)
  ·rw [decide_eq_true h, h]
   exact ⟨fun c => absurd (List.mem_cons_self) c, fun _ => ⟨i, rfl⟩⟩
  ·rw [decide_eq_false h]
   exact ⟨fun c => h1 fun k => c (List.mem_cons_of_mem _ k), fun c => h2 ((List.mem_cons.1 c).resolve_left h)⟩
theorem wlook_pair {G : World'} {s a b : Nat} {S : List (Nat × Nat)} (hs : nth G s = some (.map (pairM S))) :
  ((a, b) ∉ S → wlook (.arr 2) G s (.agg [.wp a 0, .wp b 0]) (.bool false) = some (false, .bool false)) ∧ ((a, b) ∈ S → wlook (.arr 2) G s (.agg [.wp a 0, .wp b 0]) (.bool false) = some (true, .bool true)) := by
 obtain ⟨h1, h2⟩ := mfind_pair a b S 0
 refine ⟨fun h => ?_, fun h => ?_⟩
 ·unfold wlook; simp only [hs, h1 h]
 ·obtain ⟨p, hp⟩ := h2 h
  unfold wlook; simp only [hs, hp]
theorem wput_pair {G : World'} {s a b : Nat} {S : List (Nat × Nat)} (hs : nth G s = some (.map (pairM S))) :
  ∃ S', wput (.arr 2) G s (.agg [.wp a 0, .wp b 0]) (.bool true) = some (setN G s (.map (pairM S'))) ∧ ∀ p, p ∈ S' → p ∈ S ∨ p = (a, b) := by
 obtain ⟨h1, h2⟩ := mfind_pair a b S 0
 by_cases h : (a, b) ∈ S
 ·have key : ∀ (S : List (Nat × Nat)) (i p : Nat) (v : Tree), mfind (.arr 2) (.agg [.wp a 0, .wp b 0]) (pairM S) i = some (some (p, v)) → i ≤ p ∧ setN (pairM S) (p - i) (.agg [.wp a 0, .wp b 0], .bool true) = pairM S := by
   intro S
   induction S with
   | nil => intro i p v h; cases h
   | cons q S ih =>
    obtain ⟨x, y⟩ := q
    intro i p v h
    have step : mfind (.arr 2) (.agg [.wp a 0, .wp b 0]) (pairM ((x, y) :: S)) i = match decide ((a, b) = (x, y)) with
      | true => some (some (i, .bool true))
      | false => mfind (.arr 2) (.agg [.wp a 0, .wp b 0]) (pairM S) (i + 1) := by
     show (match keyEq (.arr 2) (.agg [.wp a 0, .wp b 0]) (.agg [.wp x 0, .wp y 0]) with | some true => _ | some false => _ | none => _) = _
     rw [keyEq_pair]
     cases decide ((a, b) = (x, y)) <;> rfl
    rw [step] at h
    by_cases e : (a, b) = (x, y)
    ·rw [decide_eq_true e] at h
     cases h
     cases e
     exact ⟨Nat.le_refl _, by rw [Nat.sub_self]; rfl⟩
    ·rw [decide_eq_false e] at h
     obtain ⟨k1, k2⟩ := ih (i + 1) p v h
     refine ⟨by omega, ?_⟩
     rw [show p - i = (p - (i + 1)) + 1 by omega]
     show (_ :: setN (pairM S) (p - (i + 1)) _) = _ :: pairM S
     rw [k2]
  obtain ⟨p, hp⟩ := h2 h
  refine ⟨S, ?_, fun q hq => .inl hq⟩
  have k := (key S 0 p _ hp).2
  rw [Nat.sub_zero] at k
  unfold wput
  simp only [hs, hp, k]
 ·refine ⟨S ++ [(a, b)], ?_, fun q hq => ?_⟩
  ·unfold wput
   simp only [hs, h1 h]
   simp [pairM]
  ·rcases List.mem_append.1 hq with hq | hq
   ·exact .inl hq
   ·exact .inr (List.mem_singleton.1 hq)
theorem nth_app_left {α : Type} {G : List α} {i : Nat} {x : α} (l : List α) (h : nth G i = some x) : nth (G ++ l) i = some x := by
 rw [nth_eq] at h ⊢
 rw [List.getElem?_append_left (List.getElem?_eq_some_iff.1 h).1]; exact h
theorem nth_app_new {α : Type} (G : List α) (x : α) : nth (G ++ [x]) G.length = some x := by
 rw [nth_eq]; simp
theorem nth_lt {α : Type} {G : List α} {i : Nat} {x : α} (h : nth G i = some x) : i < G.length := by
 rw [nth_eq] at h; exact (List.getElem?_eq_some_iff.1 h).1
section
variable {G : World'} {f m : Nat} {N : NT} {next : Nat} {es : Bd}
theorem Wok.app (w : Wok G f m N next es) (l : World') : Wok (G ++ l) f m N next es where
 hf := nth_app_left l w.hf
 hm := nth_app_left l w.hm
 hN i nd h := nth_app_left l (w.hN i nd h)
 le := w.le
 tot := w.tot
 tg := w.tg
 src := w.src
 kid := w.kid
 nx := w.nx
theorem Wok.new (w : Wok G f m N next es) : N G.length = none ∧ G.length ≠ f ∧ G.length ≠ m := by
 refine ⟨?_, fun e => ?_, fun e => ?_⟩
 ·cases h : N G.length with
  | none => rfl
  | some nd => have := nth_lt (w.hN _ _ h); omega
 ·have := nth_lt w.hf; omega
 ·have := nth_lt w.hm; omega
theorem Wok.bind (w : Wok G f m N next es) {i k r : Nat} {s : FT} {nd : Nd} (hi : N i = some (.unk k)) (hk : look es k = none) (hr : Res N es r s) (hn : N r = some nd) (hs : ¬ s.occ k) (fm : f ≠ m) :
  Wok (setN G m (.map (bdM (es ++ [(k, r)])))) f m N next (es ++ [(k, r)]) where
 hf := by rw [nth_set_ne _ _ fm.symm]; exact w.hf
 hm := nth_set_same _ w.hm
 hN i nd h := by
  rw [nth_set_ne]
  ·exact w.hN i nd h
  ·intro e
   have := w.hN i nd h
   rw [← e, w.hm] at this
   cases nd <;> cases this
 le := w.le
 tot := w.tot.bind hk hr hs
 tg j x h := by
  rw [look_app k r es j hk] at h
  by_cases e : j = k
  ·rw [if_pos e] at h; cases h; exact ⟨nd, hn⟩
  ·rw [if_neg e] at h; exact w.tg j x h
 src j x h := by
  rw [look_app k r es j hk] at h
  by_cases e : j = k
  ·exact ⟨i, by rw [e]; exact hi⟩
  ·rw [if_neg e] at h; exact w.src j x h
 kid := w.kid
 nx := w.nx
theorem wput_to (w : Wok G f m N next es) {k r : Nat} (hk : look es k = none) : wput .int G m (I (k : Nat)) (.wp r 0) = some (setN G m (.map (bdM (es ++ [(k, r)])))) := by
 unfold wput
 simp only [w.hm, (mfind_to k es 0).1 hk]
 simp [bdM]
end
def freeN (es : Bd) : Nat → Nat
 | 0 => if look es 0 = none then 1 else 0
 | n + 1 => freeN es n + if look es (n + 1) = none then 1 else 0
theorem freeN_bind {k r : Nat} {es : Bd} (hk : look es k = none) : ∀ n, freeN (es ++ [(k, r)]) n ≤ freeN es n ∧ (k ≤ n → freeN (es ++ [(k, r)]) n < freeN es n)
 | 0 => by
  simp only [freeN, look_app k r es _ hk]
  by_cases h : 0 = k
  ·subst h; simp [hk]
  ·rw [if_neg h]; exact ⟨Nat.le_refl _, fun c => by omega⟩
 | n + 1 => by
  obtain ⟨h1, h2⟩ := freeN_bind (r := r) hk n
  simp only [freeN, look_app k r es _ hk]
  by_cases h : n + 1 = k
  ·subst h
   simp only [if_true, hk]
   refine ⟨by simp; omega, fun _ => by simp; omega⟩
  ·rw [if_neg h]
   exact ⟨by omega, fun c => by have := h2 (by omega); omega⟩
end Go.Proofs.Cw.Si
end

/-
  THE INFERER'S WORLD 4: unify, step by step.
-/
section
namespace Go.Proofs.Cw.Si
open Go.Proofs
section
variable {G : World'} {f m : Nat} {N : NT} {next : Nat} {es : Bd}
theorem u68_same (w : Wok G f m N next es) {a b r s : Nat} (ha : Find N es a r) (hb : Find N es b r) : ∃ c, EvW E c 68 [.wp f 0, .wp a 0, .wp b 0, .wm s] G (.bool true) G := by
 obtain ⟨ca, ea⟩ := s47 w ha
 obtain ⟨cb, eb⟩ := s47 w hb
 refine ⟨ca + cb + 1, EvW.mk fun n hn => ?_⟩
 rw [w68]
 refine step_b (ea n (by omega)) (step_t rfl (step_b (eb n (by omega)) (step_t rfl (step_t ?_ rfl))))
 show (Nat.beq r r && true) = true
 rw [Nat.beq_refl]; rfl
theorem u68_seen (w : Wok G f m N next es) {a b ra rb s : Nat} {S : List (Nat × Nat)} (ha : Find N es a ra) (hb : Find N es b rb) (hs : nth G s = some (.map (pairM S))) (hS : (ra, rb) ∈ S) (hne : ra ≠ rb) :
  ∃ c, EvW E c 68 [.wp f 0, .wp a 0, .wp b 0, .wm s] G (.bool true) G := by
 obtain ⟨ca, ea⟩ := s47 w ha
 obtain ⟨cb, eb⟩ := s47 w hb
 refine ⟨ca + cb + 1, EvW.mk fun n hn => ?_⟩
 rw [w68]
 refine step_b (ea n (by omega)) (step_t rfl (step_b (eb n (by omega)) (step_t rfl (step_f ?_ (step_b ((wlook_pair hs).2 hS) (step_t rfl (step_t rfl rfl)))))))
 show (Nat.beq ra rb && true) = false
 rw [beqN, decide_eq_false hne]; rfl
theorem u68_un (w : Wok G f m N next es) {a b ra rb s k : Nat} {nb : Nd} {S : List (Nat × Nat)} (ha : Find N es a ra) (hb : Find N es b rb) (hs : nth G s = some (.map (pairM S))) (hS : (ra, rb) ∉ S) (hne : ra ≠ rb)
  (na : N ra = some (.unk k)) (hnb : N rb = some nb) (hn0 : (nb.name == []) = false) {c : Nat} {v : Bool} {G1 G2 : World'}
  (h : EvW E c 81 [.wp f 0, I (k : Nat), .wp rb 0, .wm G.length] (G ++ [.map []]) (.bool v) G1) (h2 : v = false → wcell G1 f 1 = some (.wm m) ∧ wcell G1 ra 1 = some (I (k : Nat)) ∧ wput .int G1 m (I (k : Nat)) (.wp rb 0) = some G2) :
  ∃ c, EvW E c 68 [.wp f 0, .wp a 0, .wp b 0, .wm s] G (.bool (!v)) (bif v then G1 else G2) := by
 obtain ⟨ca, ea⟩ := s47 w ha
 obtain ⟨cb, eb⟩ := s47 w hb
 obtain ⟨a0, a1, _⟩ := w.cell na
 obtain ⟨b0, b1, _⟩ := w.cell hnb
 refine ⟨ca + cb + c + 1, EvW.mk fun n hn => ?_⟩
 rw [w68]
 refine step_b (ea n (by omega)) (step_t rfl (step_b (eb n (by omega)) (step_t rfl (step_f ?_ (step_b ((wlook_pair hs).1 hS) (step_t rfl (step_f rfl ?_)))))))
 ·show (Nat.beq ra rb && true) = false
  rw [beqN, decide_eq_false hne]; rfl
 refine step_b a0 (step_t rfl (step_f rfl ?_))
 refine step_b a0 (step_t rfl (step_t rfl ?_))
 refine step_b b0 (step_t rfl (step_f hn0 ?_))
 refine step_b a1 (step_t rfl ?_)
 refine step_b (h n (by omega)) (step_t rfl ?_)
 cases v with
 | true => exact step_t rfl rfl
 | false =>
  obtain ⟨k1, k2, k3⟩ := h2 rfl
  exact step_f rfl (step_b k1 (step_t rfl (step_b k2 (step_t rfl (step_b k3 rfl)))))
theorem u68_nu (w : Wok G f m N next es) {a b ra rb s k : Nat} {na : Nd} {S : List (Nat × Nat)} (ha : Find N es a ra) (hb : Find N es b rb) (hs : nth G s = some (.map (pairM S))) (hS : (ra, rb) ∉ S) (hne : ra ≠ rb)
  (hna : N ra = some na) (hn0 : (na.name == []) = false) (hnb : N rb = some (.unk k)) {c : Nat} {v : Bool} {G1 G2 : World'}
  (h : EvW E c 81 [.wp f 0, I (k : Nat), .wp ra 0, .wm G.length] (G ++ [.map []]) (.bool v) G1) (h2 : v = false → wcell G1 f 1 = some (.wm m) ∧ wcell G1 rb 1 = some (I (k : Nat)) ∧ wput .int G1 m (I (k : Nat)) (.wp ra 0) = some G2) :
  ∃ c, EvW E c 68 [.wp f 0, .wp a 0, .wp b 0, .wm s] G (.bool (!v)) (bif v then G1 else G2) := by
 obtain ⟨ca, ea⟩ := s47 w ha
 obtain ⟨cb, eb⟩ := s47 w hb
 obtain ⟨a0, a1, _⟩ := w.cell hna
 obtain ⟨b0, b1, _⟩ := w.cell hnb
 have hn1 : (!(na.name == [])) = true := by rw [hn0]; rfl
 refine ⟨ca + cb + c + 1, EvW.mk fun n hn => ?_⟩
 rw [w68]
 refine step_b (ea n (by omega)) (step_t rfl (step_b (eb n (by omega)) (step_t rfl (step_f ?_ (step_b ((wlook_pair hs).1 hS) (step_t rfl (step_f rfl ?_)))))))
 ·show (Nat.beq ra rb && true) = false
  rw [beqN, decide_eq_false hne]; rfl
 refine step_b a0 (step_t rfl (step_t hn1 ?_))
 refine step_b b0 (step_t rfl (step_t rfl ?_))
 refine step_b b0 (step_t rfl (step_t rfl ?_))
 refine step_b a0 (step_t rfl (step_f hn0 ?_))
 refine step_b b1 (step_t rfl ?_)
 refine step_b (h n (by omega)) (step_t rfl ?_)
 cases v with
 | true => exact step_t rfl rfl
 | false =>
  obtain ⟨k1, k2, k3⟩ := h2 rfl
  exact step_f rfl (step_b k1 (step_t rfl (step_b k2 (step_t rfl (step_b k3 rfl)))))
theorem u68_uu (w : Wok G f m N next es) {a b ra rb s k j : Nat} {S : List (Nat × Nat)} (ha : Find N es a ra) (hb : Find N es b rb) (hs : nth G s = some (.map (pairM S))) (hS : (ra, rb) ∉ S) (hne : ra ≠ rb)
  (hna : N ra = some (.unk k)) (hnb : N rb = some (.unk j)) (hkj : k ≠ j) {c : Nat} {v : Bool} {G1 G2 : World'}
  (h : EvW E c 81 [.wp f 0, I (k : Nat), .wp rb 0, .wm G.length] (G ++ [.map []]) (.bool v) G1) (h2 : v = false → wcell G1 f 1 = some (.wm m) ∧ wcell G1 ra 1 = some (I (k : Nat)) ∧ wput .int G1 m (I (k : Nat)) (.wp rb 0) = some G2) :
  ∃ c, EvW E c 68 [.wp f 0, .wp a 0, .wp b 0, .wm s] G (.bool (!v)) (bif v then G1 else G2) := by
 obtain ⟨ca, ea⟩ := s47 w ha
 obtain ⟨cb, eb⟩ := s47 w hb
 obtain ⟨a0, a1, _⟩ := w.cell hna
 obtain ⟨b0, b1, _⟩ := w.cell hnb
 refine ⟨ca + cb + c + 1, EvW.mk fun n hn => ?_⟩
 rw [w68]
 refine step_b (ea n (by omega)) (step_t rfl (step_b (eb n (by omega)) (step_t rfl (step_f ?_ (step_b ((wlook_pair hs).1 hS) (step_t rfl (step_f rfl ?_)))))))
 ·show (Nat.beq ra rb && true) = false
  rw [beqN, decide_eq_false hne]; rfl
 refine step_b a0 (step_t rfl (step_f rfl ?_))
 refine step_b a0 (step_t rfl (step_t rfl ?_))
 refine step_b b0 (step_t rfl (step_t rfl ?_))
 refine step_b a1 (step_t rfl (step_b b1 (step_t rfl (step_f ?_ ?_))))
 ·show (((k : Nat) : Int) == ((j : Nat) : Int)) = false
  simp; omega
 refine step_b a1 (step_t rfl ?_)
 refine step_b (h n (by omega)) (step_t rfl ?_)
 cases v with
 | true => exact step_t rfl rfl
 | false =>
  obtain ⟨k1, k2, k3⟩ := h2 rfl
  exact step_f rfl (step_b k1 (step_t rfl (step_b k2 (step_t rfl (step_b k3 rfl)))))
theorem u68_u1 (w : Wok G f m N next es) {a b ra rb s k : Nat} {S : List (Nat × Nat)} (ha : Find N es a ra) (hb : Find N es b rb) (hs : nth G s = some (.map (pairM S))) (hS : (ra, rb) ∉ S) (hne : ra ≠ rb)
  (hna : N ra = some (.unk k)) (hnb : N rb = some (.unk k)) : ∃ c, EvW E c 68 [.wp f 0, .wp a 0, .wp b 0, .wm s] G (.bool true) G := by
 obtain ⟨ca, ea⟩ := s47 w ha
 obtain ⟨cb, eb⟩ := s47 w hb
 obtain ⟨a0, a1, _⟩ := w.cell hna
 obtain ⟨b0, b1, _⟩ := w.cell hnb
 refine ⟨ca + cb + 1, EvW.mk fun n hn => ?_⟩
 rw [w68]
 refine step_b (ea n (by omega)) (step_t rfl (step_b (eb n (by omega)) (step_t rfl (step_f ?_ (step_b ((wlook_pair hs).1 hS) (step_t rfl (step_f rfl ?_)))))))
 ·show (Nat.beq ra rb && true) = false
  rw [beqN, decide_eq_false hne]; rfl
 refine step_b a0 (step_t rfl (step_f rfl ?_))
 refine step_b a0 (step_t rfl (step_t rfl ?_))
 refine step_b b0 (step_t rfl (step_t rfl ?_))
 refine step_b a1 (step_t rfl (step_b b1 (step_t rfl (step_t ?_ rfl))))
 show (((k : Nat) : Int) == ((k : Nat) : Int)) = true
 simp
theorem u68_ne (w : Wok G f m N next es) {a b ra rb s : Nat} {na nb : Nd} {S : List (Nat × Nat)} (ha : Find N es a ra) (hb : Find N es b rb) (hs : nth G s = some (.map (pairM S))) (hS : (ra, rb) ∉ S) (hne : ra ≠ rb)
  (hna : N ra = some na) (hnb : N rb = some nb) (ha0 : (na.name == []) = false) (hb0 : (nb.name == []) = false) (hd : (na.name == nb.name) = false) : ∃ c, EvW E c 68 [.wp f 0, .wp a 0, .wp b 0, .wm s] G (.bool false) G := by
 obtain ⟨ca, ea⟩ := s47 w ha
 obtain ⟨cb, eb⟩ := s47 w hb
 obtain ⟨a0, a1, _⟩ := w.cell hna
 obtain ⟨b0, b1, _⟩ := w.cell hnb
 have hn1 : (!(na.name == [])) = true := by rw [ha0]; rfl
 have hn2 : (!(na.name == nb.name)) = true := by rw [hd]; rfl
 refine ⟨ca + cb + 1, EvW.mk fun n hn => ?_⟩
 rw [w68]
 refine step_b (ea n (by omega)) (step_t rfl (step_b (eb n (by omega)) (step_t rfl (step_f ?_ (step_b ((wlook_pair hs).1 hS) (step_t rfl (step_f rfl ?_)))))))
 ·show (Nat.beq ra rb && true) = false
  rw [beqN, decide_eq_false hne]; rfl
 refine step_b a0 (step_t rfl (step_t hn1 ?_))
 refine step_b b0 (step_t rfl (step_f hb0 ?_))
 refine step_b a0 (step_t rfl (step_f ha0 ?_))
 exact step_b a0 (step_t rfl (step_b b0 (step_t rfl (step_t hn2 rfl))))
theorem u68_eq (w : Wok G f m N next es) {a b ra rb s : Nat} {na nb : Nd} {S : List (Nat × Nat)} (ha : Find N es a ra) (hb : Find N es b rb) (hs : nth G s = some (.map (pairM S))) (hS : (ra, rb) ∉ S) (hne : ra ≠ rb)
  (hna : N ra = some na) (hnb : N rb = some nb) (ha0 : (na.name == []) = false) (hb0 : (nb.name == []) = false) (hd : (na.name == nb.name) = true) {c : Nat} {v : Bool} {G1 : World'}
  (h : ∀ n, c ≤ n → L68_0 n n f ra rb s (na.kids.length : Nat) 0 G = some (.bool v, G1)) : ∃ c, EvW E c 68 [.wp f 0, .wp a 0, .wp b 0, .wm s] G (.bool v) G1 := by
 obtain ⟨ca, ea⟩ := s47 w ha
 obtain ⟨cb, eb⟩ := s47 w hb
 obtain ⟨a0, a1, a2⟩ := w.cell hna
 obtain ⟨b0, b1, _⟩ := w.cell hnb
 have hn1 : (!(na.name == [])) = true := by rw [ha0]; rfl
 have hn2 : (!(na.name == nb.name)) = false := by rw [hd]; rfl
 refine ⟨ca + cb + c + 1, EvW.mk fun n hn => ?_⟩
 rw [w68]
 refine step_b (ea n (by omega)) (step_t rfl (step_b (eb n (by omega)) (step_t rfl (step_f ?_ (step_b ((wlook_pair hs).1 hS) (step_t rfl (step_f rfl ?_)))))))
 ·show (Nat.beq ra rb && true) = false
  rw [beqN, decide_eq_false hne]; rfl
 refine step_b a0 (step_t rfl (step_t hn1 ?_))
 refine step_b b0 (step_t rfl (step_f hb0 ?_))
 refine step_b a0 (step_t rfl (step_f ha0 ?_))
 refine step_b a0 (step_t rfl (step_b b0 (step_t rfl (step_f hn2 ?_))))
 exact step_b a2 (step_t rfl (h n (by omega)))
end
end Go.Proofs.Cw.Si
end

/-
  THE INFERER'S WORLD 5: unify.
-/
section
namespace Go.Proofs.Cw.Si
open Go.Proofs
def Eqv (N : NT) (θ : Nat → FT) (a b : Nat) : Prop := ∃ v, Val N θ a v ∧ Val N θ b v
structure Uout (G G' : World') (f m s : Nat) (N : NT) (next : Nat) (es es' : Bd) (S' : List (Nat × Nat)) : Prop where
 w : Wok G' f m N next es'
 hs : nth G' s = some (.map (pairM S'))
 fr : es' = es ∨ freeN es' next < freeN es next
 low : ∀ θ, Sol N es' θ → Sol N es θ
 frame : ∀ i, i < G.length → i ≠ m → i ≠ s → nth G' i = nth G i
 len : G.length ≤ G'.length
theorem length_set {α : Type} (G : List α) (i : Nat) (x : α) : (setN G i x).length = G.length := by rw [setN_eq, List.length_set]
theorem nth_app_lt {α : Type} {G : List α} {i : Nat} (l : List α) (h : i < G.length) : nth (G ++ l) i = nth G i := by
 rw [nth_eq, nth_eq, List.getElem?_append_left h]
section
variable {f m : Nat} {N : NT} {next : Nat}
theorem bindU {G : World'} {es : Bd} {s u v k : Nat} {σ : FT} {nd : Nd} {S : List (Nat × Nat)} (w : Wok G f m N next es) (fm : f ≠ m) (hs : nth G s = some (.map (pairM S))) (s2 : s ≠ m)
  (hu : N u = some (.unk k)) (hk : look es k = none) (hv : Res N es v σ) (hn : N v = some nd) (hne : σ ≠ .var k) :
  ∃ c b G1 G2, EvW E c 81 [.wp f 0, I (k : Nat), .wp v 0, .wm G.length] (G ++ [.map []]) (.bool b) G1 ∧
   (b = false → wcell G1 f 1 = some (.wm m) ∧ wcell G1 u 1 = some (I (k : Nat)) ∧ wput .int G1 m (I (k : Nat)) (.wp v 0) = some G2) ∧
   (b = true → ∀ θ, Sol N es θ → ¬ Eqv N θ u v) ∧
   (b = false → Uout G G2 f m s N next es (es ++ [(k, v)]) S ∧ ∀ θ, Sol N (es ++ [(k, v)]) θ ↔ Sol N es θ ∧ Eqv N θ u v) := by
 obtain ⟨n1, n2, n3⟩ := w.new
 have w1 := w.app [.map []]
 have hnew : nth (G ++ [WObj.map []]) G.length = some (.map (seenM [])) := nth_app_new G _
 obtain ⟨c, b, S1, e, ht, hf⟩ := s81 k n2 n3 n1 σ.size w1 hv (Nat.le_refl _) hnew (fun x hx => by simp at hx)
 have w2 : Wok (setN (G ++ [.map []]) G.length (.map (seenM S1))) f m N next es := w1.set _ n2 n3 n1
 have eqv : ∀ θ, Eqv N θ u v ↔ Val N θ v (θ k) := by
  intro θ
  constructor
  ·intro ⟨x, h1, h2⟩
   rw [(Val.unk (θ := θ) hu).det h1]; exact h2
  ·intro h; exact ⟨_, .unk hu, h⟩
 refine ⟨c, b, _, setN (setN (G ++ [.map []]) G.length (.map (seenM S1))) m (.map (bdM (es ++ [(k, v)]))), e, fun _ => ⟨w2.fcell.2, (w2.cell hu).2.1, wput_to w2 hk⟩, fun hb θ sol he => ?_, fun hb => ?_⟩
 ·exact occurs_no sol hv (ht hb) hne ((eqv θ).1 he)
 ·have hlt := nth_lt hs
  refine ⟨⟨w2.bind hu hk hv hn (hf hb).1 fm, ?_, .inr ((freeN_bind hk next).2 (w.le u k hu)), fun θ h => ((Sol.bind hk).1 h).1, fun i hi h1 h2 => ?_, ?_⟩, fun θ => ?_⟩
  ·rw [nth_set_ne _ _ s2.symm, nth_set_ne _ _ (by omega), nth_app_lt _ hlt]; exact hs
  ·rw [nth_set_ne _ _ fun e => h1 e.symm, nth_set_ne _ _ (by omega), nth_app_lt _ hi]
  ·rw [length_set, length_set]; simp
  ·rw [Sol.bind hk, eqv θ]
theorem r68 {G : World'} {ra rb s c x y : Nat} {la lb : List Tree} {v : Bool} {G1 : World'} (n q i : Nat) (ha : wcell G ra 2 = some (.slc la)) (hb : wcell G rb 2 = some (.slc lb)) (hx : nth la i = some (.wp x 0)) (hy : nth lb i = some (.wp y 0))
  (hi : i < la.length) (hl : la.length ≤ 1000) (h : EvW E c 68 [.wp f 0, .wp x 0, .wp y 0, .wm s] G (.bool v) G1) (hn : c ≤ n) :
  L68_0 n (Nat.succ q) f ra rb s (la.length : Nat) (i : Nat) G = bif v then L68_0 n q f ra rb s (la.length : Nat) ((i + 1 : Nat) : Int) G1 else some (.bool false, G1) := by
 rw [v68_0]
 refine step_t (by simp; omega) (step_b ha (step_t rfl (step_t (by simp) (step_b (y := .wp x 0) ?_ ?_))))
 ·rw [Int.toNat_natCast]; exact hx
 refine step_t rfl (step_b hb (step_t rfl (step_t (by simp) (step_b (y := .wp y 0) ?_ ?_))))
 ·rw [Int.toNat_natCast]; exact hy
 refine step_t rfl (step_b (h n hn) (step_t rfl ?_))
 rw [w64 (by omega)]
 cases v <;> rfl
theorem e68 {G : World'} (ra rb : Nat) {s : Nat} (l : Nat) {S : List (Nat × Nat)} (hs : nth G s = some (.map (pairM S))) : ∃ S', (∀ n q, L68_0 n (Nat.succ q) f ra rb s (l : Nat) (l : Nat) G = some (.bool true, setN G s (.map (pairM S')))) ∧ ∀ p, p ∈ S' → p ∈ S ∨ p = (ra, rb) := by
 obtain ⟨S', h1, h2⟩ := wput_pair (a := ra) (b := rb) hs
 refine ⟨S', fun n q => ?_, h2⟩
 rw [v68_0]
 exact step_f (by simp) (step_b h1 rfl)
theorem Val.nat_inv {θ : Nat → FT} {i : Nat} {x : FT} (h : N i = some .nat) (k : Val N θ i x) : x = .nat := ((Val.nat h).det k).symm
theorem Val.bin_inv {θ : Nat → FT} {i : Nat} {p : Bool} {a b : Nat} {x : FT} (h : N i = some (.bin p a b)) (k : Val N θ i x) : ∃ y z, x = .bin p y z ∧ Val N θ a y ∧ Val N θ b z := by
 cases k with
 | unk h' => rw [h] at h'; cases h'
 | nat h' => rw [h] at h'; cases h'
 | bin h' k1 k2 => rw [h] at h'; cases h'; exact ⟨_, _, rfl, k1, k2⟩
theorem Uout.put {G G' : World'} {s : Nat} {es es' : Bd} {S' : List (Nat × Nat)} (o : Uout G G' f m s N next es es' S') (s1 : s ≠ f) (s2 : s ≠ m) (s3 : N s = none) (S2 : List (Nat × Nat)) : Uout G (setN G' s (.map (pairM S2))) f m s N next es es' S2 :=
 ⟨o.w.set _ s1 s2 s3, nth_set_same _ o.hs, o.fr, o.low, fun i hi h1 h2 => by rw [nth_set_ne _ _ fun e => h2 e.symm]; exact o.frame i hi h1 h2, by rw [length_set]; exact o.len⟩
theorem Uout.trans {G G1 G2 : World'} {s : Nat} {es es1 es2 : Bd} {S1 S2 : List (Nat × Nat)} (o : Uout G G1 f m s N next es es1 S1) (p : Uout G1 G2 f m s N next es1 es2 S2) : Uout G G2 f m s N next es es2 S2 :=
 ⟨p.w, p.hs, by
  rcases p.fr with e | h
  ·rw [e]; exact o.fr
  ·rcases o.fr with e | h'
   ·rw [e] at h; exact .inr h
   ·exact .inr (by omega), fun θ h => o.low θ (p.low θ h), fun i hi h1 h2 => by rw [p.frame i (by have := o.len; omega) h1 h2, o.frame i hi h1 h2], by have := o.len; have := p.len; omega⟩
theorem z0' : ((0 : Nat) : Int) = 0 := rfl
theorem l68_ff {G : World'} {ra rb s ca x y x2 y2 : Nat} {G1 : World'} (ha : wcell G ra 2 = some (.slc [.wp x 0, .wp x2 0])) (hb : wcell G rb 2 = some (.slc [.wp y 0, .wp y2 0])) (h : EvW E ca 68 [.wp f 0, .wp x 0, .wp y 0, .wm s] G (.bool false) G1) :
  ∀ n, ca + 1 ≤ n → L68_0 n n f ra rb s (([Tree.wp x 0, Tree.wp x2 0].length : Nat) : Int) 0 G = some (.bool false, G1) := by
 intro n hn
 obtain ⟨q, hq⟩ : ∃ q, n = Nat.succ q := ⟨n - 1, by omega⟩
 have e1 := r68 n q 0 ha hb rfl rfl (by simp) (by simp) h (by omega)
 rw [cond_false, z0', ← hq] at e1
 exact e1
theorem l68_t {G : World'} {ra rb s ca cb x y x2 y2 : Nat} {v : Bool} {G1 G2 : World'} (ha : wcell G ra 2 = some (.slc [.wp x 0, .wp x2 0])) (hb : wcell G rb 2 = some (.slc [.wp y 0, .wp y2 0])) (h : EvW E ca 68 [.wp f 0, .wp x 0, .wp y 0, .wm s] G (.bool true) G1)
  (ha1 : wcell G1 ra 2 = some (.slc [.wp x 0, .wp x2 0])) (hb1 : wcell G1 rb 2 = some (.slc [.wp y 0, .wp y2 0])) (h2 : EvW E cb 68 [.wp f 0, .wp x2 0, .wp y2 0, .wm s] G1 (.bool v) G2) {S : List (Nat × Nat)} {R : Tree × World'}
  (hv : v = false → R = (.bool false, G2)) (hv2 : v = true → ∀ n q, L68_0 n (Nat.succ q) f ra rb s ((2 : Nat) : Int) ((2 : Nat) : Int) G2 = some R) :
  ∀ n, ca + cb + 3 ≤ n → L68_0 n n f ra rb s (([Tree.wp x 0, Tree.wp x2 0].length : Nat) : Int) 0 G = some R := by
 intro n hn
 obtain ⟨q, hq⟩ : ∃ q, n = Nat.succ (Nat.succ (Nat.succ q)) := ⟨n - 3, by omega⟩
 have e1 := r68 n (Nat.succ (Nat.succ q)) 0 ha hb rfl rfl (by simp) (by simp) h (by omega)
 have e2 := r68 n (Nat.succ q) 1 ha1 hb1 rfl rfl (by simp) (by simp) h2 (by omega)
 rw [cond_true, z0', ← hq] at e1
 rw [e1, e2]
 cases v with
 | false => rw [cond_false, hv rfl]
 | true => rw [cond_true]; exact hv2 rfl n q
theorem s68 (fm : f ≠ m) {s : Nat} (s1 : s ≠ f) (s2 : s ≠ m) (s3 : N s = none) (u sz : Nat) {G : World'} {es : Bd} {a b : Nat} {τ : FT} {S : List (Nat × Nat)} (w : Wok G f m N next es) (hr : Res N es a τ) (hb : ∃ nd, N b = some nd)
  (hz : τ.size ≤ sz) (hfree : freeN es next ≤ u) (hs : nth G s = some (.map (pairM S))) (hS : ∀ p, p ∈ S → ∀ θ, Sol N es θ → Eqv N θ p.1 p.2) :
  ∃ c v G', EvW E c 68 [.wp f 0, .wp a 0, .wp b 0, .wm s] G (.bool v) G' ∧ ((v = false ∧ ∀ θ, Sol N es θ → ¬ Eqv N θ a b) ∨
   (v = true ∧ ∃ es' S', Uout G G' f m s N next es es' S' ∧ (∀ θ, Sol N es' θ ↔ Sol N es θ ∧ Eqv N θ a b) ∧ ∀ p, p ∈ S' → ∀ θ, Sol N es' θ → Eqv N θ p.1 p.2)) := by
 obtain ⟨nb, hnb⟩ := hb
 obtain ⟨σ, hrb⟩ := w.tot b nb hnb
 obtain ⟨ra, fa, hra, ca⟩ := hr.find
 obtain ⟨rb, fb, hrb, cb⟩ := hrb.find
 have eqv : ∀ θ, Sol N es θ → (Eqv N θ a b ↔ Eqv N θ ra rb) := by
  intro θ sol
  constructor
  ·intro ⟨v, h1, h2⟩; exact ⟨v, (Val.find sol fa).1 h1, (Val.find sol fb).1 h2⟩
  ·intro ⟨v, h1, h2⟩; exact ⟨v, (Val.find sol fa).2 h1, (Val.find sol fb).2 h2⟩
 have same : (∀ θ, Sol N es θ → Eqv N θ ra rb) → ∃ es' S', Uout G G f m s N next es es' S' ∧ (∀ θ, Sol N es' θ ↔ Sol N es θ ∧ Eqv N θ a b) ∧ ∀ p, p ∈ S' → ∀ θ, Sol N es' θ → Eqv N θ p.1 p.2 := fun h =>
  ⟨es, S, ⟨w, hs, .inl rfl, fun _ h => h, fun _ _ _ _ => rfl, Nat.le_refl _⟩, fun θ => ⟨fun sol => ⟨sol, (eqv θ sol).2 (h θ sol)⟩, fun h => h.1⟩, hS⟩
 by_cases hab : ra = rb
 ·subst hab
  obtain ⟨c, e⟩ := u68_same (s := s) w fa fb
  exact ⟨c, true, G, e, .inr ⟨rfl, same fun θ sol => ⟨_, hra.val sol, hra.val sol⟩⟩⟩
 by_cases hmem : (ra, rb) ∈ S
 ·obtain ⟨c, e⟩ := u68_seen w fa fb hs hmem hab
  exact ⟨c, true, G, e, .inr ⟨rfl, same fun θ sol => hS _ hmem θ sol⟩⟩
 have swap : ∀ θ, Eqv N θ rb ra ↔ Eqv N θ ra rb := fun θ => ⟨fun ⟨v, x, y⟩ => ⟨v, y, x⟩, fun ⟨v, x, y⟩ => ⟨v, y, x⟩⟩
 -- an unknown on one side
 have un : ∀ {c : Nat} {v : Bool} {G1 G2 : World'} {es' : Bd}, EvW E c 68 [.wp f 0, .wp a 0, .wp b 0, .wm s] G (.bool (!v)) (bif v then G1 else G2) → (v = true → ∀ θ, Sol N es θ → ¬ Eqv N θ ra rb) →
   (v = false → Uout G G2 f m s N next es es' S ∧ ∀ θ, Sol N es' θ ↔ Sol N es θ ∧ Eqv N θ ra rb) → ∃ c v G', EvW E c 68 [.wp f 0, .wp a 0, .wp b 0, .wm s] G (.bool v) G' ∧ ((v = false ∧ ∀ θ, Sol N es θ → ¬ Eqv N θ a b) ∨
   (v = true ∧ ∃ es' S', Uout G G' f m s N next es es' S' ∧ (∀ θ, Sol N es' θ ↔ Sol N es θ ∧ Eqv N θ a b) ∧ ∀ p, p ∈ S' → ∀ θ, Sol N es' θ → Eqv N θ p.1 p.2)) := by
  intro c v G1 G2 es' e h1 h2
  cases v with
  | true => exact ⟨c, false, G1, e, .inl ⟨rfl, fun θ sol he => h1 rfl θ sol ((eqv θ sol).1 he)⟩⟩
  | false =>
   obtain ⟨o, hi⟩ := h2 rfl
   refine ⟨c, true, G2, e, .inr ⟨rfl, es', S, o, fun θ => ?_, fun p hp θ sol => hS p hp θ (o.low θ sol)⟩⟩
   rw [hi θ]
   exact ⟨fun ⟨x, y⟩ => ⟨x, (eqv θ x).2 y⟩, fun ⟨x, y⟩ => ⟨x, (eqv θ x).1 y⟩⟩
 rcases ca with ⟨k, na, la, rfl⟩ | ca
 ·rcases cb with ⟨j, nb', lb, rfl⟩ | cb
  ·by_cases hkj : k = j
   ·subst hkj
    obtain ⟨c, e⟩ := u68_u1 w fa fb hs hmem hab na nb'
    exact ⟨c, true, G, e, .inr ⟨rfl, same fun θ sol => ⟨_, .unk na, .unk nb'⟩⟩⟩
   ·obtain ⟨c, v, G1, G2, h, k1, k2, k3⟩ := bindU w fm hs s2 na la hrb nb' (fun e => hkj (by cases e; rfl))
    obtain ⟨c', e⟩ := u68_uu w fa fb hs hmem hab na nb' hkj h k1
    exact un e k2 k3
  ·obtain ⟨nd, hnd, h0, hσ⟩ : ∃ nd, N rb = some nd ∧ (nd.name == []) = false ∧ σ ≠ .var k := by
    rcases cb with ⟨h, rfl⟩ | ⟨p, x, y, _, _, h, _, _, rfl⟩
    ·exact ⟨_, h, rfl, fun c => by cases c⟩
    ·exact ⟨_, h, by cases p <;> rfl, fun c => by cases c⟩
   obtain ⟨c, v, G1, G2, h, k1, k2, k3⟩ := bindU w fm hs s2 na la hrb hnd hσ
   obtain ⟨c', e⟩ := u68_un w fa fb hs hmem hab na hnd h0 h k1
   exact un e k2 k3
 ·obtain ⟨nda, hnda, h0a, hτ⟩ : ∃ nd, N ra = some nd ∧ (nd.name == []) = false ∧ ∀ k, τ ≠ .var k := by
   rcases ca with ⟨h, rfl⟩ | ⟨p, x, y, _, _, h, _, _, rfl⟩
   ·exact ⟨_, h, rfl, fun _ c => by cases c⟩
   ·exact ⟨_, h, by cases p <;> rfl, fun _ c => by cases c⟩
  rcases cb with ⟨j, nb', lb, rfl⟩ | cb
  ·obtain ⟨c, v, G1, G2, h, k1, k2, k3⟩ := bindU w fm hs s2 nb' lb hra hnda (hτ j)
   obtain ⟨c', e⟩ := u68_nu w fa fb hs hmem hab hnda h0a nb' h k1
   exact un e (fun hv θ sol he => k2 hv θ sol ((swap θ).2 he)) fun hv => ⟨(k3 hv).1, fun θ => by rw [(k3 hv).2 θ, swap θ]⟩
  ·rcases ca with ⟨na, rfl⟩ | ⟨p, a1, a2, y1, y2, na, r1, r2, rfl⟩
   ·rcases cb with ⟨nb', rfl⟩ | ⟨q, b1, b2, z1, z2, nb', _, _, rfl⟩
    ·obtain ⟨S', e, hS'⟩ := e68 (f := f) ra rb 0 hs
     obtain ⟨c, e⟩ := u68_eq w fa fb hs hmem hab na nb' rfl rfl rfl (c := 1) (v := true) (G1 := setN G s (.map (pairM S'))) (fun n hn => by
      obtain ⟨q, hq⟩ : ∃ q, n = Nat.succ q := ⟨n - 1, by omega⟩
      have e := e n q
      rw [z0', ← hq] at e
      exact e)
     obtain ⟨es', S0, o, i1, i2⟩ := same fun θ sol => ⟨.nat, .nat na, .nat nb'⟩
     refine ⟨c, true, _, e, .inr ⟨rfl, es, S', ⟨w.set _ s1 s2 s3, nth_set_same _ hs, .inl rfl, fun _ h => h, fun i _ _ h2 => by rw [nth_set_ne _ _ fun e => h2 e.symm], by rw [length_set]; exact Nat.le_refl _⟩, fun θ => ⟨fun sol => ⟨sol, (eqv θ sol).2 ⟨.nat, .nat na, .nat nb'⟩⟩, fun h => h.1⟩, fun p hp θ sol => ?_⟩⟩
     rcases hS' p hp with hp | rfl
     ·exact hS p hp θ sol
     ·exact ⟨.nat, .nat na, .nat nb'⟩
    ·obtain ⟨c, e⟩ := u68_ne w fa fb hs hmem hab na nb' rfl (by cases q <;> rfl) (by cases q <;> rfl)
     refine ⟨c, false, G, e, .inl ⟨rfl, fun θ sol he => ?_⟩⟩
     obtain ⟨v, h1, h2⟩ := (eqv θ sol).1 he
     rw [Val.nat_inv na h1] at h2
     obtain ⟨_, _, e, _⟩ := Val.bin_inv nb' h2
     cases e
   ·rcases cb with ⟨nb', rfl⟩ | ⟨q, b1, b2, z1, z2, nb', _, _, rfl⟩
    ·obtain ⟨c, e⟩ := u68_ne w fa fb hs hmem hab na nb' (by cases p <;> rfl) rfl (by cases p <;> rfl)
     refine ⟨c, false, G, e, .inl ⟨rfl, fun θ sol he => ?_⟩⟩
     obtain ⟨v, h1, h2⟩ := (eqv θ sol).1 he
     rw [Val.nat_inv nb' h2] at h1
     obtain ⟨_, _, e, _⟩ := Val.bin_inv na h1
     cases e
    ·by_cases hpq : p = q
     ·subst hpq
      obtain ⟨⟨_, ka1⟩, _, ka2⟩ := w.kid _ _ _ _ na
      obtain ⟨⟨_, kb1⟩, _, kb2⟩ := w.kid _ _ _ _ nb'
      have parts : ∀ θ, Eqv N θ ra rb ↔ Eqv N θ a1 b1 ∧ Eqv N θ a2 b2 := by
       intro θ
       constructor
       ·intro ⟨v, h1, h2⟩
        obtain ⟨x1, x2, rfl, u1, u2⟩ := Val.bin_inv na h1
        obtain ⟨w1, w2, e, v1, v2⟩ := Val.bin_inv nb' h2
        cases e
        exact ⟨⟨x1, u1, v1⟩, x2, u2, v2⟩
       ·intro ⟨⟨v, h1, h2⟩, v', h3, h4⟩
        exact ⟨_, .bin na h1 h3, .bin nb' h2 h4⟩
      simp only [FT.size] at hz
      have p1 := y1.size_pos
      have p2 := y2.size_pos
      have hdec : sz - 1 < sz := by omega
      obtain ⟨_, _, da⟩ := w.cell na
      obtain ⟨_, _, db⟩ := w.cell nb'
      have hname : ((Nd.bin p a1 a2).name == (Nd.bin p b1 b2).name) = true := by cases p <;> rfl
      have hn0 : ((Nd.bin p a1 a2).name == []) = false := by cases p <;> rfl
      have hn1 : ((Nd.bin p b1 b2).name == []) = false := by cases p <;> rfl
      obtain ⟨c1, v1, G1, e1, ⟨rfl, no⟩ | ⟨rfl, es1, S1, o1, i1, j1⟩⟩ := s68 fm s1 s2 s3 u (sz - 1) w r1 ⟨_, kb1⟩ (by omega) hfree hs hS
      ·obtain ⟨c, e⟩ := u68_eq w fa fb hs hmem hab na nb' hn0 hn1 hname (c := c1 + 1) (v := false) (G1 := G1) (l68_ff da db e1)
       exact ⟨c, false, G1, e, .inl ⟨rfl, fun θ sol he => no θ sol ((parts θ).1 ((eqv θ sol).1 he)).1⟩⟩
      ·obtain ⟨_, _, da1⟩ := o1.w.cell na
       obtain ⟨_, _, db1⟩ := o1.w.cell nb'
       obtain ⟨τ2, hτ2⟩ := o1.w.tot a2 _ ka2
       have second : ∃ c v G', EvW E c 68 [.wp f 0, .wp a2 0, .wp b2 0, .wm s] G1 (.bool v) G' ∧ ((v = false ∧ ∀ θ, Sol N es1 θ → ¬ Eqv N θ a2 b2) ∨
         (v = true ∧ ∃ es' S', Uout G1 G' f m s N next es1 es' S' ∧ (∀ θ, Sol N es' θ ↔ Sol N es1 θ ∧ Eqv N θ a2 b2) ∧ ∀ p, p ∈ S' → ∀ θ, Sol N es' θ → Eqv N θ p.1 p.2)) := by
        rcases o1.fr with e | hlt
        ·have hsz : τ2.size ≤ sz - 1 := by
          rw [e] at hτ2
          rw [← r2.det hτ2]; omega
         exact s68 fm s1 s2 s3 u (sz - 1) o1.w hτ2 ⟨_, kb2⟩ hsz (by rw [e]; exact hfree) o1.hs j1
        ·exact s68 fm s1 s2 s3 (u - 1) τ2.size o1.w hτ2 ⟨_, kb2⟩ (Nat.le_refl _) (by omega) o1.hs j1
       obtain ⟨c2, v2, G2, e2, ⟨rfl, no⟩ | ⟨rfl, es2, S2, o2, i2, j2⟩⟩ := second
       ·obtain ⟨c, e⟩ := u68_eq w fa fb hs hmem hab na nb' hn0 hn1 hname (c := c1 + c2 + 3) (v := false) (G1 := G2) (l68_t (S := []) da db e1 da1 db1 e2 (fun _ => rfl) fun h => by cases h)
        refine ⟨c, false, G2, e, .inl ⟨rfl, fun θ sol he => ?_⟩⟩
        obtain ⟨h1, h2⟩ := (parts θ).1 ((eqv θ sol).1 he)
        exact no θ ((i1 θ).2 ⟨sol, h1⟩) h2
       ·obtain ⟨S3, e3, hS3⟩ := e68 (f := f) ra rb 2 o2.hs
        obtain ⟨c, e⟩ := u68_eq w fa fb hs hmem hab na nb' hn0 hn1 hname (c := c1 + c2 + 3) (v := true) (G1 := setN G2 s (.map (pairM S3))) (l68_t (S := []) da db e1 da1 db1 e2 (fun h => by cases h) fun _ => e3)
        have iff : ∀ θ, Sol N es2 θ ↔ Sol N es θ ∧ Eqv N θ ra rb := by
         intro θ
         rw [i2 θ, i1 θ, parts θ, and_assoc]
        refine ⟨c, true, _, e, .inr ⟨rfl, es2, S3, (o1.trans o2).put s1 s2 s3 S3, fun θ => ?_, fun p hp θ sol => ?_⟩⟩
        ·rw [iff θ]
         exact ⟨fun ⟨x, y⟩ => ⟨x, (eqv θ x).2 y⟩, fun ⟨x, y⟩ => ⟨x, (eqv θ x).1 y⟩⟩
        ·rcases hS3 p hp with hp | rfl
         ·exact j2 p hp θ sol
         ·exact ((iff θ).1 sol).2
     ·obtain ⟨c, e⟩ := u68_ne w fa fb hs hmem hab na nb' (by cases p <;> rfl) (by cases q <;> rfl) (by cases p <;> cases q <;> first | rfl | exact absurd rfl hpq)
      refine ⟨c, false, G, e, .inl ⟨rfl, fun θ sol he => ?_⟩⟩
      obtain ⟨v, h1, h2⟩ := (eqv θ sol).1 he
      obtain ⟨_, _, rfl, _⟩ := Val.bin_inv na h1
      obtain ⟨_, _, e, _⟩ := Val.bin_inv nb' h2
      cases e
      exact hpq rfl
termination_by (u, sz)
decreasing_by
 all_goals simp_wf
 ·exact Prod.Lex.right _ hdec
 ·exact Prod.Lex.right _ hdec
 ·exact Prod.Lex.left _ _ (by omega)
end
end Go.Proofs.Cw.Si
end

/-
  THE INFERER'S WORLD 6: new types: fresh, pair; same.
-/
section
namespace Go.Proofs.Cw.Si
open Go.Proofs
def NT.Le (N N' : NT) : Prop := ∀ i nd, N i = some nd → N' i = some nd
def NT.add (N : NT) (i : Nat) (nd : Nd) : NT := fun j => if j = i then some nd else N j
theorem NT.add_self (N : NT) (i : Nat) (nd : Nd) : N.add i nd i = some nd := by simp [NT.add]
theorem NT.le_add {N : NT} {i : Nat} {nd : Nd} (h : N i = none) : N.Le (N.add i nd) := fun j x hj => by
 unfold NT.add
 rw [if_neg fun e => by rw [e, h] at hj; cases hj]
 exact hj
theorem NT.Le.trans {N N' N'' : NT} (h : N.Le N') (k : N'.Le N'') : N.Le N'' := fun i nd hi => k i nd (h i nd hi)
theorem Val.le {N N' : NT} (h : N.Le N') {θ : Nat → FT} {i : Nat} {x : FT} (k : Val N θ i x) : Val N' θ i x := by
 induction k with
 | unk hi => exact .unk (h _ _ hi)
 | nat hi => exact .nat (h _ _ hi)
 | bin hi _ _ ia ib => exact .bin (h _ _ hi) ia ib
theorem Res.le {N N' : NT} (h : N.Le N') {es : Bd} {i : Nat} {x : FT} (k : Res N es i x) : Res N' es i x := by
 induction k with
 | free hi l => exact .free (h _ _ hi) l
 | link hi l _ ih => exact .link (h _ _ hi) l ih
 | nat hi => exact .nat (h _ _ hi)
 | bin hi _ _ ia ib => exact .bin (h _ _ hi) ia ib
theorem Val.agree {N : NT} {θ η : Nat → FT} {next : Nat} (hN : ∀ i k, N i = some (.unk k) → k ≤ next) (ha : ∀ k, k ≤ next → η k = θ k) {i : Nat} {x : FT} (k : Val N θ i x) : Val N η i x := by
 induction k with
 | unk hi => rw [← ha _ (hN _ _ hi)]; exact .unk hi
 | nat hi => exact .nat hi
 | bin hi _ _ ia ib => exact .bin hi ia ib
theorem Val.down {N N' : NT} (h : N.Le N') (hk : ∀ i p a b, N i = some (.bin p a b) → (∃ x, N a = some x) ∧ ∃ y, N b = some y) {θ : Nat → FT} {i : Nat} {x : FT} (k : Val N' θ i x) : ∀ {nd : Nd}, N i = some nd → Val N θ i x := by
 induction k with
 | unk hi => intro nd hn; rw [h _ _ hn] at hi; cases hi; exact .unk hn
 | nat hi => intro nd hn; rw [h _ _ hn] at hi; cases hi; exact .nat hn
 | bin hi _ _ ia ib =>
  intro nd hn
  rw [h _ _ hn] at hi; cases hi
  obtain ⟨⟨_, h1⟩, _, h2⟩ := hk _ _ _ _ hn
  exact .bin hn (ia h1) (ib h2)
section
variable {G : World'} {f m : Nat} {N : NT} {next : Nat} {es : Bd}
theorem Wok.key (w : Wok G f m N next es) {k j : Nat} (h : look es k = some j) : k ≤ next := by
 obtain ⟨i, hi⟩ := w.src k j h
 exact w.le i k hi
theorem Wok.add (w : Wok G f m N next es) {nd : Nd} (hu : ∀ k, nd = .unk k → k ≤ next ∧ look es k = none) (hk : ∀ p a b, nd = .bin p a b → (∃ x, N a = some x) ∧ ∃ y, N b = some y) :
  Wok (G ++ [nd.obj]) f m (N.add G.length nd) next es := by
 have le := NT.le_add (nd := nd) w.new.1
 have ex : ∀ {i : Nat}, (∃ x, N i = some x) → ∃ x, N.add G.length nd i = some x := fun ⟨x, h⟩ => ⟨x, le _ _ h⟩
 refine ⟨nth_app_left _ w.hf, nth_app_left _ w.hm, fun i x h => ?_, fun i k h => ?_, fun i x h => ?_, fun k j h => ex (w.tg k j h), fun k j h => ?_, fun i p a b h => ?_, w.nx⟩
 ·unfold NT.add at h
  by_cases e : i = G.length
  ·rw [if_pos e] at h; cases h; rw [e]; exact nth_app_new G _
  ·rw [if_neg e] at h; exact nth_app_left _ (w.hN i x h)
 ·unfold NT.add at h
  by_cases e : i = G.length
  ·rw [if_pos e] at h; cases h; exact (hu k rfl).1
  ·rw [if_neg e] at h; exact w.le i k h
 ·by_cases e : i = G.length
  ·subst e
   cases nd with
   | unk k => exact ⟨_, .free (N.add_self _ _) (hu k rfl).2⟩
   | nat => exact ⟨_, .nat (N.add_self _ _)⟩
   | bin p a b =>
    obtain ⟨⟨x1, h1⟩, x2, h2⟩ := hk p a b rfl
    obtain ⟨y1, r1⟩ := w.tot a x1 h1
    obtain ⟨y2, r2⟩ := w.tot b x2 h2
    exact ⟨_, .bin (N.add_self _ _) (r1.le le) (r2.le le)⟩
  ·unfold NT.add at h
   rw [if_neg e] at h
   obtain ⟨y, hy⟩ := w.tot i x h
   exact ⟨y, hy.le le⟩
 ·obtain ⟨i, hi⟩ := w.src k j h
  exact ⟨i, le _ _ hi⟩
 ·by_cases e : i = G.length
  ·subst e
   rw [NT.add_self] at h
   cases h
   obtain ⟨h1, h2⟩ := hk p a b rfl
   exact ⟨ex h1, ex h2⟩
  ·unfold NT.add at h
   rw [if_neg e] at h
   obtain ⟨h1, h2⟩ := w.kid i p a b h
   exact ⟨ex h1, ex h2⟩
theorem Wok.count (w : Wok G f m N next es) (fm : f ≠ m) (hn : next + 1 ≤ 1000000) : Wok (setN G f (.cells [I ((next + 1 : Nat) : Int), .wm m])) f m N (next + 1) es where
 hf := nth_set_same _ w.hf
 hm := by rw [nth_set_ne _ _ fm]; exact w.hm
 hN i nd h := by
  by_cases e : f = i
  ·subst e
   have := w.hN _ nd h
   rw [w.hf] at this
   cases nd <;> (simp only [Nd.obj] at this; cases this)
  ·rw [nth_set_ne _ _ e]; exact w.hN i nd h
 le i k h := by have := w.le i k h; omega
 tot := w.tot
 tg := w.tg
 src := w.src
 kid := w.kid
 nx := hn
def freshW (G : World') (f m next : Nat) : World' := setN G f (.cells [I ((next + 1 : Nat) : Int), .wm m]) ++ [(Nd.unk (next + 1)).obj]
theorem s44 (w : Wok G f m N next es) (hn : next + 1 ≤ 1000000) : EvW E 1 44 [.wp f 0] G (.wp G.length 0) (freshW G f m next) := EvW.mk fun n _ => by
 have h1 : wset G f 0 [I ((next + 1 : Nat) : Int)] = some (setN G f (.cells [I ((next + 1 : Nat) : Int), .wm m])) := by
  unfold wset; simp only [w.hf]; rfl
 have h2 : wcell (setN G f (.cells [I ((next + 1 : Nat) : Int), .wm m])) f 0 = some (I ((next + 1 : Nat) : Int)) := wcell_of (nth_set_same _ w.hf) 0
 rw [w44]
 refine step_b w.fcell.1 (step_t rfl ?_)
 have e : IntKind.wrap .i64 (Tree.toInt (I (next : Nat)) + 1) = ((next + 1 : Nat) : Int) := by
  show IntKind.wrap .i64 (((next : Nat) : Int) + 1) = _
  rw [w64 (by omega)]; omega
 rw [e]
 refine step_b h1 (step_b h2 (step_t rfl ?_))
 rw [length_set]
 rfl
theorem Wok.fresh (w : Wok G f m N next es) (fm : f ≠ m) (hn : next + 1 ≤ 1000000) : Wok (freshW G f m next) f m (N.add G.length (.unk (next + 1))) (next + 1) es := by
 have h := (w.count fm hn).add (nd := .unk (next + 1)) (fun k e => by
  cases e
  refine ⟨Nat.le_refl _, ?_⟩
  cases h : look es (next + 1) with
  | none => rfl
  | some j => have := w.key h; omega) (fun p a b e => by cases e)
 rw [length_set] at h
 exact h
theorem s45 (p : Bool) (a b : Nat) (G : World') : EvW E 1 45 [.str (if p then sTo else sPair), .wp a 0, .wp b 0] G (.wp G.length 0) (G ++ [(Nd.bin p a b).obj]) := EvW.mk fun n _ => by
 rw [w45]
 rfl
theorem s46 (w : Wok G f m N next es) (fm : f ≠ m) {a b : Nat} (ha : ∃ nd, N a = some nd) (hb : ∃ nd, N b = some nd) : ∃ c v G', EvW E c 46 [.wp f 0, .wp a 0, .wp b 0] G (.bool v) G' ∧
  ((v = false ∧ ∀ θ, Sol N es θ → ¬ Eqv N θ a b) ∨ (v = true ∧ ∃ es', Wok G' f m N next es' ∧ G.length ≤ G'.length ∧ ∀ θ, Sol N es' θ ↔ Sol N es θ ∧ Eqv N θ a b)) := by
 obtain ⟨n1, n2, n3⟩ := w.new
 have w1 := w.app [.map []]
 obtain ⟨na, hna⟩ := ha
 obtain ⟨τ, hr⟩ := w.tot a na hna
 obtain ⟨c, v, G', e, h⟩ := s68 fm n2 n3 n1 (freeN es next) τ.size w1 hr hb (Nat.le_refl _) (Nat.le_refl _) (S := []) (nth_app_new G _) (fun p hp => by simp at hp)
 refine ⟨c + 1, v, G', EvW.mk fun n hn => ?_, ?_⟩
 ·rw [w46]
  exact step_b (e n hn) (step_t rfl rfl)
 ·rcases h with ⟨rfl, no⟩ | ⟨rfl, es', S', o, i, _⟩
  ·exact .inl ⟨rfl, no⟩
  ·have := o.len
   exact .inr ⟨rfl, es', o.w, by simp at this; omega, i⟩
end
end Go.Proofs.Cw.Si
end

/-
  EQUATIONS of the reckoned code: printed by program.
-/
section
set_option maxRecDepth 100000
namespace Go.Proofs.Cw.Si
open Go.Proofs

theorem r59r (n : Nat) (l : List Tree) : evR eQ n 59 [AV.t (Tree.slc l)] [] = bif true && (true && (decide ((↑(List.length l) : Int) = (↑(List.length l) : Int)) && decide
 ((↑(List.length l) : Int) ≤ (↑(List.length l) : Int)))) then bif firstOk q2 (List.drop 0 (List.take (Int.toNat (↑(List.length l) : Int)) l)) then some (AV.clip (List.drop
 0 (List.take (Int.toNat (↑(List.length l) : Int)) l)), []) else none else none := by kernel_rfl

theorem r43r (n : Nat) (l : List Tree) : evR eQ n 43 [AV.t (Tree.slc l)] [] = bif true && (true && (decide ((↑(List.length l) : Int) = (↑(List.length l) : Int)) && decide
 ((↑(List.length l) : Int) ≤ (↑(List.length l) : Int)))) then bif firstOk Sh.any (List.drop 0 (List.take (Int.toNat (↑(List.length l) : Int)) l)) then some (AV.clip
 (List.drop 0 (List.take (Int.toNat (↑(List.length l) : Int)) l)), []) else none else none := by kernel_rfl


end Go.Proofs.Cw.Si
end

/-
  THE INFERER'S WORLD 7: what infer is to do; lists.
-/
section
namespace Go.Proofs.Cw.Si
open Go.Proofs
inductive Vals (N : NT) (θ : Nat → FT) : List Nat → List FT → Prop where
 | nil : Vals N θ [] []
 | cons {i : Nat} {x : FT} {l : List Nat} {r : List FT} : Val N θ i x → Vals N θ l r → Vals N θ (i :: l) (x :: r)
inductive HasL (Γ : List FT) : List Lam → List FT → Prop where
 | nil : HasL Γ [] []
 | cons {t : Lam} {x : FT} {l : List Lam} {r : List FT} : Has Γ t x → HasL Γ l r → HasL Γ (t :: l) (x :: r)
theorem Vals.le {N N' : NT} (h : N.Le N') {θ : Nat → FT} {l : List Nat} {r : List FT} (k : Vals N θ l r) : Vals N' θ l r := by
 induction k with
 | nil => exact .nil
 | cons h1 _ ih => exact .cons (h1.le h) ih
theorem Vals.agree {N : NT} {θ η : Nat → FT} {next : Nat} (hN : ∀ i k, N i = some (.unk k) → k ≤ next) (ha : ∀ k, k ≤ next → η k = θ k) {l : List Nat} {r : List FT} (k : Vals N θ l r) : Vals N η l r := by
 induction k with
 | nil => exact .nil
 | cons h1 _ ih => exact .cons (h1.agree hN ha) ih
theorem Vals.down {N N' : NT} (h : N.Le N') (hk : ∀ i p a b, N i = some (.bin p a b) → (∃ x, N a = some x) ∧ ∃ y, N b = some y) {θ : Nat → FT} {l : List Nat} {r : List FT} (k : Vals N' θ l r) : (∀ i, i ∈ l → ∃ nd, N i = some nd) → Vals N θ l r := by
 induction k with
 | nil => intro _; exact .nil
 | cons h1 _ ih =>
  intro hl
  obtain ⟨nd, hn⟩ := hl _ List.mem_cons_self
  exact .cons (h1.down h hk hn) (ih fun i hi => hl i (List.mem_cons_of_mem _ hi))
theorem Vals.length {N : NT} {θ : Nat → FT} {l : List Nat} {r : List FT} (k : Vals N θ l r) : r.length = l.length := by
 induction k with
 | nil => rfl
 | cons _ _ ih => simp [ih]
theorem Vals.append {N : NT} {θ : Nat → FT} {l : List Nat} {r : List FT} (k : Vals N θ l r) {l' : List Nat} {r' : List FT} (k' : Vals N θ l' r') : Vals N θ (l ++ l') (r ++ r') := by
 induction k with
 | nil => exact k'
 | cons h _ ih => exact .cons h ih
theorem Vals.get {N : NT} {θ : Nat → FT} {l : List Nat} {r : List FT} (k : Vals N θ l r) : ∀ {j i : Nat}, l[j]? = some i → ∃ x, r[j]? = some x ∧ Val N θ i x := by
 induction k with
 | nil => intro j i h; simp at h
 | cons h _ ih =>
  intro j i hj
  cases j with
  | zero => simp at hj; subst hj; exact ⟨_, by simp, h⟩
  | succ j => simp at hj; obtain ⟨x, hx, hv⟩ := ih hj; exact ⟨x, by simpa using hx, hv⟩
def wps (l : List Nat) : List Tree := l.map fun i => .wp i 0
structure Infd (f m : Nat) (N : NT) (next : Nat) (es : Bd) (ctx : List Nat) (l : List Lam) (G : World') (G' : World') (us : List Nat) (N' : NT) (next' : Nat) (es' : Bd) : Prop where
 w : Wok G' f m N' next' es'
 le : N.Le N'
 lo : next ≤ next'
 hi : next' ≤ next + 2 * sizeLs l
 kn : ∀ i, i ∈ us → ∃ nd, N' i = some nd
 sound : ∀ θ, Sol N' es' θ → Sol N es θ ∧ ∀ Γ, Vals N θ ctx Γ → ∃ τs, Vals N' θ us τs ∧ HasL Γ l τs
 full : ∀ θ Γ τs, Sol N es θ → Vals N θ ctx Γ → HasL Γ l τs → ∃ θ', (∀ k, k ≤ next → θ' k = θ k) ∧ Sol N' es' θ' ∧ Vals N' θ' us τs
def Non (N : NT) (es : Bd) (ctx : List Nat) (l : List Lam) : Prop := ∀ θ Γ τs, Sol N es θ → Vals N θ ctx Γ → ¬ HasL Γ l τs
section
variable {f m : Nat} {N : NT} {next : Nat} {es : Bd} {ctx : List Nat} {G : World'}
theorem Infd.refl (w : Wok G f m N next es) : Infd f m N next es ctx [] G G [] N next es :=
 ⟨w, fun _ _ h => h, Nat.le_refl _, by simp [sizeLs], fun i h => by simp at h, fun θ sol => ⟨sol, fun Γ _ => ⟨[], .nil, .nil⟩⟩, fun θ Γ τs sol _ hl => by cases hl; exact ⟨θ, fun _ _ => rfl, sol, .nil⟩⟩
theorem Infd.cons {t : Lam} {l : List Lam} {G1 G2 : World'} {u : Nat} {us : List Nat} {N1 N2 : NT} {next1 next2 : Nat} {es1 es2 : Bd} (w : Wok G f m N next es) (hctx : ∀ i, i ∈ ctx → ∃ nd, N i = some nd) (a : Infd f m N next es ctx [t] G G1 [u] N1 next1 es1) (b : Infd f m N1 next1 es1 ctx l G1 G2 us N2 next2 es2) :
  Infd f m N next es ctx (t :: l) G G2 (u :: us) N2 next2 es2 where
 w := b.w
 le := a.le.trans b.le
 lo := Nat.le_trans a.lo b.lo
 hi := by have h1 := a.hi; have h2 := b.hi; simp only [sizeLs] at h1 h2 ⊢; omega
 kn i hi := by
  rcases List.mem_cons.1 hi with e | e
  ·obtain ⟨nd, hn⟩ := a.kn u (by simp)
   rw [e]; exact ⟨nd, b.le _ _ hn⟩
  ·exact b.kn i e
 sound θ sol := by
  obtain ⟨s1, k1⟩ := b.sound θ sol
  obtain ⟨s0, k0⟩ := a.sound θ s1
  refine ⟨s0, fun Γ hΓ => ?_⟩
  obtain ⟨τs, v1, h1⟩ := k0 Γ hΓ
  obtain ⟨σs, v2, h2⟩ := k1 Γ (hΓ.le a.le)
  cases h1 with
  | cons h1 hn =>
   cases hn
   cases v1 with
   | cons v1 _ => exact ⟨_, .cons (v1.le b.le) v2, .cons h1 h2⟩
 full θ Γ τs sol hΓ hl := by
  cases hl with
  | cons h1 h2 =>
   obtain ⟨θ1, g1, s1, v1⟩ := a.full θ Γ _ sol hΓ (.cons h1 .nil)
   obtain ⟨θ2, g2, s2, v2⟩ := b.full θ1 Γ _ s1 ((hΓ.agree w.le g1).le a.le) h2
   refine ⟨θ2, fun k hk => by rw [g2 k (by have := a.lo; omega), g1 k hk], s2, ?_⟩
   cases v1 with
   | cons v1 _ => exact .cons ((v1.agree a.w.le g2).le b.le) v2
theorem Non.head {t : Lam} {l : List Lam} (h : Non N es ctx [t]) : Non N es ctx (t :: l) := fun θ Γ τs sol hΓ hl => by
 cases hl with
 | cons h1 _ => exact h θ Γ _ sol hΓ (.cons h1 .nil)
theorem Non.tail {t : Lam} {l : List Lam} {G1 : World'} {u : Nat} {N1 : NT} {next1 : Nat} {es1 : Bd} (w : Wok G f m N next es) (a : Infd f m N next es ctx [t] G G1 [u] N1 next1 es1) (h : Non N1 es1 ctx l) : Non N es ctx (t :: l) := fun θ Γ τs sol hΓ hl => by
 cases hl with
 | cons h1 h2 =>
  obtain ⟨θ1, g1, s1, v1⟩ := a.full θ Γ _ sol hΓ (.cons h1 .nil)
  exact h θ1 Γ _ s1 ((hΓ.agree w.le g1).le a.le) h2
end
end Go.Proofs.Cw.Si
end
