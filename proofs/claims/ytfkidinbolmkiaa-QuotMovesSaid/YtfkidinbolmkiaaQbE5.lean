/-
  EQUATIONS of the reckoned code: printed by program.
-/
import Derived.Test.YtfkidinbolmkiaaQbTab
import Derived.Test.YtfkidinbolmkiaaBw4
set_option linter.unusedSimpArgs false
set_option linter.unusedVariables false
set_option maxRecDepth 100000
namespace Go.Proofs.Bw.Qb
open Go.Proofs

def L63_0 (n q : Nat) (s0 : Int) (s1 : Int) : Option Tree :=
  evL (Tab.env tab) n 63 [1, 0, 0] [q] { ts := [AV.t (Tree.int IntKind.i64 s0), AV.t (Tree.int IntKind.i64 s1), AV.any, AV.any, AV.any, AV.any, AV.any, AV.any, AV.any, AV.any, AV.any, AV.any], H := [] }

theorem e92 (n : Nat) (a00 : Bool) (a01 : Int) (a02 : Int) (a10 : Bool) (a11 : Int) (a12 : Int) : evQ (Tab.env tab) n 92 [Tree.agg [Tree.bool a00, Tree.int IntKind.u64
 a01, Tree.int IntKind.u64 a02], Tree.agg [Tree.bool a10, Tree.int IntKind.u64 a11, Tree.int IntKind.u64 a12]] = bif a01 != a11 then bif decide (a01 < a11) then some
 (Tree.int IntKind.i64 (-1)) else some (Tree.int IntKind.i64 1) else bif a02 != a12 then bif decide (a02 < a12) then some (Tree.int IntKind.i64 (-1)) else some (Tree.int
 IntKind.i64 1) else some (Tree.int IntKind.i64 0) := by kernel_rfl

theorem e64 (n : Nat) (a00 : Bool) (a01 : Int) (a02 : Int) (a10 : Bool) (a11 : Int) (a12 : Int) : evQ (Tab.env tab) n 64 [Tree.agg [Tree.bool a00, Tree.int IntKind.u64 a01, Tree.int IntKind.u64 a02], Tree.agg [Tree.bool a10, Tree.int IntKind.u64 a11, Tree.int IntKind.u64 a12]] =
    bif a00 == a10 then
    bif
        decide (gate a02 (gate a12 ↑((Int.toNat a02 + Int.toNat a12 + Int.toNat 0) / 18446744073709551616)) = 0) ||
          decide (gate a02 (gate a12 ↑((Int.toNat a02 + Int.toNat a12 + Int.toNat 0) / 18446744073709551616)) = 1) then
      some
        (Tree.agg
          [Tree.bool a00,
            Tree.int IntKind.u64
              (gate a01
                (gate a11
                  ↑((Int.toNat a01 + Int.toNat a11 + Int.toNat (gate a02 (gate a12 ↑((Int.toNat a02 + Int.toNat a12 + Int.toNat 0) / 18446744073709551616)))) %
                      18446744073709551616))),
            Tree.int IntKind.u64 (gate a02 (gate a12 ↑((Int.toNat a02 + Int.toNat a12 + Int.toNat 0) % 18446744073709551616)))])
    else none
  else
    Option.bind
      (evP (Tab.env tab) n 92
        [Tree.agg [Tree.bool a00, Tree.int IntKind.u64 a01, Tree.int IntKind.u64 a02],
          Tree.agg [Tree.bool a10, Tree.int IntKind.u64 a11, Tree.int IntKind.u64 a12]])
      fun y =>
      bif Sh.ok (Sh.int IntKind.i64) y then
        bif decide (Tree.toInt y < 0) then
          bif
              decide
                  (gate a12
                      (gate a02
                        (match decide (Int.toNat a12 < Int.toNat a02 + Int.toNat 0) with
                        | true => 1
                        | false => 0)) =
                    0) ||
                decide
                  (gate a12
                      (gate a02
                        (match decide (Int.toNat a12 < Int.toNat a02 + Int.toNat 0) with
                        | true => 1
                        | false => 0)) =
                    1) then
            bif a10 then
              bif
                  gate a11
                      (gate a01
                        ↑((Int.toNat a11 + 18446744073709551616 - Int.toNat a01 -
                              Int.toNat
                                (gate a12
                                  (gate a02
                                    (match decide (Int.toNat a12 < Int.toNat a02 + Int.toNat 0) with
                                    | true => 1
                                    | false => 0)))) %
                            18446744073709551616)) !=
                    0 then
                some
                  (Tree.agg
                    [Tree.bool true,
                      Tree.int IntKind.u64
                        (gate a11
                          (gate a01
                            ↑((Int.toNat a11 + 18446744073709551616 - Int.toNat a01 -
                                  Int.toNat
                                    (gate a12
                                      (gate a02
                                        (match decide (Int.toNat a12 < Int.toNat a02 + Int.toNat 0) with
                                        | true => 1
                                        | false => 0)))) %
                                18446744073709551616))),
                      Tree.int IntKind.u64 (gate a12 (gate a02 ↑((Int.toNat a12 + 18446744073709551616 - Int.toNat a02 - Int.toNat 0) % 18446744073709551616)))])
              else
                some
                  (Tree.agg
                    [Tree.bool (gate a12 (gate a02 ↑((Int.toNat a12 + 18446744073709551616 - Int.toNat a02 - Int.toNat 0) % 18446744073709551616)) != 0),
                      Tree.int IntKind.u64
                        (gate a11
                          (gate a01
                            ↑((Int.toNat a11 + 18446744073709551616 - Int.toNat a01 -
                                  Int.toNat
                                    (gate a12
                                      (gate a02
                                        (match decide (Int.toNat a12 < Int.toNat a02 + Int.toNat 0) with
                                        | true => 1
                                        | false => 0)))) %
                                18446744073709551616))),
                      Tree.int IntKind.u64 (gate a12 (gate a02 ↑((Int.toNat a12 + 18446744073709551616 - Int.toNat a02 - Int.toNat 0) % 18446744073709551616)))])
            else
              some
                (Tree.agg
                  [Tree.bool false,
                    Tree.int IntKind.u64
                      (gate a11
                        (gate a01
                          ↑((Int.toNat a11 + 18446744073709551616 - Int.toNat a01 -
                                Int.toNat
                                  (gate a12
                                    (gate a02
                                      (match decide (Int.toNat a12 < Int.toNat a02 + Int.toNat 0) with
                                      | true => 1
                                      | false => 0)))) %
                              18446744073709551616))),
                    Tree.int IntKind.u64 (gate a12 (gate a02 ↑((Int.toNat a12 + 18446744073709551616 - Int.toNat a02 - Int.toNat 0) % 18446744073709551616)))])
          else none
        else
          bif
              decide
                  (gate a02
                      (gate a12
                        (match decide (Int.toNat a02 < Int.toNat a12 + Int.toNat 0) with
                        | true => 1
                        | false => 0)) =
                    0) ||
                decide
                  (gate a02
                      (gate a12
                        (match decide (Int.toNat a02 < Int.toNat a12 + Int.toNat 0) with
                        | true => 1
                        | false => 0)) =
                    1) then
            bif a00 then
              bif
                  gate a01
                      (gate a11
                        ↑((Int.toNat a01 + 18446744073709551616 - Int.toNat a11 -
                              Int.toNat
                                (gate a02
                                  (gate a12
                                    (match decide (Int.toNat a02 < Int.toNat a12 + Int.toNat 0) with
                                    | true => 1
                                    | false => 0)))) %
                            18446744073709551616)) !=
                    0 then
                some
                  (Tree.agg
                    [Tree.bool true,
                      Tree.int IntKind.u64
                        (gate a01
                          (gate a11
                            ↑((Int.toNat a01 + 18446744073709551616 - Int.toNat a11 -
                                  Int.toNat
                                    (gate a02
                                      (gate a12
                                        (match decide (Int.toNat a02 < Int.toNat a12 + Int.toNat 0) with
                                        | true => 1
                                        | false => 0)))) %
                                18446744073709551616))),
                      Tree.int IntKind.u64 (gate a02 (gate a12 ↑((Int.toNat a02 + 18446744073709551616 - Int.toNat a12 - Int.toNat 0) % 18446744073709551616)))])
              else
                some
                  (Tree.agg
                    [Tree.bool (gate a02 (gate a12 ↑((Int.toNat a02 + 18446744073709551616 - Int.toNat a12 - Int.toNat 0) % 18446744073709551616)) != 0),
                      Tree.int IntKind.u64
                        (gate a01
                          (gate a11
                            ↑((Int.toNat a01 + 18446744073709551616 - Int.toNat a11 -
                                  Int.toNat
                                    (gate a02
                                      (gate a12
                                        (match decide (Int.toNat a02 < Int.toNat a12 + Int.toNat 0) with
                                        | true => 1
                                        | false => 0)))) %
                                18446744073709551616))),
                      Tree.int IntKind.u64 (gate a02 (gate a12 ↑((Int.toNat a02 + 18446744073709551616 - Int.toNat a12 - Int.toNat 0) % 18446744073709551616)))])
            else
              some
                (Tree.agg
                  [Tree.bool false,
                    Tree.int IntKind.u64
                      (gate a01
                        (gate a11
                          ↑((Int.toNat a01 + 18446744073709551616 - Int.toNat a11 -
                                Int.toNat
                                  (gate a02
                                    (gate a12
                                      (match decide (Int.toNat a02 < Int.toNat a12 + Int.toNat 0) with
                                      | true => 1
                                      | false => 0)))) %
                              18446744073709551616))),
                    Tree.int IntKind.u64 (gate a02 (gate a12 ↑((Int.toNat a02 + 18446744073709551616 - Int.toNat a12 - Int.toNat 0) % 18446744073709551616)))])
          else none
      else none := by kernel_rfl

theorem e93 (n : Nat) (a00 : Bool) (a01 : Int) (a02 : Int) (a1 : Int) : evQ (Tab.env tab) n 93 [Tree.agg [Tree.bool a00, Tree.int IntKind.u64 a01, Tree.int IntKind.u64
 a02], Tree.int IntKind.u64 a1] = bif decide (a1 = 0) then none else bif decide (a1 = 0) then none else Option.bind (evP (Tab.env tab) n 105 [Tree.int IntKind.u64
 (Int.tmod a01 a1), Tree.int IntKind.u64 a02, Tree.int IntKind.u64 a1]) fun y => bif Sh.ok (Sh.tup [Sh.int IntKind.u64, Sh.int IntKind.u64]) y then bif a00 then bif
 IntKind.wrap IntKind.u64 (Int.tdiv a01 a1) != 0 then some (Tree.tup [Tree.agg [Tree.bool true, Tree.int IntKind.u64 (IntKind.wrap IntKind.u64 (Int.tdiv a01 a1)), Tree.int
 IntKind.u64 (Tree.toInt (List.headD (Tree.tupl y) (Tree.bool false)))], Tree.int IntKind.u64 (Tree.toInt (List.headD (List.tail (Tree.tupl y)) (Tree.bool false)))]) else
 some (Tree.tup [Tree.agg [Tree.bool (Tree.toInt (List.headD (Tree.tupl y) (Tree.bool false)) != 0), Tree.int IntKind.u64 (IntKind.wrap IntKind.u64 (Int.tdiv a01 a1)),
 Tree.int IntKind.u64 (Tree.toInt (List.headD (Tree.tupl y) (Tree.bool false)))], Tree.int IntKind.u64 (Tree.toInt (List.headD (List.tail (Tree.tupl y)) (Tree.bool
 false)))]) else some (Tree.tup [Tree.agg [Tree.bool false, Tree.int IntKind.u64 (IntKind.wrap IntKind.u64 (Int.tdiv a01 a1)), Tree.int IntKind.u64 (Tree.toInt (List.headD
 (Tree.tupl y) (Tree.bool false)))], Tree.int IntKind.u64 (Tree.toInt (List.headD (List.tail (Tree.tupl y)) (Tree.bool false)))]) else none := by kernel_rfl

theorem l63_0 (n q : Nat) (s0 : Int) (s1 : Int) : L63_0 n (Nat.succ q) s0 s1 = bif s1 != 0 then bif decide (s1 = 0) then none else L63_0 n q s1 (Int.tmod s0 s1) else some
 (Tree.int IntKind.i64 s0) := by kernel_rfl

theorem e63 (n : Nat) (a0 : Int) (a1 : Int) : evQ (Tab.env tab) n 63 [Tree.int IntKind.i64 a0, Tree.int IntKind.i64 a1] = L63_0 n n a0 a1 := by kernel_rfl

theorem e59 (n : Nat) (a00 : Int) (a01 : Int) : evQ (Tab.env tab) n 59 [Tree.agg [Tree.int IntKind.i64 a00, Tree.int IntKind.i64 a01]] = bif a01 != 0 then bif decide (a00
 ≥ -1099511627776) then bif decide (a00 ≤ 1099511627776) then bif decide (a01 ≥ -1099511627776) then some (Tree.bool (decide (a01 ≤ 1099511627776))) else some (Tree.bool
 false) else some (Tree.bool false) else some (Tree.bool false) else some (Tree.bool false) := by kernel_rfl

theorem e60 (n : Nat) (a00 : Int) (a01 : Int) : evQ (Tab.env tab) n 60 [Tree.agg [Tree.int IntKind.i64 a00, Tree.int IntKind.i64 a01]] = bif decide (a01 < 0) then
 Option.bind (evP (Tab.env tab) n 84 [Tree.int IntKind.i64 (IntKind.wrap IntKind.i64 (0 - a00))]) fun y => bif Sh.ok (Sh.int IntKind.u64) y then Option.bind (evP (Tab.env
 tab) n 63 [Tree.int IntKind.i64 (IntKind.wrap IntKind.i64 (Tree.toInt y)), Tree.int IntKind.i64 (IntKind.wrap IntKind.i64 (0 - a01))]) fun y => bif Sh.ok (Sh.int
 IntKind.i64) y then bif decide (Tree.toInt y = 0) then none else bif decide (Tree.toInt y = 0) then none else some (Tree.agg [Tree.int IntKind.i64 (IntKind.wrap
 IntKind.i64 (Int.tdiv (IntKind.wrap IntKind.i64 (0 - a00)) (Tree.toInt y))), Tree.int IntKind.i64 (IntKind.wrap IntKind.i64 (Int.tdiv (IntKind.wrap IntKind.i64 (0 - a01))
 (Tree.toInt y)))]) else none else none else Option.bind (evP (Tab.env tab) n 84 [Tree.int IntKind.i64 a00]) fun y => bif Sh.ok (Sh.int IntKind.u64) y then Option.bind
 (evP (Tab.env tab) n 63 [Tree.int IntKind.i64 (IntKind.wrap IntKind.i64 (Tree.toInt y)), Tree.int IntKind.i64 a01]) fun y => bif Sh.ok (Sh.int IntKind.i64) y then bif
 decide (Tree.toInt y = 0) then none else bif decide (Tree.toInt y = 0) then none else some (Tree.agg [Tree.int IntKind.i64 (IntKind.wrap IntKind.i64 (Int.tdiv a00
 (Tree.toInt y))), Tree.int IntKind.i64 (IntKind.wrap IntKind.i64 (Int.tdiv a01 (Tree.toInt y)))]) else none else none := by kernel_rfl

theorem e65 (n : Nat) (a00 : Bool) (a01 : Int) (a02 : Int) (a1 : Int) (a2 : Int) (a3 : Int) : evQ (Tab.env tab) n 65 [Tree.agg [Tree.bool a00, Tree.int IntKind.u64 a01,
 Tree.int IntKind.u64 a02], Tree.int IntKind.i64 a1, Tree.int IntKind.i64 a2, Tree.int IntKind.i64 a3] = Option.bind (evP (Tab.env tab) n 93 [Tree.agg [Tree.bool a00,
 Tree.int IntKind.u64 a01, Tree.int IntKind.u64 a02], Tree.int IntKind.u64 (IntKind.wrap IntKind.u64 a1)]) fun y => bif Sh.ok (Sh.tup [Sh.agg [Sh.bool, Sh.int IntKind.u64,
 Sh.int IntKind.u64], Sh.int IntKind.u64]) y then Option.bind (evP (Tab.env tab) n 63 [Tree.int IntKind.i64 (IntKind.wrap IntKind.i64 (Tree.toInt (List.headD (List.tail
 (Tree.tupl y)) (Tree.bool false)))), Tree.int IntKind.i64 a1]) fun y => bif Sh.ok (Sh.int IntKind.i64) y then Option.bind (evP (Tab.env tab) n 93 [Tree.agg [Tree.bool
 a00, Tree.int IntKind.u64 a01, Tree.int IntKind.u64 a02], Tree.int IntKind.u64 (IntKind.wrap IntKind.u64 (Tree.toInt y))]) fun y_1 => bif Sh.ok (Sh.tup [Sh.agg [Sh.bool,
 Sh.int IntKind.u64, Sh.int IntKind.u64], Sh.int IntKind.u64]) y_1 then bif decide (Tree.toInt y = 0) then none else Option.bind (evP (Tab.env tab) n 55 [Tree.int
 IntKind.i64 (IntKind.wrap IntKind.i64 (Int.tdiv a1 (Tree.toInt y))), Tree.int IntKind.i64 a2]) fun y => bif Sh.ok (Sh.agg [Sh.bool, Sh.int IntKind.u64, Sh.int
 IntKind.u64]) y then bif Tree.toInt (List.headD (List.tail (Tree.cs y)) (Tree.bool false)) != 0 then some (Tree.tup [Tree.agg [Tree.int IntKind.i64 0, Tree.int
 IntKind.i64 0], Tree.int IntKind.i64 2]) else bif decide (Tree.toInt (List.headD (List.tail (List.tail (Tree.cs y))) (Tree.bool false)) > 1099511627776) then some
 (Tree.tup [Tree.agg [Tree.int IntKind.i64 0, Tree.int IntKind.i64 0], Tree.int IntKind.i64 2]) else Option.bind (evP (Tab.env tab) n 56 [Tree.agg [Tree.bool (Tree.toBool
 (List.headD (Tree.cs y) (Tree.bool false))), Tree.int IntKind.u64 (Tree.toInt (List.headD (List.tail (Tree.cs y)) (Tree.bool false))), Tree.int IntKind.u64 (Tree.toInt
 (List.headD (List.tail (List.tail (Tree.cs y))) (Tree.bool false)))]]) fun y => bif Sh.ok (Sh.int IntKind.i64) y then Option.bind (evP (Tab.env tab) n 55 [Tree.int
 IntKind.i64 (Tree.toInt y), Tree.int IntKind.i64 a3]) fun y => bif Sh.ok (Sh.agg [Sh.bool, Sh.int IntKind.u64, Sh.int IntKind.u64]) y then bif Tree.toInt (List.headD
 (List.tail (Tree.cs y)) (Tree.bool false)) != 0 then some (Tree.tup [Tree.agg [Tree.int IntKind.i64 0, Tree.int IntKind.i64 0], Tree.int IntKind.i64 2]) else bif decide
 (Tree.toInt (List.headD (List.tail (List.tail (Tree.cs y))) (Tree.bool false)) > 1099511627776) then some (Tree.tup [Tree.agg [Tree.int IntKind.i64 0, Tree.int
 IntKind.i64 0], Tree.int IntKind.i64 2]) else bif Tree.toInt (List.headD (List.tail (Tree.cs (List.headD (Tree.tupl y_1) (Tree.bool false)))) (Tree.bool false)) != 0 then
 some (Tree.tup [Tree.agg [Tree.int IntKind.i64 0, Tree.int IntKind.i64 0], Tree.int IntKind.i64 2]) else bif decide (Tree.toInt (List.headD (List.tail (List.tail (Tree.cs
 (List.headD (Tree.tupl y_1) (Tree.bool false))))) (Tree.bool false)) > 1099511627776) then some (Tree.tup [Tree.agg [Tree.int IntKind.i64 0, Tree.int IntKind.i64 0],
 Tree.int IntKind.i64 2]) else Option.bind (evP (Tab.env tab) n 56 [Tree.agg [Tree.bool (Tree.toBool (List.headD (Tree.cs (List.headD (Tree.tupl y_1) (Tree.bool false)))
 (Tree.bool false))), Tree.int IntKind.u64 (Tree.toInt (List.headD (List.tail (Tree.cs (List.headD (Tree.tupl y_1) (Tree.bool false)))) (Tree.bool false))), Tree.int
 IntKind.u64 (Tree.toInt (List.headD (List.tail (List.tail (Tree.cs (List.headD (Tree.tupl y_1) (Tree.bool false))))) (Tree.bool false)))]]) fun y_2 => bif Sh.ok (Sh.int
 IntKind.i64) y_2 then Option.bind (evP (Tab.env tab) n 56 [Tree.agg [Tree.bool (Tree.toBool (List.headD (Tree.cs y) (Tree.bool false))), Tree.int IntKind.u64 (Tree.toInt
 (List.headD (List.tail (Tree.cs y)) (Tree.bool false))), Tree.int IntKind.u64 (Tree.toInt (List.headD (List.tail (List.tail (Tree.cs y))) (Tree.bool false)))]]) fun y =>
 bif Sh.ok (Sh.int IntKind.i64) y then some (Tree.tup [Tree.agg [Tree.int IntKind.i64 (Tree.toInt y_2), Tree.int IntKind.i64 (Tree.toInt y)], Tree.int IntKind.i64 0]) else
 none else none else none else none else none else none else none else none := by kernel_rfl

theorem e23 (n : Nat) (a00 : Int) (a01 : Int) : evQ (Tab.env tab) n 23 [Tree.agg [Tree.int IntKind.i64 a00, Tree.int IntKind.i64 a01]] = Option.bind (evP (Tab.env tab) n
 57 [Tree.agg [Tree.int IntKind.i64 a00, Tree.int IntKind.i64 a01]]) fun y => bif Sh.ok Sh.bool y then bif !Tree.toBool y then some (Tree.tup [Tree.agg [Tree.int
 IntKind.i64 0, Tree.int IntKind.i64 0], Tree.int IntKind.i64 4]) else Option.bind (evP (Tab.env tab) n 58 [Tree.agg [Tree.int IntKind.i64 a00, Tree.int IntKind.i64 a01]])
 fun y => bif Sh.ok (Sh.agg [Sh.int IntKind.i64, Sh.int IntKind.i64]) y then some (Tree.tup [Tree.agg [Tree.int IntKind.i64 (Tree.toInt (List.headD (Tree.cs y) (Tree.bool
 false))), Tree.int IntKind.i64 (Tree.toInt (List.headD (List.tail (Tree.cs y)) (Tree.bool false)))], Tree.int IntKind.i64 0]) else none else none := by kernel_rfl

theorem e24 (n : Nat) (a00 : Int) (a01 : Int) : evQ (Tab.env tab) n 24 [Tree.agg [Tree.int IntKind.i64 a00, Tree.int IntKind.i64 a01]] = Option.bind (evP (Tab.env tab) n
 59 [Tree.agg [Tree.int IntKind.i64 a00, Tree.int IntKind.i64 a01]]) fun y => bif Sh.ok Sh.bool y then bif !Tree.toBool y then some (Tree.tup [Tree.agg [Tree.int
 IntKind.i64 0, Tree.int IntKind.i64 0], Tree.int IntKind.i64 4]) else Option.bind (evP (Tab.env tab) n 60 [Tree.agg [Tree.int IntKind.i64 a00, Tree.int IntKind.i64 a01]])
 fun y => bif Sh.ok (Sh.agg [Sh.int IntKind.i64, Sh.int IntKind.i64]) y then some (Tree.tup [Tree.agg [Tree.int IntKind.i64 (Tree.toInt (List.headD (Tree.cs y) (Tree.bool
 false))), Tree.int IntKind.i64 (Tree.toInt (List.headD (List.tail (Tree.cs y)) (Tree.bool false)))], Tree.int IntKind.i64 0]) else none else none := by kernel_rfl

theorem e25 (n : Nat) (a00 : Int) (a01 : Int) (a10 : Int) (a11 : Int) : evQ (Tab.env tab) n 25 [Tree.agg [Tree.int IntKind.i64 a00, Tree.int IntKind.i64 a01], Tree.agg
 [Tree.int IntKind.i64 a10, Tree.int IntKind.i64 a11]] = Option.bind (evP (Tab.env tab) n 57 [Tree.agg [Tree.int IntKind.i64 a00, Tree.int IntKind.i64 a01]]) fun y => bif
 Sh.ok Sh.bool y then bif !Tree.toBool y then some (Tree.tup [Tree.agg [Tree.int IntKind.i64 0, Tree.int IntKind.i64 0], Tree.int IntKind.i64 4]) else Option.bind (evP
 (Tab.env tab) n 57 [Tree.agg [Tree.int IntKind.i64 a10, Tree.int IntKind.i64 a11]]) fun y => bif Sh.ok Sh.bool y then bif !Tree.toBool y then some (Tree.tup [Tree.agg
 [Tree.int IntKind.i64 0, Tree.int IntKind.i64 0], Tree.int IntKind.i64 4]) else Option.bind (evP (Tab.env tab) n 58 [Tree.agg [Tree.int IntKind.i64 a00, Tree.int
 IntKind.i64 a01]]) fun y => bif Sh.ok (Sh.agg [Sh.int IntKind.i64, Sh.int IntKind.i64]) y then Option.bind (evP (Tab.env tab) n 58 [Tree.agg [Tree.int IntKind.i64 a10,
 Tree.int IntKind.i64 a11]]) fun y_1 => bif Sh.ok (Sh.agg [Sh.int IntKind.i64, Sh.int IntKind.i64]) y_1 then Option.bind (evP (Tab.env tab) n 51 [Tree.int IntKind.i64
 (Tree.toInt (List.headD (Tree.cs y) (Tree.bool false))), Tree.int IntKind.i64 (Tree.toInt (List.headD (List.tail (Tree.cs y_1)) (Tree.bool false)))]) fun y_2 => bif Sh.ok
 (Sh.agg [Sh.bool, Sh.int IntKind.u64, Sh.int IntKind.u64]) y_2 then Option.bind (evP (Tab.env tab) n 51 [Tree.int IntKind.i64 (Tree.toInt (List.headD (Tree.cs y_1)
 (Tree.bool false))), Tree.int IntKind.i64 (Tree.toInt (List.headD (List.tail (Tree.cs y)) (Tree.bool false)))]) fun y_3 => bif Sh.ok (Sh.agg [Sh.bool, Sh.int IntKind.u64,
 Sh.int IntKind.u64]) y_3 then Option.bind (evP (Tab.env tab) n 62 [Tree.agg [Tree.bool (Tree.toBool (List.headD (Tree.cs y_2) (Tree.bool false))), Tree.int IntKind.u64
 (Tree.toInt (List.headD (List.tail (Tree.cs y_2)) (Tree.bool false))), Tree.int IntKind.u64 (Tree.toInt (List.headD (List.tail (List.tail (Tree.cs y_2))) (Tree.bool
 false)))], Tree.agg [Tree.bool (Tree.toBool (List.headD (Tree.cs y_3) (Tree.bool false))), Tree.int IntKind.u64 (Tree.toInt (List.headD (List.tail (Tree.cs y_3))
 (Tree.bool false))), Tree.int IntKind.u64 (Tree.toInt (List.headD (List.tail (List.tail (Tree.cs y_3))) (Tree.bool false)))]]) fun y_4 => bif Sh.ok (Sh.agg [Sh.bool,
 Sh.int IntKind.u64, Sh.int IntKind.u64]) y_4 then Option.bind (evP (Tab.env tab) n 51 [Tree.int IntKind.i64 (Tree.toInt (List.headD (List.tail (Tree.cs y)) (Tree.bool
 false))), Tree.int IntKind.i64 (Tree.toInt (List.headD (List.tail (Tree.cs y_1)) (Tree.bool false)))]) fun y => bif Sh.ok (Sh.agg [Sh.bool, Sh.int IntKind.u64, Sh.int
 IntKind.u64]) y then Option.bind (evP (Tab.env tab) n 61 [Tree.agg [Tree.bool (Tree.toBool (List.headD (Tree.cs y_4) (Tree.bool false))), Tree.int IntKind.u64 (Tree.toInt
 (List.headD (List.tail (Tree.cs y_4)) (Tree.bool false))), Tree.int IntKind.u64 (Tree.toInt (List.headD (List.tail (List.tail (Tree.cs y_4))) (Tree.bool false)))],
 Tree.agg [Tree.bool (Tree.toBool (List.headD (Tree.cs y) (Tree.bool false))), Tree.int IntKind.u64 (Tree.toInt (List.headD (List.tail (Tree.cs y)) (Tree.bool false))),
 Tree.int IntKind.u64 (Tree.toInt (List.headD (List.tail (List.tail (Tree.cs y))) (Tree.bool false)))]]) fun y => bif Sh.ok (Sh.tup [Sh.agg [Sh.int IntKind.i64, Sh.int
 IntKind.i64], Sh.int IntKind.i64]) y then some (Tree.tup [Tree.agg [Tree.int IntKind.i64 (Tree.toInt (List.headD (Tree.cs (List.headD (Tree.tupl y) (Tree.bool false)))
 (Tree.bool false))), Tree.int IntKind.i64 (Tree.toInt (List.headD (List.tail (Tree.cs (List.headD (Tree.tupl y) (Tree.bool false)))) (Tree.bool false)))], Tree.int
 IntKind.i64 (Tree.toInt (List.headD (List.tail (Tree.tupl y)) (Tree.bool false)))]) else none else none else none else none else none else none else none else none else
 none := by kernel_rfl

theorem e27 (n : Nat) (a00 : Int) (a01 : Int) (a10 : Int) (a11 : Int) : evQ (Tab.env tab) n 27 [Tree.agg [Tree.int IntKind.i64 a00, Tree.int IntKind.i64 a01], Tree.agg
 [Tree.int IntKind.i64 a10, Tree.int IntKind.i64 a11]] = Option.bind (evP (Tab.env tab) n 57 [Tree.agg [Tree.int IntKind.i64 a00, Tree.int IntKind.i64 a01]]) fun y => bif
 Sh.ok Sh.bool y then bif !Tree.toBool y then some (Tree.tup [Tree.agg [Tree.int IntKind.i64 0, Tree.int IntKind.i64 0], Tree.int IntKind.i64 4]) else Option.bind (evP
 (Tab.env tab) n 57 [Tree.agg [Tree.int IntKind.i64 a10, Tree.int IntKind.i64 a11]]) fun y => bif Sh.ok Sh.bool y then bif !Tree.toBool y then some (Tree.tup [Tree.agg
 [Tree.int IntKind.i64 0, Tree.int IntKind.i64 0], Tree.int IntKind.i64 4]) else Option.bind (evP (Tab.env tab) n 58 [Tree.agg [Tree.int IntKind.i64 a00, Tree.int
 IntKind.i64 a01]]) fun y => bif Sh.ok (Sh.agg [Sh.int IntKind.i64, Sh.int IntKind.i64]) y then Option.bind (evP (Tab.env tab) n 58 [Tree.agg [Tree.int IntKind.i64 a10,
 Tree.int IntKind.i64 a11]]) fun y_1 => bif Sh.ok (Sh.agg [Sh.int IntKind.i64, Sh.int IntKind.i64]) y_1 then Option.bind (evP (Tab.env tab) n 51 [Tree.int IntKind.i64
 (Tree.toInt (List.headD (Tree.cs y) (Tree.bool false))), Tree.int IntKind.i64 (Tree.toInt (List.headD (Tree.cs y_1) (Tree.bool false)))]) fun y_2 => bif Sh.ok (Sh.agg
 [Sh.bool, Sh.int IntKind.u64, Sh.int IntKind.u64]) y_2 then Option.bind (evP (Tab.env tab) n 51 [Tree.int IntKind.i64 (Tree.toInt (List.headD (List.tail (Tree.cs y))
 (Tree.bool false))), Tree.int IntKind.i64 (Tree.toInt (List.headD (List.tail (Tree.cs y_1)) (Tree.bool false)))]) fun y => bif Sh.ok (Sh.agg [Sh.bool, Sh.int IntKind.u64,
 Sh.int IntKind.u64]) y then Option.bind (evP (Tab.env tab) n 61 [Tree.agg [Tree.bool (Tree.toBool (List.headD (Tree.cs y_2) (Tree.bool false))), Tree.int IntKind.u64
 (Tree.toInt (List.headD (List.tail (Tree.cs y_2)) (Tree.bool false))), Tree.int IntKind.u64 (Tree.toInt (List.headD (List.tail (List.tail (Tree.cs y_2))) (Tree.bool
 false)))], Tree.agg [Tree.bool (Tree.toBool (List.headD (Tree.cs y) (Tree.bool false))), Tree.int IntKind.u64 (Tree.toInt (List.headD (List.tail (Tree.cs y)) (Tree.bool
 false))), Tree.int IntKind.u64 (Tree.toInt (List.headD (List.tail (List.tail (Tree.cs y))) (Tree.bool false)))]]) fun y => bif Sh.ok (Sh.tup [Sh.agg [Sh.int IntKind.i64,
 Sh.int IntKind.i64], Sh.int IntKind.i64]) y then some (Tree.tup [Tree.agg [Tree.int IntKind.i64 (Tree.toInt (List.headD (Tree.cs (List.headD (Tree.tupl y) (Tree.bool
 false))) (Tree.bool false))), Tree.int IntKind.i64 (Tree.toInt (List.headD (List.tail (Tree.cs (List.headD (Tree.tupl y) (Tree.bool false)))) (Tree.bool false)))],
 Tree.int IntKind.i64 (Tree.toInt (List.headD (List.tail (Tree.tupl y)) (Tree.bool false)))]) else none else none else none else none else none else none else none := by
 kernel_rfl

theorem e29 (n : Nat) (a00 : Int) (a01 : Int) : evQ (Tab.env tab) n 29 [Tree.agg [Tree.int IntKind.i64 a00, Tree.int IntKind.i64 a01]] = Option.bind (evP (Tab.env tab) n
 57 [Tree.agg [Tree.int IntKind.i64 a00, Tree.int IntKind.i64 a01]]) fun y => bif Sh.ok Sh.bool y then bif !Tree.toBool y then some (Tree.tup [Tree.agg [Tree.int
 IntKind.i64 0, Tree.int IntKind.i64 0], Tree.int IntKind.i64 4]) else bif a00 == 0 then some (Tree.tup [Tree.agg [Tree.int IntKind.i64 0, Tree.int IntKind.i64 0],
 Tree.int IntKind.i64 230]) else Option.bind (evP (Tab.env tab) n 58 [Tree.agg [Tree.int IntKind.i64 a01, Tree.int IntKind.i64 a00]]) fun y => bif Sh.ok (Sh.agg [Sh.int
 IntKind.i64, Sh.int IntKind.i64]) y then some (Tree.tup [Tree.agg [Tree.int IntKind.i64 (Tree.toInt (List.headD (Tree.cs y) (Tree.bool false))), Tree.int IntKind.i64
 (Tree.toInt (List.headD (List.tail (Tree.cs y)) (Tree.bool false)))], Tree.int IntKind.i64 0]) else none else none := by kernel_rfl

theorem e30 (n : Nat) (a00 : Int) (a01 : Int) : evQ (Tab.env tab) n 30 [Tree.agg [Tree.int IntKind.i64 a00, Tree.int IntKind.i64 a01]] = Option.bind (evP (Tab.env tab) n
 59 [Tree.agg [Tree.int IntKind.i64 a00, Tree.int IntKind.i64 a01]]) fun y => bif Sh.ok Sh.bool y then bif !Tree.toBool y then some (Tree.tup [Tree.agg [Tree.int
 IntKind.i64 0, Tree.int IntKind.i64 0], Tree.int IntKind.i64 4]) else bif a00 == 0 then some (Tree.tup [Tree.agg [Tree.int IntKind.i64 0, Tree.int IntKind.i64 0],
 Tree.int IntKind.i64 230]) else Option.bind (evP (Tab.env tab) n 60 [Tree.agg [Tree.int IntKind.i64 a01, Tree.int IntKind.i64 a00]]) fun y => bif Sh.ok (Sh.agg [Sh.int
 IntKind.i64, Sh.int IntKind.i64]) y then some (Tree.tup [Tree.agg [Tree.int IntKind.i64 (Tree.toInt (List.headD (Tree.cs y) (Tree.bool false))), Tree.int IntKind.i64
 (Tree.toInt (List.headD (List.tail (Tree.cs y)) (Tree.bool false)))], Tree.int IntKind.i64 0]) else none else none := by kernel_rfl

theorem e31 (n : Nat) (a00 : Int) (a01 : Int) (a10 : Int) (a11 : Int) : evQ (Tab.env tab) n 31 [Tree.agg [Tree.int IntKind.i64 a00, Tree.int IntKind.i64 a01], Tree.agg
 [Tree.int IntKind.i64 a10, Tree.int IntKind.i64 a11]] = Option.bind (evP (Tab.env tab) n 57 [Tree.agg [Tree.int IntKind.i64 a00, Tree.int IntKind.i64 a01]]) fun y => bif
 Sh.ok Sh.bool y then bif !Tree.toBool y then some (Tree.tup [Tree.bool false, Tree.int IntKind.i64 4]) else Option.bind (evP (Tab.env tab) n 57 [Tree.agg [Tree.int
 IntKind.i64 a10, Tree.int IntKind.i64 a11]]) fun y => bif Sh.ok Sh.bool y then bif !Tree.toBool y then some (Tree.tup [Tree.bool false, Tree.int IntKind.i64 4]) else
 Option.bind (evP (Tab.env tab) n 58 [Tree.agg [Tree.int IntKind.i64 a00, Tree.int IntKind.i64 a01]]) fun y => bif Sh.ok (Sh.agg [Sh.int IntKind.i64, Sh.int IntKind.i64])
 y then Option.bind (evP (Tab.env tab) n 58 [Tree.agg [Tree.int IntKind.i64 a10, Tree.int IntKind.i64 a11]]) fun y_1 => bif Sh.ok (Sh.agg [Sh.int IntKind.i64, Sh.int
 IntKind.i64]) y_1 then Option.bind (evP (Tab.env tab) n 51 [Tree.int IntKind.i64 (Tree.toInt (List.headD (Tree.cs y) (Tree.bool false))), Tree.int IntKind.i64 (Tree.toInt
 (List.headD (List.tail (Tree.cs y_1)) (Tree.bool false)))]) fun y_2 => bif Sh.ok (Sh.agg [Sh.bool, Sh.int IntKind.u64, Sh.int IntKind.u64]) y_2 then Option.bind (evP
 (Tab.env tab) n 51 [Tree.int IntKind.i64 (Tree.toInt (List.headD (Tree.cs y_1) (Tree.bool false))), Tree.int IntKind.i64 (Tree.toInt (List.headD (List.tail (Tree.cs y))
 (Tree.bool false)))]) fun y => bif Sh.ok (Sh.agg [Sh.bool, Sh.int IntKind.u64, Sh.int IntKind.u64]) y then Option.bind (evP (Tab.env tab) n 62 [Tree.agg [Tree.bool
 (Tree.toBool (List.headD (Tree.cs y_2) (Tree.bool false))), Tree.int IntKind.u64 (Tree.toInt (List.headD (List.tail (Tree.cs y_2)) (Tree.bool false))), Tree.int
 IntKind.u64 (Tree.toInt (List.headD (List.tail (List.tail (Tree.cs y_2))) (Tree.bool false)))], Tree.agg [Tree.bool !Tree.toBool (List.headD (Tree.cs y) (Tree.bool
 false)), Tree.int IntKind.u64 (Tree.toInt (List.headD (List.tail (Tree.cs y)) (Tree.bool false))), Tree.int IntKind.u64 (Tree.toInt (List.headD (List.tail (List.tail
 (Tree.cs y))) (Tree.bool false)))]]) fun y => bif Sh.ok (Sh.agg [Sh.bool, Sh.int IntKind.u64, Sh.int IntKind.u64]) y then bif Tree.toBool (List.headD (Tree.cs y)
 (Tree.bool false)) then some (Tree.tup [Tree.bool true, Tree.int IntKind.i64 0]) else some (Tree.tup [Tree.bool (gate (Tree.toInt (List.headD (List.tail (Tree.cs y))
 (Tree.bool false))) (gate (Tree.toInt (List.headD (List.tail (List.tail (Tree.cs y))) (Tree.bool false))) (IntKind.wrap IntKind.u64 ↑(BitVec.toNat (BitVec.ofInt 64
 (Tree.toInt (List.headD (List.tail (Tree.cs y)) (Tree.bool false))) ||| BitVec.ofInt 64 (Tree.toInt (List.headD (List.tail (List.tail (Tree.cs y))) (Tree.bool
 false))))))) == 0), Tree.int IntKind.i64 0]) else none else none else none else none else none else none else none := by kernel_rfl

theorem e32 (n : Nat) (a00 : Int) (a01 : Int) (a10 : Int) (a11 : Int) : evQ (Tab.env tab) n 32 [Tree.agg [Tree.int IntKind.i64 a00, Tree.int IntKind.i64 a01], Tree.agg
 [Tree.int IntKind.i64 a10, Tree.int IntKind.i64 a11]] = Option.bind (evP (Tab.env tab) n 59 [Tree.agg [Tree.int IntKind.i64 a00, Tree.int IntKind.i64 a01]]) fun y => bif
 Sh.ok Sh.bool y then bif !Tree.toBool y then some (Tree.tup [Tree.bool false, Tree.int IntKind.i64 4]) else Option.bind (evP (Tab.env tab) n 59 [Tree.agg [Tree.int
 IntKind.i64 a10, Tree.int IntKind.i64 a11]]) fun y => bif Sh.ok Sh.bool y then bif !Tree.toBool y then some (Tree.tup [Tree.bool false, Tree.int IntKind.i64 4]) else
 Option.bind (evP (Tab.env tab) n 60 [Tree.agg [Tree.int IntKind.i64 a00, Tree.int IntKind.i64 a01]]) fun y => bif Sh.ok (Sh.agg [Sh.int IntKind.i64, Sh.int IntKind.i64])
 y then Option.bind (evP (Tab.env tab) n 60 [Tree.agg [Tree.int IntKind.i64 a10, Tree.int IntKind.i64 a11]]) fun y_1 => bif Sh.ok (Sh.agg [Sh.int IntKind.i64, Sh.int
 IntKind.i64]) y_1 then Option.bind (evP (Tab.env tab) n 55 [Tree.int IntKind.i64 (Tree.toInt (List.headD (Tree.cs y) (Tree.bool false))), Tree.int IntKind.i64 (Tree.toInt
 (List.headD (List.tail (Tree.cs y_1)) (Tree.bool false)))]) fun y_2 => bif Sh.ok (Sh.agg [Sh.bool, Sh.int IntKind.u64, Sh.int IntKind.u64]) y_2 then Option.bind (evP
 (Tab.env tab) n 55 [Tree.int IntKind.i64 (IntKind.wrap IntKind.i64 (0 - Tree.toInt (List.headD (Tree.cs y_1) (Tree.bool false)))), Tree.int IntKind.i64 (Tree.toInt
 (List.headD (List.tail (Tree.cs y)) (Tree.bool false)))]) fun y => bif Sh.ok (Sh.agg [Sh.bool, Sh.int IntKind.u64, Sh.int IntKind.u64]) y then Option.bind (evP (Tab.env
 tab) n 64 [Tree.agg [Tree.bool (Tree.toBool (List.headD (Tree.cs y_2) (Tree.bool false))), Tree.int IntKind.u64 (Tree.toInt (List.headD (List.tail (Tree.cs y_2))
 (Tree.bool false))), Tree.int IntKind.u64 (Tree.toInt (List.headD (List.tail (List.tail (Tree.cs y_2))) (Tree.bool false)))], Tree.agg [Tree.bool (Tree.toBool (List.headD
 (Tree.cs y) (Tree.bool false))), Tree.int IntKind.u64 (Tree.toInt (List.headD (List.tail (Tree.cs y)) (Tree.bool false))), Tree.int IntKind.u64 (Tree.toInt (List.headD
 (List.tail (List.tail (Tree.cs y))) (Tree.bool false)))]]) fun y => bif Sh.ok (Sh.agg [Sh.bool, Sh.int IntKind.u64, Sh.int IntKind.u64]) y then bif Tree.toBool
 (List.headD (Tree.cs y) (Tree.bool false)) then some (Tree.tup [Tree.bool true, Tree.int IntKind.i64 0]) else bif Tree.toInt (List.headD (List.tail (Tree.cs y))
 (Tree.bool false)) == 0 then some (Tree.tup [Tree.bool (Tree.toInt (List.headD (List.tail (List.tail (Tree.cs y))) (Tree.bool false)) == 0), Tree.int IntKind.i64 0]) else
 some (Tree.tup [Tree.bool false, Tree.int IntKind.i64 0]) else none else none else none else none else none else none else none := by kernel_rfl


end Go.Proofs.Bw.Qb
