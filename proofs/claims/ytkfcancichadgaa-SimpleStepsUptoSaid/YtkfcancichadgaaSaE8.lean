/-
  EQUATIONS of the reckoned code: printed by program.
-/
import Derived.Test.YtkfcancichadgaaSaTab
import Derived.Test.YtkfcancichadgaaAw4
set_option linter.unusedSimpArgs false
set_option linter.unusedVariables false
set_option maxRecDepth 100000
namespace Go.Proofs.Aw.Sa
open Go.Proofs

theorem e3 (n : Nat) (a00 : Int) (a01 : Int) (a02 : List UInt8) (a03 : List Tree) (a04 : List Tree) (a1 : Int) : evQ (Tab.env tab) n 3 [Tree.agg [Tree.int IntKind.i64 a00, Tree.int IntKind.i64 a01, Tree.str a02, Tree.slc a03, Tree.slc a04], Tree.int IntKind.i64 a1] =
    Option.bind (evP (Tab.env tab) n 10 [Tree.slc [Tree.agg [Tree.int IntKind.i64 a00, Tree.int IntKind.i64 a01, Tree.str a02, Tree.slc a03, Tree.slc a04]]])
    fun y =>
    bif Sh.ok Sh.bool y then
      bif Tree.toBool y then some (Tree.bool true)
      else
        bif decide (a1 > 200) then some (Tree.bool true)
        else
          Option.bind
            (evP (Tab.env tab) n 11
              [Tree.agg [Tree.int IntKind.i64 a00, Tree.int IntKind.i64 a01, Tree.str a02, Tree.slc a03, Tree.slc a04], Tree.int IntKind.i64 a1])
            fun y =>
            bif Sh.ok (Sh.tup [Sh.int IntKind.i64, Sh.int IntKind.i64]) y then
              Option.bind
                (evP (Tab.env tab) n 12
                  [Tree.agg [Tree.int IntKind.i64 a00, Tree.int IntKind.i64 a01, Tree.str a02, Tree.slc a03, Tree.slc a04], Tree.int IntKind.i64 a1])
                fun y_1 =>
                bif Sh.ok (Sh.tup [Sh.int IntKind.i64, Sh.int IntKind.i64]) y_1 then
                  bif Tree.toInt (List.headD (List.tail (Tree.tupl y_1)) (Tree.bool false)) == 5 then
                    bif Tree.toInt (List.headD (List.tail (Tree.tupl y)) (Tree.bool false)) != 5 then
                      Option.bind
                        (evP (Tab.env tab) n 12
                          [Tree.agg [Tree.int IntKind.i64 a00, Tree.int IntKind.i64 a01, Tree.str a02, Tree.slc a03, Tree.slc a04], Tree.int IntKind.i64 2000])
                        fun y_2 =>
                        bif Sh.ok (Sh.tup [Sh.int IntKind.i64, Sh.int IntKind.i64]) y_2 then
                          bif Tree.toInt (List.headD (List.tail (Tree.tupl y_2)) (Tree.bool false)) == 5 then
                            Option.bind (evP (Tab.env tab) n 13 []) fun y => bif Sh.ok Sh.bool y then some (Tree.bool (Tree.toBool y)) else none
                          else
                            bif Tree.toInt (List.headD (Tree.tupl y) (Tree.bool false)) == Tree.toInt (List.headD (Tree.tupl y_2) (Tree.bool false)) then
                              bif
                                  Tree.toInt (List.headD (List.tail (Tree.tupl y)) (Tree.bool false)) ==
                                    Tree.toInt (List.headD (List.tail (Tree.tupl y_2)) (Tree.bool false)) then
                                Option.bind (evP (Tab.env tab) n 13 []) fun y => bif Sh.ok Sh.bool y then some (Tree.bool (Tree.toBool y)) else none
                              else some (Tree.bool false)
                            else some (Tree.bool false)
                        else none
                    else
                      bif Tree.toInt (List.headD (Tree.tupl y) (Tree.bool false)) == Tree.toInt (List.headD (Tree.tupl y_1) (Tree.bool false)) then
                        bif
                            Tree.toInt (List.headD (List.tail (Tree.tupl y)) (Tree.bool false)) ==
                              Tree.toInt (List.headD (List.tail (Tree.tupl y_1)) (Tree.bool false)) then
                          Option.bind (evP (Tab.env tab) n 13 []) fun y => bif Sh.ok Sh.bool y then some (Tree.bool (Tree.toBool y)) else none
                        else some (Tree.bool false)
                      else some (Tree.bool false)
                  else
                    bif Tree.toInt (List.headD (Tree.tupl y) (Tree.bool false)) == Tree.toInt (List.headD (Tree.tupl y_1) (Tree.bool false)) then
                      bif
                          Tree.toInt (List.headD (List.tail (Tree.tupl y)) (Tree.bool false)) ==
                            Tree.toInt (List.headD (List.tail (Tree.tupl y_1)) (Tree.bool false)) then
                        Option.bind (evP (Tab.env tab) n 13 []) fun y => bif Sh.ok Sh.bool y then some (Tree.bool (Tree.toBool y)) else none
                      else some (Tree.bool false)
                    else some (Tree.bool false)
                else none
            else none
    else none := by kernel_rfl

theorem e4 (n : Nat) (a0 : List Tree) (a10 : Int) (a11 : Int) (a12 : List UInt8) (a13 : List Tree) (a14 : List Tree) (a20 : Int) (a21 : Int) (a22 : List UInt8) (a23 : List Tree) (a24 : List Tree) : evQ (Tab.env tab) n 4 [Tree.slc a0, Tree.agg [Tree.int IntKind.i64 a10, Tree.int IntKind.i64 a11, Tree.str a12, Tree.slc a13, Tree.slc a14], Tree.agg [Tree.int IntKind.i64 a20, Tree.int IntKind.i64 a21, Tree.str a22, Tree.slc a23, Tree.slc a24]] =
    Option.bind
    (evP (Tab.env tab) n 10
      [Tree.slc
          [Tree.agg [Tree.int IntKind.i64 a10, Tree.int IntKind.i64 a11, Tree.str a12, Tree.slc a13, Tree.slc a14],
            Tree.agg [Tree.int IntKind.i64 a20, Tree.int IntKind.i64 a21, Tree.str a22, Tree.slc a23, Tree.slc a24]]])
    fun y =>
    bif Sh.ok Sh.bool y then
      bif Tree.toBool y then some (Tree.bool true)
      else
        bif (↑(List.length a0) : Int) == 0 then some (Tree.bool true)
        else
          bif decide ((↑(List.length a0) : Int) > 20) then some (Tree.bool true)
          else
            Option.bind (evP (Tab.env tab) n 14 [Tree.slc a0, Tree.int IntKind.i64 300]) fun y =>
              bif Sh.ok (Sh.int IntKind.i64) y then
                bif decide (Tree.toInt y > 300) then some (Tree.bool true)
                else
                  bif
                      decide (0 ≤ 0) &&
                        (decide (0 ≤ IntKind.wrap IntKind.i64 ((↑(List.length a0) : Int) - 1)) &&
                          decide (IntKind.wrap IntKind.i64 ((↑(List.length a0) : Int) - 1) ≤ (↑(List.length a0) : Int))) then
                    bif
                        firstOk (Sh.agg [Sh.str, Sh.slc])
                          (List.drop (Int.toNat 0) (List.take (Int.toNat (IntKind.wrap IntKind.i64 ((↑(List.length a0) : Int) - 1))) a0)) then
                      Option.bind
                        (evP (Tab.env tab) n 15
                          [Tree.slc a0, Tree.agg [Tree.int IntKind.i64 a10, Tree.int IntKind.i64 a11, Tree.str a12, Tree.slc a13, Tree.slc a14]])
                        fun y =>
                        bif Sh.ok (Sh.tup [Sh.agg [Sh.str, Sh.slc], Sh.int IntKind.i64]) y then
                          Option.bind
                            (evP (Tab.env tab) n 15
                              [Tree.slc (List.drop (Int.toNat 0) (List.take (Int.toNat (IntKind.wrap IntKind.i64 ((↑(List.length a0) : Int) - 1))) a0)),
                                Tree.agg [Tree.int IntKind.i64 a20, Tree.int IntKind.i64 a21, Tree.str a22, Tree.slc a23, Tree.slc a24]])
                            fun y_1 =>
                            bif Sh.ok (Sh.tup [Sh.agg [Sh.str, Sh.slc], Sh.int IntKind.i64]) y_1 then
                              bif Tree.toInt (List.headD (List.tail (Tree.tupl y)) (Tree.bool false)) != 0 then
                                Option.bind (evP (Tab.env tab) n 13 []) fun y => bif Sh.ok Sh.bool y then some (Tree.bool (Tree.toBool y)) else none
                              else
                                bif Tree.toInt (List.headD (List.tail (Tree.tupl y_1)) (Tree.bool false)) != 0 then
                                  Option.bind (evP (Tab.env tab) n 13 []) fun y => bif Sh.ok Sh.bool y then some (Tree.bool (Tree.toBool y)) else none
                                else
                                  bif decide (0 ≤ IntKind.wrap IntKind.i64 ((↑(List.length a0) : Int) - 1)) then
                                    Option.bind (nth a0 (Int.toNat (IntKind.wrap IntKind.i64 ((↑(List.length a0) : Int) - 1)))) fun y_2 =>
                                      bif Sh.ok (Sh.agg [Sh.str, Sh.slc]) y_2 then
                                        Option.bind
                                          (evP (Tab.env tab) n 16
                                            [Tree.agg
                                                [Tree.str (Tree.toStr (List.headD (Tree.cs (List.headD (Tree.tupl y_1) (Tree.bool false))) (Tree.bool false))),
                                                  Tree.slc
                                                    (Tree.elems
                                                      (List.headD (List.tail (Tree.cs (List.headD (Tree.tupl y_1) (Tree.bool false)))) (Tree.bool false)))],
                                              Tree.agg
                                                [Tree.str (Tree.toStr (List.headD (Tree.cs y_2) (Tree.bool false))),
                                                  Tree.slc (Tree.elems (List.headD (List.tail (Tree.cs y_2)) (Tree.bool false)))]])
                                          fun y_3 =>
                                          bif Sh.ok Sh.bool y_3 then
                                            bif !Tree.toBool y_3 then
                                              Option.bind (evP (Tab.env tab) n 13 []) fun y => bif Sh.ok Sh.bool y then some (Tree.bool (Tree.toBool y)) else none
                                            else
                                              Option.bind
                                                (evP (Tab.env tab) n 17
                                                  [Tree.agg [Tree.int IntKind.i64 a10, Tree.int IntKind.i64 a11, Tree.str a12, Tree.slc a13, Tree.slc a14],
                                                    Tree.int IntKind.i64 0,
                                                    Tree.agg [Tree.int IntKind.i64 a20, Tree.int IntKind.i64 a21, Tree.str a22, Tree.slc a23, Tree.slc a24]])
                                                fun y_4 =>
                                                bif Sh.ok (Sh.agg [Sh.int IntKind.i64, Sh.int IntKind.i64, Sh.str, Sh.slc, Sh.slc]) y_4 then
                                                  Option.bind
                                                    (evP (Tab.env tab) n 15
                                                      [Tree.slc
                                                          (List.drop (Int.toNat 0)
                                                            (List.take (Int.toNat (IntKind.wrap IntKind.i64 ((↑(List.length a0) : Int) - 1))) a0)),
                                                        Tree.agg
                                                          [Tree.int IntKind.i64 (Tree.toInt (List.headD (Tree.cs y_4) (Tree.bool false))),
                                                            Tree.int IntKind.i64 (Tree.toInt (List.headD (List.tail (Tree.cs y_4)) (Tree.bool false))),
                                                            Tree.str (Tree.toStr (List.headD (List.tail (List.tail (Tree.cs y_4))) (Tree.bool false))),
                                                            Tree.slc
                                                              (Tree.elems (List.headD (List.tail (List.tail (List.tail (Tree.cs y_4)))) (Tree.bool false))),
                                                            Tree.slc
                                                              (Tree.elems
                                                                (List.headD (List.tail (List.tail (List.tail (List.tail (Tree.cs y_4))))) (Tree.bool false)))]])
                                                    fun y_5 =>
                                                    bif Sh.ok (Sh.tup [Sh.agg [Sh.str, Sh.slc], Sh.int IntKind.i64]) y_5 then
                                                      bif Tree.toInt (List.headD (List.tail (Tree.tupl y_5)) (Tree.bool false)) == 4 then
                                                        Option.bind
                                                          (evP (Tab.env tab) n 18
                                                            [Tree.agg
                                                                [Tree.int IntKind.i64 (Tree.toInt (List.headD (Tree.cs y_4) (Tree.bool false))),
                                                                  Tree.int IntKind.i64 (Tree.toInt (List.headD (List.tail (Tree.cs y_4)) (Tree.bool false))),
                                                                  Tree.str (Tree.toStr (List.headD (List.tail (List.tail (Tree.cs y_4))) (Tree.bool false))),
                                                                  Tree.slc
                                                                    (Tree.elems (List.headD (List.tail (List.tail (List.tail (Tree.cs y_4)))) (Tree.bool false))),
                                                                  Tree.slc
                                                                    (Tree.elems
                                                                      (List.headD (List.tail (List.tail (List.tail (List.tail (Tree.cs y_4)))))
                                                                        (Tree.bool false)))]])
                                                          fun y_6 =>
                                                          bif Sh.ok Sh.bool y_6 then
                                                            bif !Tree.toBool y_6 then
                                                              Option.bind (evP (Tab.env tab) n 13 []) fun y =>
                                                                bif Sh.ok Sh.bool y then some (Tree.bool (Tree.toBool y)) else none
                                                            else
                                                              bif Tree.toInt (List.headD (List.tail (Tree.tupl y_5)) (Tree.bool false)) == 0 then
                                                                Option.bind
                                                                  (evP (Tab.env tab) n 16
                                                                    [Tree.agg
                                                                        [Tree.str
                                                                            (Tree.toStr
                                                                              (List.headD (Tree.cs (List.headD (Tree.tupl y) (Tree.bool false)))
                                                                                (Tree.bool false))),
                                                                          Tree.slc
                                                                            (Tree.elems
                                                                              (List.headD (List.tail (Tree.cs (List.headD (Tree.tupl y) (Tree.bool false))))
                                                                                (Tree.bool false)))],
                                                                      Tree.agg
                                                                        [Tree.str
                                                                            (Tree.toStr
                                                                              (List.headD (Tree.cs (List.headD (Tree.tupl y_5) (Tree.bool false)))
                                                                                (Tree.bool false))),
                                                                          Tree.slc
                                                                            (Tree.elems
                                                                              (List.headD (List.tail (Tree.cs (List.headD (Tree.tupl y_5) (Tree.bool false))))
                                                                                (Tree.bool false)))]])
                                                                  fun y =>
                                                                  bif Sh.ok Sh.bool y then
                                                                    bif Tree.toBool y then
                                                                      Option.bind (evP (Tab.env tab) n 13 []) fun y =>
                                                                        bif Sh.ok Sh.bool y then some (Tree.bool (Tree.toBool y)) else none
                                                                    else some (Tree.bool false)
                                                                  else none
                                                              else some (Tree.bool false)
                                                          else none
                                                      else
                                                        bif Tree.toInt (List.headD (List.tail (Tree.tupl y_5)) (Tree.bool false)) == 0 then
                                                          Option.bind
                                                            (evP (Tab.env tab) n 16
                                                              [Tree.agg
                                                                  [Tree.str
                                                                      (Tree.toStr
                                                                        (List.headD (Tree.cs (List.headD (Tree.tupl y) (Tree.bool false))) (Tree.bool false))),
                                                                    Tree.slc
                                                                      (Tree.elems
                                                                        (List.headD (List.tail (Tree.cs (List.headD (Tree.tupl y) (Tree.bool false))))
                                                                          (Tree.bool false)))],
                                                                Tree.agg
                                                                  [Tree.str
                                                                      (Tree.toStr
                                                                        (List.headD (Tree.cs (List.headD (Tree.tupl y_5) (Tree.bool false))) (Tree.bool false))),
                                                                    Tree.slc
                                                                      (Tree.elems
                                                                        (List.headD (List.tail (Tree.cs (List.headD (Tree.tupl y_5) (Tree.bool false))))
                                                                          (Tree.bool false)))]])
                                                            fun y =>
                                                            bif Sh.ok Sh.bool y then
                                                              bif Tree.toBool y then
                                                                Option.bind (evP (Tab.env tab) n 13 []) fun y =>
                                                                  bif Sh.ok Sh.bool y then some (Tree.bool (Tree.toBool y)) else none
                                                              else some (Tree.bool false)
                                                            else none
                                                        else some (Tree.bool false)
                                                    else none
                                                else none
                                          else none
                                      else none
                                  else none
                            else none
                        else none
                    else none
                  else none
              else none
    else none := by kernel_rfl

theorem e5 (n : Nat) (a00 : Int) (a01 : Int) (a02 : List UInt8) (a03 : List Tree) (a04 : List Tree) (a1 : Int) : evQ (Tab.env tab) n 5 [Tree.agg [Tree.int IntKind.i64 a00, Tree.int IntKind.i64 a01, Tree.str a02, Tree.slc a03, Tree.slc a04], Tree.int IntKind.i64 a1] =
    Option.bind (evP (Tab.env tab) n 10 [Tree.slc [Tree.agg [Tree.int IntKind.i64 a00, Tree.int IntKind.i64 a01, Tree.str a02, Tree.slc a03, Tree.slc a04]]])
    fun y =>
    bif Sh.ok Sh.bool y then
      bif Tree.toBool y then some (Tree.bool true)
      else
        Option.bind (evP (Tab.env tab) n 19 [Tree.agg [Tree.int IntKind.i64 a00, Tree.int IntKind.i64 a01, Tree.str a02, Tree.slc a03, Tree.slc a04]]) fun y =>
          bif Sh.ok Sh.bool y then
            bif !Tree.toBool y then some (Tree.bool true)
            else
              bif decide (a1 > 200) then some (Tree.bool true)
              else
                Option.bind (evP (Tab.env tab) n 20 [Tree.agg [Tree.int IntKind.i64 a00, Tree.int IntKind.i64 a01, Tree.str a02, Tree.slc a03, Tree.slc a04]])
                  fun y =>
                  bif Sh.ok (Sh.tup [Sh.agg [Sh.int IntKind.i64, Sh.int IntKind.i64, Sh.str, Sh.slc, Sh.slc], Sh.slc, Sh.bool]) y then
                    Option.bind (evP (Tab.env tab) n 21 [Tree.agg [Tree.int IntKind.i64 a00, Tree.int IntKind.i64 a01, Tree.str a02, Tree.slc a03, Tree.slc a04]])
                      fun y_1 =>
                      bif Sh.ok (Sh.tup [Sh.agg [Sh.int IntKind.i64, Sh.int IntKind.i64, Sh.str, Sh.slc, Sh.slc], Sh.slc, Sh.bool]) y_1 then
                        bif
                            !Tree.toBool (List.headD (List.tail (List.tail (Tree.tupl y))) (Tree.bool false)) ==
                                Tree.toBool (List.headD (List.tail (List.tail (Tree.tupl y_1))) (Tree.bool false)) then
                          some (Tree.bool false)
                        else
                          Option.bind
                            (evP (Tab.env tab) n 22
                              [Tree.agg
                                  [Tree.int IntKind.i64 (Tree.toInt (List.headD (Tree.cs (List.headD (Tree.tupl y) (Tree.bool false))) (Tree.bool false))),
                                    Tree.int IntKind.i64
                                      (Tree.toInt (List.headD (List.tail (Tree.cs (List.headD (Tree.tupl y) (Tree.bool false)))) (Tree.bool false))),
                                    Tree.str
                                      (Tree.toStr (List.headD (List.tail (List.tail (Tree.cs (List.headD (Tree.tupl y) (Tree.bool false))))) (Tree.bool false))),
                                    Tree.slc
                                      (Tree.elems
                                        (List.headD (List.tail (List.tail (List.tail (Tree.cs (List.headD (Tree.tupl y) (Tree.bool false))))))
                                          (Tree.bool false))),
                                    Tree.slc
                                      (Tree.elems
                                        (List.headD (List.tail (List.tail (List.tail (List.tail (Tree.cs (List.headD (Tree.tupl y) (Tree.bool false)))))))
                                          (Tree.bool false)))],
                                Tree.agg
                                  [Tree.int IntKind.i64 (Tree.toInt (List.headD (Tree.cs (List.headD (Tree.tupl y_1) (Tree.bool false))) (Tree.bool false))),
                                    Tree.int IntKind.i64
                                      (Tree.toInt (List.headD (List.tail (Tree.cs (List.headD (Tree.tupl y_1) (Tree.bool false)))) (Tree.bool false))),
                                    Tree.str
                                      (Tree.toStr
                                        (List.headD (List.tail (List.tail (Tree.cs (List.headD (Tree.tupl y_1) (Tree.bool false))))) (Tree.bool false))),
                                    Tree.slc
                                      (Tree.elems
                                        (List.headD (List.tail (List.tail (List.tail (Tree.cs (List.headD (Tree.tupl y_1) (Tree.bool false))))))
                                          (Tree.bool false))),
                                    Tree.slc
                                      (Tree.elems
                                        (List.headD (List.tail (List.tail (List.tail (List.tail (Tree.cs (List.headD (Tree.tupl y_1) (Tree.bool false)))))))
                                          (Tree.bool false)))]])
                            fun y_2 =>
                            bif Sh.ok Sh.bool y_2 then
                              bif !Tree.toBool y_2 then some (Tree.bool false)
                              else
                                Option.bind
                                  (evP (Tab.env tab) n 23
                                    [Tree.slc (Tree.elems (List.headD (List.tail (Tree.tupl y)) (Tree.bool false))),
                                      Tree.slc (Tree.elems (List.headD (List.tail (Tree.tupl y_1)) (Tree.bool false)))])
                                  fun y =>
                                  bif Sh.ok Sh.bool y then
                                    bif !Tree.toBool y then some (Tree.bool false)
                                    else
                                      Option.bind
                                        (evP (Tab.env tab) n 24
                                          [Tree.agg [Tree.int IntKind.i64 a00, Tree.int IntKind.i64 a01, Tree.str a02, Tree.slc a03, Tree.slc a04],
                                            Tree.int IntKind.i64 a1])
                                        fun y =>
                                        bif
                                            Sh.ok
                                              (Sh.tup
                                                [Sh.agg [Sh.int IntKind.i64, Sh.int IntKind.i64, Sh.str, Sh.slc, Sh.slc], Sh.int IntKind.i64, Sh.int IntKind.i64])
                                              y then
                                          Option.bind
                                            (evP (Tab.env tab) n 25
                                              [Tree.agg [Tree.int IntKind.i64 a00, Tree.int IntKind.i64 a01, Tree.str a02, Tree.slc a03, Tree.slc a04],
                                                Tree.int IntKind.i64 a1])
                                            fun y_3 =>
                                            bif
                                                Sh.ok
                                                  (Sh.tup
                                                    [Sh.agg [Sh.int IntKind.i64, Sh.int IntKind.i64, Sh.str, Sh.slc, Sh.slc], Sh.int IntKind.i64,
                                                      Sh.int IntKind.i64])
                                                  y_3 then
                                              bif
                                                  Tree.toInt (List.headD (List.tail (List.tail (Tree.tupl y))) (Tree.bool false)) ==
                                                    Tree.toInt (List.headD (List.tail (List.tail (Tree.tupl y_3))) (Tree.bool false)) then
                                                bif
                                                    Tree.toInt (List.headD (List.tail (Tree.tupl y)) (Tree.bool false)) ==
                                                      Tree.toInt (List.headD (List.tail (Tree.tupl y_3)) (Tree.bool false)) then
                                                  Option.bind
                                                    (evP (Tab.env tab) n 22
                                                      [Tree.agg
                                                          [Tree.int IntKind.i64
                                                              (Tree.toInt (List.headD (Tree.cs (List.headD (Tree.tupl y) (Tree.bool false))) (Tree.bool false))),
                                                            Tree.int IntKind.i64
                                                              (Tree.toInt
                                                                (List.headD (List.tail (Tree.cs (List.headD (Tree.tupl y) (Tree.bool false))))
                                                                  (Tree.bool false))),
                                                            Tree.str
                                                              (Tree.toStr
                                                                (List.headD (List.tail (List.tail (Tree.cs (List.headD (Tree.tupl y) (Tree.bool false)))))
                                                                  (Tree.bool false))),
                                                            Tree.slc
                                                              (Tree.elems
                                                                (List.headD
                                                                  (List.tail (List.tail (List.tail (Tree.cs (List.headD (Tree.tupl y) (Tree.bool false))))))
                                                                  (Tree.bool false))),
                                                            Tree.slc
                                                              (Tree.elems
                                                                (List.headD
                                                                  (List.tail
                                                                    (List.tail (List.tail (List.tail (Tree.cs (List.headD (Tree.tupl y) (Tree.bool false)))))))
                                                                  (Tree.bool false)))],
                                                        Tree.agg
                                                          [Tree.int IntKind.i64
                                                              (Tree.toInt
                                                                (List.headD (Tree.cs (List.headD (Tree.tupl y_3) (Tree.bool false))) (Tree.bool false))),
                                                            Tree.int IntKind.i64
                                                              (Tree.toInt
                                                                (List.headD (List.tail (Tree.cs (List.headD (Tree.tupl y_3) (Tree.bool false))))
                                                                  (Tree.bool false))),
                                                            Tree.str
                                                              (Tree.toStr
                                                                (List.headD (List.tail (List.tail (Tree.cs (List.headD (Tree.tupl y_3) (Tree.bool false)))))
                                                                  (Tree.bool false))),
                                                            Tree.slc
                                                              (Tree.elems
                                                                (List.headD
                                                                  (List.tail (List.tail (List.tail (Tree.cs (List.headD (Tree.tupl y_3) (Tree.bool false))))))
                                                                  (Tree.bool false))),
                                                            Tree.slc
                                                              (Tree.elems
                                                                (List.headD
                                                                  (List.tail
                                                                    (List.tail (List.tail (List.tail (Tree.cs (List.headD (Tree.tupl y_3) (Tree.bool false)))))))
                                                                  (Tree.bool false)))]])
                                                    fun y =>
                                                    bif Sh.ok Sh.bool y then
                                                      bif Tree.toBool y then
                                                        Option.bind (evP (Tab.env tab) n 13 []) fun y =>
                                                          bif Sh.ok Sh.bool y then some (Tree.bool (Tree.toBool y)) else none
                                                      else some (Tree.bool false)
                                                    else none
                                                else some (Tree.bool false)
                                              else some (Tree.bool false)
                                            else none
                                        else none
                                  else none
                            else none
                      else none
                  else none
          else none
    else none := by kernel_rfl

theorem e6 (n : Nat) (a0 : List Tree) (a10 : Int) (a11 : Int) (a12 : List UInt8) (a13 : List Tree) (a14 : List Tree) : evQ (Tab.env tab) n 6 [Tree.slc a0, Tree.agg [Tree.int IntKind.i64 a10, Tree.int IntKind.i64 a11, Tree.str a12, Tree.slc a13, Tree.slc a14]] =
    Option.bind (evP (Tab.env tab) n 10 [Tree.slc [Tree.agg [Tree.int IntKind.i64 a10, Tree.int IntKind.i64 a11, Tree.str a12, Tree.slc a13, Tree.slc a14]]])
    fun y =>
    bif Sh.ok Sh.bool y then
      bif Tree.toBool y then some (Tree.bool true)
      else
        bif decide ((↑(List.length a0) : Int) > 20) then some (Tree.bool true)
        else
          Option.bind (evP (Tab.env tab) n 14 [Tree.slc a0, Tree.int IntKind.i64 300]) fun y =>
            bif Sh.ok (Sh.int IntKind.i64) y then
              bif decide (Tree.toInt y > 300) then some (Tree.bool true)
              else
                Option.bind
                  (evP (Tab.env tab) n 15 [Tree.slc a0, Tree.agg [Tree.int IntKind.i64 a10, Tree.int IntKind.i64 a11, Tree.str a12, Tree.slc a13, Tree.slc a14]])
                  fun y =>
                  bif Sh.ok (Sh.tup [Sh.agg [Sh.str, Sh.slc], Sh.int IntKind.i64]) y then
                    bif Tree.toInt (List.headD (List.tail (Tree.tupl y)) (Tree.bool false)) != 0 then
                      Option.bind (evP (Tab.env tab) n 13 []) fun y => bif Sh.ok Sh.bool y then some (Tree.bool (Tree.toBool y)) else none
                    else
                      Option.bind
                        (evP (Tab.env tab) n 20 [Tree.agg [Tree.int IntKind.i64 a10, Tree.int IntKind.i64 a11, Tree.str a12, Tree.slc a13, Tree.slc a14]])
                        fun y_1 =>
                        bif Sh.ok (Sh.tup [Sh.agg [Sh.int IntKind.i64, Sh.int IntKind.i64, Sh.str, Sh.slc, Sh.slc], Sh.slc, Sh.bool]) y_1 then
                          bif Tree.toBool (List.headD (List.tail (List.tail (Tree.tupl y_1))) (Tree.bool false)) then
                            Option.bind
                              (evP (Tab.env tab) n 15
                                [Tree.slc a0,
                                  Tree.agg
                                    [Tree.int IntKind.i64 (Tree.toInt (List.headD (Tree.cs (List.headD (Tree.tupl y_1) (Tree.bool false))) (Tree.bool false))),
                                      Tree.int IntKind.i64
                                        (Tree.toInt (List.headD (List.tail (Tree.cs (List.headD (Tree.tupl y_1) (Tree.bool false)))) (Tree.bool false))),
                                      Tree.str
                                        (Tree.toStr
                                          (List.headD (List.tail (List.tail (Tree.cs (List.headD (Tree.tupl y_1) (Tree.bool false))))) (Tree.bool false))),
                                      Tree.slc
                                        (Tree.elems
                                          (List.headD (List.tail (List.tail (List.tail (Tree.cs (List.headD (Tree.tupl y_1) (Tree.bool false))))))
                                            (Tree.bool false))),
                                      Tree.slc
                                        (Tree.elems
                                          (List.headD (List.tail (List.tail (List.tail (List.tail (Tree.cs (List.headD (Tree.tupl y_1) (Tree.bool false)))))))
                                            (Tree.bool false)))]])
                              fun y_2 =>
                              bif Sh.ok (Sh.tup [Sh.agg [Sh.str, Sh.slc], Sh.int IntKind.i64]) y_2 then
                                bif Tree.toInt (List.headD (List.tail (Tree.tupl y_2)) (Tree.bool false)) == 4 then
                                  Option.bind
                                    (evP (Tab.env tab) n 18
                                      [Tree.agg
                                          [Tree.int IntKind.i64
                                              (Tree.toInt (List.headD (Tree.cs (List.headD (Tree.tupl y_1) (Tree.bool false))) (Tree.bool false))),
                                            Tree.int IntKind.i64
                                              (Tree.toInt (List.headD (List.tail (Tree.cs (List.headD (Tree.tupl y_1) (Tree.bool false)))) (Tree.bool false))),
                                            Tree.str
                                              (Tree.toStr
                                                (List.headD (List.tail (List.tail (Tree.cs (List.headD (Tree.tupl y_1) (Tree.bool false))))) (Tree.bool false))),
                                            Tree.slc
                                              (Tree.elems
                                                (List.headD (List.tail (List.tail (List.tail (Tree.cs (List.headD (Tree.tupl y_1) (Tree.bool false))))))
                                                  (Tree.bool false))),
                                            Tree.slc
                                              (Tree.elems
                                                (List.headD
                                                  (List.tail (List.tail (List.tail (List.tail (Tree.cs (List.headD (Tree.tupl y_1) (Tree.bool false)))))))
                                                  (Tree.bool false)))]])
                                    fun y_3 =>
                                    bif Sh.ok Sh.bool y_3 then
                                      bif !Tree.toBool y_3 then
                                        Option.bind (evP (Tab.env tab) n 13 []) fun y => bif Sh.ok Sh.bool y then some (Tree.bool (Tree.toBool y)) else none
                                      else
                                        bif Tree.toInt (List.headD (List.tail (Tree.tupl y_2)) (Tree.bool false)) == 0 then
                                          Option.bind
                                            (evP (Tab.env tab) n 16
                                              [Tree.agg
                                                  [Tree.str (Tree.toStr (List.headD (Tree.cs (List.headD (Tree.tupl y) (Tree.bool false))) (Tree.bool false))),
                                                    Tree.slc
                                                      (Tree.elems
                                                        (List.headD (List.tail (Tree.cs (List.headD (Tree.tupl y) (Tree.bool false)))) (Tree.bool false)))],
                                                Tree.agg
                                                  [Tree.str (Tree.toStr (List.headD (Tree.cs (List.headD (Tree.tupl y_2) (Tree.bool false))) (Tree.bool false))),
                                                    Tree.slc
                                                      (Tree.elems
                                                        (List.headD (List.tail (Tree.cs (List.headD (Tree.tupl y_2) (Tree.bool false)))) (Tree.bool false)))]])
                                            fun y =>
                                            bif Sh.ok Sh.bool y then
                                              bif Tree.toBool y then
                                                Option.bind (evP (Tab.env tab) n 13 []) fun y =>
                                                  bif Sh.ok Sh.bool y then some (Tree.bool (Tree.toBool y)) else none
                                              else some (Tree.bool false)
                                            else none
                                        else some (Tree.bool false)
                                    else none
                                else
                                  bif Tree.toInt (List.headD (List.tail (Tree.tupl y_2)) (Tree.bool false)) == 0 then
                                    Option.bind
                                      (evP (Tab.env tab) n 16
                                        [Tree.agg
                                            [Tree.str (Tree.toStr (List.headD (Tree.cs (List.headD (Tree.tupl y) (Tree.bool false))) (Tree.bool false))),
                                              Tree.slc
                                                (Tree.elems (List.headD (List.tail (Tree.cs (List.headD (Tree.tupl y) (Tree.bool false)))) (Tree.bool false)))],
                                          Tree.agg
                                            [Tree.str (Tree.toStr (List.headD (Tree.cs (List.headD (Tree.tupl y_2) (Tree.bool false))) (Tree.bool false))),
                                              Tree.slc
                                                (Tree.elems
                                                  (List.headD (List.tail (Tree.cs (List.headD (Tree.tupl y_2) (Tree.bool false)))) (Tree.bool false)))]])
                                      fun y =>
                                      bif Sh.ok Sh.bool y then
                                        bif Tree.toBool y then
                                          Option.bind (evP (Tab.env tab) n 13 []) fun y => bif Sh.ok Sh.bool y then some (Tree.bool (Tree.toBool y)) else none
                                        else some (Tree.bool false)
                                      else none
                                  else some (Tree.bool false)
                              else none
                          else
                            bif decide ((↑(List.length a0) : Int) > 0) then
                              Option.bind (evP (Tab.env tab) n 13 []) fun y => bif Sh.ok Sh.bool y then some (Tree.bool (Tree.toBool y)) else none
                            else
                              Option.bind
                                (evP (Tab.env tab) n 26
                                  [Tree.str (Tree.toStr (List.headD (Tree.cs (List.headD (Tree.tupl y) (Tree.bool false))) (Tree.bool false)))])
                                fun y =>
                                bif Sh.ok (Sh.int IntKind.i64) y then
                                  bif a10 == Tree.toInt y then
                                    Option.bind (evP (Tab.env tab) n 13 []) fun y => bif Sh.ok Sh.bool y then some (Tree.bool (Tree.toBool y)) else none
                                  else some (Tree.bool false)
                                else none
                        else none
                  else none
            else none
    else none := by kernel_rfl

theorem e7 (n : Nat) (a00 : Int) (a01 : Int) (a02 : List UInt8) (a03 : List Tree) (a04 : List Tree) (a1 : Int) : evQ (Tab.env tab) n 7 [Tree.agg [Tree.int IntKind.i64 a00, Tree.int IntKind.i64 a01, Tree.str a02, Tree.slc a03, Tree.slc a04], Tree.int IntKind.u8 a1] =
    Option.bind (evP (Tab.env tab) n 10 [Tree.slc [Tree.agg [Tree.int IntKind.i64 a00, Tree.int IntKind.i64 a01, Tree.str a02, Tree.slc a03, Tree.slc a04]]])
    fun y =>
    bif Sh.ok Sh.bool y then
      bif Tree.toBool y then some (Tree.bool true)
      else
        Option.bind
          (evP (Tab.env tab) n 15 [Tree.slc [], Tree.agg [Tree.int IntKind.i64 a00, Tree.int IntKind.i64 a01, Tree.str a02, Tree.slc a03, Tree.slc a04]]) fun y =>
          bif Sh.ok (Sh.tup [Sh.agg [Sh.str, Sh.slc], Sh.int IntKind.i64]) y then
            bif Tree.toInt (List.headD (List.tail (Tree.tupl y)) (Tree.bool false)) != 0 then
              Option.bind (evP (Tab.env tab) n 13 []) fun y => bif Sh.ok Sh.bool y then some (Tree.bool (Tree.toBool y)) else none
            else
              Option.bind
                (evP (Tab.env tab) n 24
                  [Tree.agg [Tree.int IntKind.i64 a00, Tree.int IntKind.i64 a01, Tree.str a02, Tree.slc a03, Tree.slc a04],
                    Tree.int IntKind.i64 (imin (IntKind.wrap IntKind.i64 a1) 200)])
                fun y_1 =>
                bif Sh.ok (Sh.tup [Sh.agg [Sh.int IntKind.i64, Sh.int IntKind.i64, Sh.str, Sh.slc, Sh.slc], Sh.int IntKind.i64, Sh.int IntKind.i64]) y_1 then
                  bif Tree.toInt (List.headD (List.tail (List.tail (Tree.tupl y_1))) (Tree.bool false)) != 0 then
                    bif Tree.toInt (List.headD (List.tail (List.tail (Tree.tupl y_1))) (Tree.bool false)) == 5 then
                      Option.bind (evP (Tab.env tab) n 13 []) fun y => bif Sh.ok Sh.bool y then some (Tree.bool (Tree.toBool y)) else none
                    else some (Tree.bool false)
                  else
                    Option.bind
                      (evP (Tab.env tab) n 24
                        [Tree.agg [Tree.int IntKind.i64 a00, Tree.int IntKind.i64 a01, Tree.str a02, Tree.slc a03, Tree.slc a04],
                          Tree.int IntKind.i64 (IntKind.wrap IntKind.i64 (IntKind.wrap IntKind.i64 (2 * imin (IntKind.wrap IntKind.i64 a1) 200) + 5))])
                      fun y_2 =>
                      bif
                          Sh.ok (Sh.tup [Sh.agg [Sh.int IntKind.i64, Sh.int IntKind.i64, Sh.str, Sh.slc, Sh.slc], Sh.int IntKind.i64, Sh.int IntKind.i64])
                            y_2 then
                        Option.bind
                          (evP (Tab.env tab) n 20
                            [Tree.agg
                                [Tree.int IntKind.i64 (Tree.toInt (List.headD (Tree.cs (List.headD (Tree.tupl y_1) (Tree.bool false))) (Tree.bool false))),
                                  Tree.int IntKind.i64
                                    (Tree.toInt (List.headD (List.tail (Tree.cs (List.headD (Tree.tupl y_1) (Tree.bool false)))) (Tree.bool false))),
                                  Tree.str
                                    (Tree.toStr (List.headD (List.tail (List.tail (Tree.cs (List.headD (Tree.tupl y_1) (Tree.bool false))))) (Tree.bool false))),
                                  Tree.slc
                                    (Tree.elems
                                      (List.headD (List.tail (List.tail (List.tail (Tree.cs (List.headD (Tree.tupl y_1) (Tree.bool false))))))
                                        (Tree.bool false))),
                                  Tree.slc
                                    (Tree.elems
                                      (List.headD (List.tail (List.tail (List.tail (List.tail (Tree.cs (List.headD (Tree.tupl y_1) (Tree.bool false)))))))
                                        (Tree.bool false)))]])
                          fun y_3 =>
                          bif Sh.ok (Sh.tup [Sh.agg [Sh.int IntKind.i64, Sh.int IntKind.i64, Sh.str, Sh.slc, Sh.slc], Sh.slc, Sh.bool]) y_3 then
                            bif Tree.toInt (List.headD (List.tail (List.tail (Tree.tupl y_2))) (Tree.bool false)) != 0 then some (Tree.bool false)
                            else
                              bif
                                  Tree.toInt (List.headD (List.tail (Tree.tupl y_1)) (Tree.bool false)) !=
                                    Tree.toInt (List.headD (List.tail (Tree.tupl y_2)) (Tree.bool false)) then
                                some (Tree.bool false)
                              else
                                bif Tree.toBool (List.headD (List.tail (List.tail (Tree.tupl y_3))) (Tree.bool false)) then some (Tree.bool false)
                                else
                                  Option.bind
                                    (evP (Tab.env tab) n 22
                                      [Tree.agg
                                          [Tree.int IntKind.i64
                                              (Tree.toInt (List.headD (Tree.cs (List.headD (Tree.tupl y_1) (Tree.bool false))) (Tree.bool false))),
                                            Tree.int IntKind.i64
                                              (Tree.toInt (List.headD (List.tail (Tree.cs (List.headD (Tree.tupl y_1) (Tree.bool false)))) (Tree.bool false))),
                                            Tree.str
                                              (Tree.toStr
                                                (List.headD (List.tail (List.tail (Tree.cs (List.headD (Tree.tupl y_1) (Tree.bool false))))) (Tree.bool false))),
                                            Tree.slc
                                              (Tree.elems
                                                (List.headD (List.tail (List.tail (List.tail (Tree.cs (List.headD (Tree.tupl y_1) (Tree.bool false))))))
                                                  (Tree.bool false))),
                                            Tree.slc
                                              (Tree.elems
                                                (List.headD
                                                  (List.tail (List.tail (List.tail (List.tail (Tree.cs (List.headD (Tree.tupl y_1) (Tree.bool false)))))))
                                                  (Tree.bool false)))],
                                        Tree.agg
                                          [Tree.int IntKind.i64
                                              (Tree.toInt (List.headD (Tree.cs (List.headD (Tree.tupl y_2) (Tree.bool false))) (Tree.bool false))),
                                            Tree.int IntKind.i64
                                              (Tree.toInt (List.headD (List.tail (Tree.cs (List.headD (Tree.tupl y_2) (Tree.bool false)))) (Tree.bool false))),
                                            Tree.str
                                              (Tree.toStr
                                                (List.headD (List.tail (List.tail (Tree.cs (List.headD (Tree.tupl y_2) (Tree.bool false))))) (Tree.bool false))),
                                            Tree.slc
                                              (Tree.elems
                                                (List.headD (List.tail (List.tail (List.tail (Tree.cs (List.headD (Tree.tupl y_2) (Tree.bool false))))))
                                                  (Tree.bool false))),
                                            Tree.slc
                                              (Tree.elems
                                                (List.headD
                                                  (List.tail (List.tail (List.tail (List.tail (Tree.cs (List.headD (Tree.tupl y_2) (Tree.bool false)))))))
                                                  (Tree.bool false)))]])
                                    fun y_4 =>
                                    bif Sh.ok Sh.bool y_4 then
                                      bif !Tree.toBool y_4 then some (Tree.bool false)
                                      else
                                        Option.bind
                                          (evP (Tab.env tab) n 15
                                            [Tree.slc [],
                                              Tree.agg
                                                [Tree.int IntKind.i64
                                                    (Tree.toInt (List.headD (Tree.cs (List.headD (Tree.tupl y_1) (Tree.bool false))) (Tree.bool false))),
                                                  Tree.int IntKind.i64
                                                    (Tree.toInt
                                                      (List.headD (List.tail (Tree.cs (List.headD (Tree.tupl y_1) (Tree.bool false)))) (Tree.bool false))),
                                                  Tree.str
                                                    (Tree.toStr
                                                      (List.headD (List.tail (List.tail (Tree.cs (List.headD (Tree.tupl y_1) (Tree.bool false)))))
                                                        (Tree.bool false))),
                                                  Tree.slc
                                                    (Tree.elems
                                                      (List.headD (List.tail (List.tail (List.tail (Tree.cs (List.headD (Tree.tupl y_1) (Tree.bool false))))))
                                                        (Tree.bool false))),
                                                  Tree.slc
                                                    (Tree.elems
                                                      (List.headD
                                                        (List.tail (List.tail (List.tail (List.tail (Tree.cs (List.headD (Tree.tupl y_1) (Tree.bool false)))))))
                                                        (Tree.bool false)))]])
                                          fun y_5 =>
                                          bif Sh.ok (Sh.tup [Sh.agg [Sh.str, Sh.slc], Sh.int IntKind.i64]) y_5 then
                                            bif Tree.toInt (List.headD (List.tail (Tree.tupl y_5)) (Tree.bool false)) == 4 then
                                              Option.bind
                                                (evP (Tab.env tab) n 18
                                                  [Tree.agg
                                                      [Tree.int IntKind.i64
                                                          (Tree.toInt (List.headD (Tree.cs (List.headD (Tree.tupl y_1) (Tree.bool false))) (Tree.bool false))),
                                                        Tree.int IntKind.i64
                                                          (Tree.toInt
                                                            (List.headD (List.tail (Tree.cs (List.headD (Tree.tupl y_1) (Tree.bool false)))) (Tree.bool false))),
                                                        Tree.str
                                                          (Tree.toStr
                                                            (List.headD (List.tail (List.tail (Tree.cs (List.headD (Tree.tupl y_1) (Tree.bool false)))))
                                                              (Tree.bool false))),
                                                        Tree.slc
                                                          (Tree.elems
                                                            (List.headD
                                                              (List.tail (List.tail (List.tail (Tree.cs (List.headD (Tree.tupl y_1) (Tree.bool false))))))
                                                              (Tree.bool false))),
                                                        Tree.slc
                                                          (Tree.elems
                                                            (List.headD
                                                              (List.tail
                                                                (List.tail (List.tail (List.tail (Tree.cs (List.headD (Tree.tupl y_1) (Tree.bool false)))))))
                                                              (Tree.bool false)))]])
                                                fun y_6 =>
                                                bif Sh.ok Sh.bool y_6 then
                                                  bif !Tree.toBool y_6 then
                                                    Option.bind (evP (Tab.env tab) n 13 []) fun y =>
                                                      bif Sh.ok Sh.bool y then some (Tree.bool (Tree.toBool y)) else none
                                                  else
                                                    bif Tree.toInt (List.headD (List.tail (Tree.tupl y_5)) (Tree.bool false)) == 0 then
                                                      Option.bind
                                                        (evP (Tab.env tab) n 16
                                                          [Tree.agg
                                                              [Tree.str
                                                                  (Tree.toStr
                                                                    (List.headD (Tree.cs (List.headD (Tree.tupl y) (Tree.bool false))) (Tree.bool false))),
                                                                Tree.slc
                                                                  (Tree.elems
                                                                    (List.headD (List.tail (Tree.cs (List.headD (Tree.tupl y) (Tree.bool false))))
                                                                      (Tree.bool false)))],
                                                            Tree.agg
                                                              [Tree.str
                                                                  (Tree.toStr
                                                                    (List.headD (Tree.cs (List.headD (Tree.tupl y_5) (Tree.bool false))) (Tree.bool false))),
                                                                Tree.slc
                                                                  (Tree.elems
                                                                    (List.headD (List.tail (Tree.cs (List.headD (Tree.tupl y_5) (Tree.bool false))))
                                                                      (Tree.bool false)))]])
                                                        fun y =>
                                                        bif Sh.ok Sh.bool y then
                                                          bif Tree.toBool y then
                                                            Option.bind (evP (Tab.env tab) n 13 []) fun y =>
                                                              bif Sh.ok Sh.bool y then some (Tree.bool (Tree.toBool y)) else none
                                                          else some (Tree.bool false)
                                                        else none
                                                    else some (Tree.bool false)
                                                else none
                                            else
                                              bif Tree.toInt (List.headD (List.tail (Tree.tupl y_5)) (Tree.bool false)) == 0 then
                                                Option.bind
                                                  (evP (Tab.env tab) n 16
                                                    [Tree.agg
                                                        [Tree.str
                                                            (Tree.toStr (List.headD (Tree.cs (List.headD (Tree.tupl y) (Tree.bool false))) (Tree.bool false))),
                                                          Tree.slc
                                                            (Tree.elems
                                                              (List.headD (List.tail (Tree.cs (List.headD (Tree.tupl y) (Tree.bool false)))) (Tree.bool false)))],
                                                      Tree.agg
                                                        [Tree.str
                                                            (Tree.toStr (List.headD (Tree.cs (List.headD (Tree.tupl y_5) (Tree.bool false))) (Tree.bool false))),
                                                          Tree.slc
                                                            (Tree.elems
                                                              (List.headD (List.tail (Tree.cs (List.headD (Tree.tupl y_5) (Tree.bool false))))
                                                                (Tree.bool false)))]])
                                                  fun y =>
                                                  bif Sh.ok Sh.bool y then
                                                    bif Tree.toBool y then
                                                      Option.bind (evP (Tab.env tab) n 13 []) fun y =>
                                                        bif Sh.ok Sh.bool y then some (Tree.bool (Tree.toBool y)) else none
                                                    else some (Tree.bool false)
                                                  else none
                                              else some (Tree.bool false)
                                          else none
                                    else none
                          else none
                      else none
                else none
          else none
    else none := by kernel_rfl

theorem e8 (n : Nat) (a0 : List Tree) (a10 : Int) (a11 : Int) (a12 : List UInt8) (a13 : List Tree) (a14 : List Tree) : evQ (Tab.env tab) n 8 [Tree.slc a0, Tree.agg [Tree.int IntKind.i64 a10, Tree.int IntKind.i64 a11, Tree.str a12, Tree.slc a13, Tree.slc a14]] =
    Option.bind (evP (Tab.env tab) n 10 [Tree.slc [Tree.agg [Tree.int IntKind.i64 a10, Tree.int IntKind.i64 a11, Tree.str a12, Tree.slc a13, Tree.slc a14]]])
    fun y =>
    bif Sh.ok Sh.bool y then
      bif Tree.toBool y then some (Tree.bool true)
      else
        bif decide ((↑(List.length a0) : Int) > 110) then some (Tree.bool true)
        else
          Option.bind (evP (Tab.env tab) n 14 [Tree.slc a0, Tree.int IntKind.i64 500]) fun y =>
            bif Sh.ok (Sh.int IntKind.i64) y then
              bif decide (Tree.toInt y > 500) then some (Tree.bool true)
              else
                Option.bind
                  (evP (Tab.env tab) n 15 [Tree.slc a0, Tree.agg [Tree.int IntKind.i64 a10, Tree.int IntKind.i64 a11, Tree.str a12, Tree.slc a13, Tree.slc a14]])
                  fun y =>
                  bif Sh.ok (Sh.tup [Sh.agg [Sh.str, Sh.slc], Sh.int IntKind.i64]) y then
                    Option.bind
                      (evP (Tab.env tab) n 27
                        [Tree.slc a0, Tree.agg [Tree.int IntKind.i64 a10, Tree.int IntKind.i64 a11, Tree.str a12, Tree.slc a13, Tree.slc a14]])
                      fun y_1 =>
                      bif Sh.ok (Sh.tup [Sh.agg [Sh.str, Sh.slc], Sh.int IntKind.i64]) y_1 then
                        Option.bind
                          (evP (Tab.env tab) n 28
                            [Tree.slc a0, Tree.agg [Tree.int IntKind.i64 a10, Tree.int IntKind.i64 a11, Tree.str a12, Tree.slc a13, Tree.slc a14]])
                          fun y_2 =>
                          bif Sh.ok (Sh.tup [Sh.slc, Sh.int IntKind.i64]) y_2 then
                            Option.bind
                              (evP (Tab.env tab) n 29
                                [Tree.slc a0, Tree.agg [Tree.int IntKind.i64 a10, Tree.int IntKind.i64 a11, Tree.str a12, Tree.slc a13, Tree.slc a14]])
                              fun y_3 =>
                              bif Sh.ok (Sh.tup [Sh.slc, Sh.int IntKind.i64]) y_3 then
                                Option.bind
                                  (evP (Tab.env tab) n 30
                                    [Tree.agg [Tree.int IntKind.i64 a10, Tree.int IntKind.i64 a11, Tree.str a12, Tree.slc a13, Tree.slc a14]])
                                  fun y_4 =>
                                  bif Sh.ok Sh.bool y_4 then
                                    Option.bind
                                      (evP (Tab.env tab) n 18
                                        [Tree.agg [Tree.int IntKind.i64 a10, Tree.int IntKind.i64 a11, Tree.str a12, Tree.slc a13, Tree.slc a14]])
                                      fun y_5 =>
                                      bif Sh.ok Sh.bool y_5 then
                                        bif Tree.toBool y_4 == Tree.toBool y_5 then
                                          bif
                                              Tree.toInt (List.headD (List.tail (Tree.tupl y)) (Tree.bool false)) ==
                                                Tree.toInt (List.headD (List.tail (Tree.tupl y_1)) (Tree.bool false)) then
                                            Option.bind
                                              (evP (Tab.env tab) n 16
                                                [Tree.agg
                                                    [Tree.str (Tree.toStr (List.headD (Tree.cs (List.headD (Tree.tupl y) (Tree.bool false))) (Tree.bool false))),
                                                      Tree.slc
                                                        (Tree.elems
                                                          (List.headD (List.tail (Tree.cs (List.headD (Tree.tupl y) (Tree.bool false)))) (Tree.bool false)))],
                                                  Tree.agg
                                                    [Tree.str
                                                        (Tree.toStr (List.headD (Tree.cs (List.headD (Tree.tupl y_1) (Tree.bool false))) (Tree.bool false))),
                                                      Tree.slc
                                                        (Tree.elems
                                                          (List.headD (List.tail (Tree.cs (List.headD (Tree.tupl y_1) (Tree.bool false)))) (Tree.bool false)))]])
                                              fun y =>
                                              bif Sh.ok Sh.bool y then
                                                bif Tree.toBool y then
                                                  bif
                                                      Tree.toInt (List.headD (List.tail (Tree.tupl y_2)) (Tree.bool false)) ==
                                                        Tree.toInt (List.headD (List.tail (Tree.tupl y_3)) (Tree.bool false)) then
                                                    Option.bind
                                                      (evP (Tab.env tab) n 23
                                                        [Tree.slc (Tree.elems (List.headD (Tree.tupl y_2) (Tree.bool false))),
                                                          Tree.slc (Tree.elems (List.headD (Tree.tupl y_3) (Tree.bool false)))])
                                                      fun y =>
                                                      bif Sh.ok Sh.bool y then
                                                        bif Tree.toBool y then
                                                          Option.bind (evP (Tab.env tab) n 13 []) fun y =>
                                                            bif Sh.ok Sh.bool y then some (Tree.bool (Tree.toBool y)) else none
                                                        else some (Tree.bool false)
                                                      else none
                                                  else some (Tree.bool false)
                                                else some (Tree.bool false)
                                              else none
                                          else some (Tree.bool false)
                                        else some (Tree.bool false)
                                      else none
                                  else none
                              else none
                          else none
                      else none
                  else none
            else none
    else none := by kernel_rfl

theorem e9 (n : Nat) (a00 : Int) (a01 : Int) (a02 : List UInt8) (a03 : List Tree) (a04 : List Tree) (a10 : Int) (a11 : Int) (a12 : List UInt8) (a13 : List Tree) (a14 : List Tree) (a2 : Int) (a3 : Int) : evQ (Tab.env tab) n 9 [Tree.agg [Tree.int IntKind.i64 a00, Tree.int IntKind.i64 a01, Tree.str a02, Tree.slc a03, Tree.slc a04], Tree.agg [Tree.int IntKind.i64 a10, Tree.int IntKind.i64 a11, Tree.str a12, Tree.slc a13, Tree.slc a14], Tree.int IntKind.i64 a2, Tree.int IntKind.i64 a3] =
    Option.bind
    (evP (Tab.env tab) n 10
      [Tree.slc
          [Tree.agg [Tree.int IntKind.i64 a00, Tree.int IntKind.i64 a01, Tree.str a02, Tree.slc a03, Tree.slc a04],
            Tree.agg [Tree.int IntKind.i64 a10, Tree.int IntKind.i64 a11, Tree.str a12, Tree.slc a13, Tree.slc a14]]])
    fun y =>
    bif Sh.ok Sh.bool y then
      bif Tree.toBool y then some (Tree.bool true)
      else
        Option.bind (evP (Tab.env tab) n 19 [Tree.agg [Tree.int IntKind.i64 a00, Tree.int IntKind.i64 a01, Tree.str a02, Tree.slc a03, Tree.slc a04]]) fun y =>
          bif Sh.ok Sh.bool y then
            bif !Tree.toBool y then some (Tree.bool true)
            else
              Option.bind (evP (Tab.env tab) n 19 [Tree.agg [Tree.int IntKind.i64 a10, Tree.int IntKind.i64 a11, Tree.str a12, Tree.slc a13, Tree.slc a14]])
                fun y =>
                bif Sh.ok Sh.bool y then
                  bif !Tree.toBool y then some (Tree.bool true)
                  else
                    bif decide (a3 < -1000000) then some (Tree.bool true)
                    else
                      bif decide (a3 > 1000000) then some (Tree.bool true)
                      else
                        bif decide (a2 < -4611686018427387904) then some (Tree.bool true)
                        else
                          bif decide (a2 > 4611686018427387904) then some (Tree.bool true)
                          else
                            Option.bind
                              (evP (Tab.env tab) n 31
                                [Tree.agg [Tree.int IntKind.i64 a00, Tree.int IntKind.i64 a01, Tree.str a02, Tree.slc a03, Tree.slc a04], Tree.int IntKind.i64 a3,
                                  Tree.int IntKind.i64 a2])
                              fun y =>
                              bif Sh.ok (Sh.agg [Sh.int IntKind.i64, Sh.int IntKind.i64, Sh.str, Sh.slc, Sh.slc]) y then
                                Option.bind
                                  (evP (Tab.env tab) n 32
                                    [Tree.agg [Tree.int IntKind.i64 a00, Tree.int IntKind.i64 a01, Tree.str a02, Tree.slc a03, Tree.slc a04],
                                      Tree.int IntKind.i64 a3, Tree.int IntKind.i64 a2])
                                  fun y_1 =>
                                  bif Sh.ok (Sh.agg [Sh.int IntKind.i64, Sh.int IntKind.i64, Sh.str, Sh.slc, Sh.slc]) y_1 then
                                    Option.bind
                                      (evP (Tab.env tab) n 22
                                        [Tree.agg
                                            [Tree.int IntKind.i64 (Tree.toInt (List.headD (Tree.cs y) (Tree.bool false))),
                                              Tree.int IntKind.i64 (Tree.toInt (List.headD (List.tail (Tree.cs y)) (Tree.bool false))),
                                              Tree.str (Tree.toStr (List.headD (List.tail (List.tail (Tree.cs y))) (Tree.bool false))),
                                              Tree.slc (Tree.elems (List.headD (List.tail (List.tail (List.tail (Tree.cs y)))) (Tree.bool false))),
                                              Tree.slc (Tree.elems (List.headD (List.tail (List.tail (List.tail (List.tail (Tree.cs y))))) (Tree.bool false)))],
                                          Tree.agg
                                            [Tree.int IntKind.i64 (Tree.toInt (List.headD (Tree.cs y_1) (Tree.bool false))),
                                              Tree.int IntKind.i64 (Tree.toInt (List.headD (List.tail (Tree.cs y_1)) (Tree.bool false))),
                                              Tree.str (Tree.toStr (List.headD (List.tail (List.tail (Tree.cs y_1))) (Tree.bool false))),
                                              Tree.slc (Tree.elems (List.headD (List.tail (List.tail (List.tail (Tree.cs y_1)))) (Tree.bool false))),
                                              Tree.slc
                                                (Tree.elems (List.headD (List.tail (List.tail (List.tail (List.tail (Tree.cs y_1))))) (Tree.bool false)))]])
                                      fun y =>
                                      bif Sh.ok Sh.bool y then
                                        bif Tree.toBool y then
                                          Option.bind
                                            (evP (Tab.env tab) n 17
                                              [Tree.agg [Tree.int IntKind.i64 a00, Tree.int IntKind.i64 a01, Tree.str a02, Tree.slc a03, Tree.slc a04],
                                                Tree.int IntKind.i64 a2,
                                                Tree.agg [Tree.int IntKind.i64 a10, Tree.int IntKind.i64 a11, Tree.str a12, Tree.slc a13, Tree.slc a14]])
                                            fun y =>
                                            bif Sh.ok (Sh.agg [Sh.int IntKind.i64, Sh.int IntKind.i64, Sh.str, Sh.slc, Sh.slc]) y then
                                              Option.bind
                                                (evP (Tab.env tab) n 33
                                                  [Tree.agg [Tree.int IntKind.i64 a00, Tree.int IntKind.i64 a01, Tree.str a02, Tree.slc a03, Tree.slc a04],
                                                    Tree.int IntKind.i64 a2,
                                                    Tree.agg [Tree.int IntKind.i64 a10, Tree.int IntKind.i64 a11, Tree.str a12, Tree.slc a13, Tree.slc a14]])
                                                fun y_2 =>
                                                bif Sh.ok (Sh.agg [Sh.int IntKind.i64, Sh.int IntKind.i64, Sh.str, Sh.slc, Sh.slc]) y_2 then
                                                  Option.bind
                                                    (evP (Tab.env tab) n 22
                                                      [Tree.agg
                                                          [Tree.int IntKind.i64 (Tree.toInt (List.headD (Tree.cs y) (Tree.bool false))),
                                                            Tree.int IntKind.i64 (Tree.toInt (List.headD (List.tail (Tree.cs y)) (Tree.bool false))),
                                                            Tree.str (Tree.toStr (List.headD (List.tail (List.tail (Tree.cs y))) (Tree.bool false))),
                                                            Tree.slc (Tree.elems (List.headD (List.tail (List.tail (List.tail (Tree.cs y)))) (Tree.bool false))),
                                                            Tree.slc
                                                              (Tree.elems
                                                                (List.headD (List.tail (List.tail (List.tail (List.tail (Tree.cs y))))) (Tree.bool false)))],
                                                        Tree.agg
                                                          [Tree.int IntKind.i64 (Tree.toInt (List.headD (Tree.cs y_2) (Tree.bool false))),
                                                            Tree.int IntKind.i64 (Tree.toInt (List.headD (List.tail (Tree.cs y_2)) (Tree.bool false))),
                                                            Tree.str (Tree.toStr (List.headD (List.tail (List.tail (Tree.cs y_2))) (Tree.bool false))),
                                                            Tree.slc
                                                              (Tree.elems (List.headD (List.tail (List.tail (List.tail (Tree.cs y_2)))) (Tree.bool false))),
                                                            Tree.slc
                                                              (Tree.elems
                                                                (List.headD (List.tail (List.tail (List.tail (List.tail (Tree.cs y_2))))) (Tree.bool false)))]])
                                                    fun y =>
                                                    bif Sh.ok Sh.bool y then
                                                      bif Tree.toBool y then
                                                        Option.bind
                                                          (evP (Tab.env tab) n 34
                                                            [Tree.agg
                                                                [Tree.int IntKind.i64 a00, Tree.int IntKind.i64 a01, Tree.str a02, Tree.slc a03, Tree.slc a04]])
                                                          fun y =>
                                                          bif Sh.ok (Sh.agg [Sh.int IntKind.i64, Sh.int IntKind.i64, Sh.str, Sh.slc, Sh.slc]) y then
                                                            Option.bind
                                                              (evP (Tab.env tab) n 35
                                                                [Tree.agg
                                                                    [Tree.int IntKind.i64 a00, Tree.int IntKind.i64 a01, Tree.str a02, Tree.slc a03,
                                                                      Tree.slc a04]])
                                                              fun y_3 =>
                                                              bif Sh.ok (Sh.agg [Sh.int IntKind.i64, Sh.int IntKind.i64, Sh.str, Sh.slc, Sh.slc]) y_3 then
                                                                Option.bind
                                                                  (evP (Tab.env tab) n 22
                                                                    [Tree.agg
                                                                        [Tree.int IntKind.i64 (Tree.toInt (List.headD (Tree.cs y) (Tree.bool false))),
                                                                          Tree.int IntKind.i64
                                                                            (Tree.toInt (List.headD (List.tail (Tree.cs y)) (Tree.bool false))),
                                                                          Tree.str
                                                                            (Tree.toStr (List.headD (List.tail (List.tail (Tree.cs y))) (Tree.bool false))),
                                                                          Tree.slc
                                                                            (Tree.elems
                                                                              (List.headD (List.tail (List.tail (List.tail (Tree.cs y)))) (Tree.bool false))),
                                                                          Tree.slc
                                                                            (Tree.elems
                                                                              (List.headD (List.tail (List.tail (List.tail (List.tail (Tree.cs y)))))
                                                                                (Tree.bool false)))],
                                                                      Tree.agg
                                                                        [Tree.int IntKind.i64 (Tree.toInt (List.headD (Tree.cs y_3) (Tree.bool false))),
                                                                          Tree.int IntKind.i64
                                                                            (Tree.toInt (List.headD (List.tail (Tree.cs y_3)) (Tree.bool false))),
                                                                          Tree.str
                                                                            (Tree.toStr (List.headD (List.tail (List.tail (Tree.cs y_3))) (Tree.bool false))),
                                                                          Tree.slc
                                                                            (Tree.elems
                                                                              (List.headD (List.tail (List.tail (List.tail (Tree.cs y_3)))) (Tree.bool false))),
                                                                          Tree.slc
                                                                            (Tree.elems
                                                                              (List.headD (List.tail (List.tail (List.tail (List.tail (Tree.cs y_3)))))
                                                                                (Tree.bool false)))]])
                                                                  fun y =>
                                                                  bif Sh.ok Sh.bool y then
                                                                    bif Tree.toBool y then
                                                                      Option.bind
                                                                        (evP (Tab.env tab) n 36
                                                                          [Tree.agg
                                                                              [Tree.int IntKind.i64 a00, Tree.int IntKind.i64 a01, Tree.str a02, Tree.slc a03,
                                                                                Tree.slc a04],
                                                                            Tree.agg
                                                                              [Tree.int IntKind.i64 a10, Tree.int IntKind.i64 a11, Tree.str a12, Tree.slc a13,
                                                                                Tree.slc a14]])
                                                                        fun y =>
                                                                        bif Sh.ok Sh.bool y then
                                                                          Option.bind
                                                                            (evP (Tab.env tab) n 22
                                                                              [Tree.agg
                                                                                  [Tree.int IntKind.i64 a00, Tree.int IntKind.i64 a01, Tree.str a02, Tree.slc a03,
                                                                                    Tree.slc a04],
                                                                                Tree.agg
                                                                                  [Tree.int IntKind.i64 a10, Tree.int IntKind.i64 a11, Tree.str a12, Tree.slc a13,
                                                                                    Tree.slc a14]])
                                                                            fun y_4 =>
                                                                            bif Sh.ok Sh.bool y_4 then
                                                                              bif Tree.toBool y == Tree.toBool y_4 then
                                                                                Option.bind (evP (Tab.env tab) n 13 []) fun y =>
                                                                                  bif Sh.ok Sh.bool y then some (Tree.bool (Tree.toBool y)) else none
                                                                              else some (Tree.bool false)
                                                                            else none
                                                                        else none
                                                                    else some (Tree.bool false)
                                                                  else none
                                                              else none
                                                          else none
                                                      else some (Tree.bool false)
                                                    else none
                                                else none
                                            else none
                                        else some (Tree.bool false)
                                      else none
                                  else none
                              else none
                else none
          else none
    else none := by kernel_rfl

end Go.Proofs.Aw.Sa
