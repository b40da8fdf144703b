/-
  EQUATIONS of the reckoned code: printed by program.
-/
import Derived.Test.YtfkidinbolmkiaaQaTab
import Derived.Test.YtfkidinbolmkiaaAw4
set_option maxRecDepth 100000
namespace Go.Proofs.Aw.Qa
open Go.Proofs

theorem e3 (n : Nat) (a00 : Int) (a01 : Int) (a10 : Int) (a11 : Int) (a20 : Int) (a21 : Int) : evQ (Tab.env tab) n 3 [Tree.agg [Tree.int IntKind.u32 a00, Tree.int IntKind.u32 a01], Tree.agg [Tree.int IntKind.u32 a10, Tree.int IntKind.u32 a11], Tree.agg [Tree.int IntKind.u32 a20, Tree.int IntKind.u32 a21]] =
  Option.bind
  (evP (Tab.env tab) n 10
    [Tree.agg [Tree.int IntKind.i64 (IntKind.wrap IntKind.i64 (Int.tmod a00 1000000)), Tree.int IntKind.i64 (IntKind.wrap IntKind.i64 (Int.tmod a01 1000000))],
      Tree.agg
        [Tree.int IntKind.i64 (IntKind.wrap IntKind.i64 (Int.tmod a10 1000000)), Tree.int IntKind.i64 (IntKind.wrap IntKind.i64 (Int.tmod a11 1000000))]])
  fun y =>
  bif Sh.ok (Sh.tup [Sh.agg [Sh.int IntKind.i64, Sh.int IntKind.i64], Sh.int IntKind.i64]) y then
    Option.bind
      (evP (Tab.env tab) n 10
        [Tree.agg
            [Tree.int IntKind.i64 (IntKind.wrap IntKind.i64 (Int.tmod a10 1000000)), Tree.int IntKind.i64 (IntKind.wrap IntKind.i64 (Int.tmod a11 1000000))],
          Tree.agg
            [Tree.int IntKind.i64 (IntKind.wrap IntKind.i64 (Int.tmod a00 1000000)), Tree.int IntKind.i64 (IntKind.wrap IntKind.i64 (Int.tmod a01 1000000))]])
      fun y_1 =>
      bif Sh.ok (Sh.tup [Sh.agg [Sh.int IntKind.i64, Sh.int IntKind.i64], Sh.int IntKind.i64]) y_1 then
        Option.bind
          (evP (Tab.env tab) n 10
            [Tree.agg
                [Tree.int IntKind.i64 (IntKind.wrap IntKind.i64 (Int.tmod a10 1000000)),
                  Tree.int IntKind.i64 (IntKind.wrap IntKind.i64 (Int.tmod a11 1000000))],
              Tree.agg
                [Tree.int IntKind.i64 (IntKind.wrap IntKind.i64 (Int.tmod a20 1000)), Tree.int IntKind.i64 (IntKind.wrap IntKind.i64 (Int.tmod a21 1000))]])
          fun y_2 =>
          bif Sh.ok (Sh.tup [Sh.agg [Sh.int IntKind.i64, Sh.int IntKind.i64], Sh.int IntKind.i64]) y_2 then
            Option.bind
              (evP (Tab.env tab) n 10
                [Tree.agg
                    [Tree.int IntKind.i64 (Tree.toInt (List.headD (Tree.cs (List.headD (Tree.tupl y) (Tree.bool false))) (Tree.bool false))),
                      Tree.int IntKind.i64 (Tree.toInt (List.headD (List.tail (Tree.cs (List.headD (Tree.tupl y) (Tree.bool false)))) (Tree.bool false)))],
                  Tree.agg
                    [Tree.int IntKind.i64 (IntKind.wrap IntKind.i64 (Int.tmod a20 1000)), Tree.int IntKind.i64 (IntKind.wrap IntKind.i64 (Int.tmod a21 1000))]])
              fun y_3 =>
              bif Sh.ok (Sh.tup [Sh.agg [Sh.int IntKind.i64, Sh.int IntKind.i64], Sh.int IntKind.i64]) y_3 then
                Option.bind
                  (evP (Tab.env tab) n 10
                    [Tree.agg
                        [Tree.int IntKind.i64 (IntKind.wrap IntKind.i64 (Int.tmod a00 1000000)),
                          Tree.int IntKind.i64 (IntKind.wrap IntKind.i64 (Int.tmod a01 1000000))],
                      Tree.agg
                        [Tree.int IntKind.i64 (Tree.toInt (List.headD (Tree.cs (List.headD (Tree.tupl y_2) (Tree.bool false))) (Tree.bool false))),
                          Tree.int IntKind.i64
                            (Tree.toInt (List.headD (List.tail (Tree.cs (List.headD (Tree.tupl y_2) (Tree.bool false)))) (Tree.bool false)))]])
                  fun y_4 =>
                  bif Sh.ok (Sh.tup [Sh.agg [Sh.int IntKind.i64, Sh.int IntKind.i64], Sh.int IntKind.i64]) y_4 then
                    bif Tree.toInt (List.headD (List.tail (Tree.tupl y)) (Tree.bool false)) != 0 then some (Tree.bool false)
                    else
                      bif Tree.toInt (List.headD (List.tail (Tree.tupl y_1)) (Tree.bool false)) != 0 then some (Tree.bool false)
                      else
                        bif Tree.toInt (List.headD (List.tail (Tree.tupl y_2)) (Tree.bool false)) != 0 then some (Tree.bool false)
                        else
                          bif Tree.toInt (List.headD (List.tail (Tree.tupl y_3)) (Tree.bool false)) != 0 then some (Tree.bool false)
                          else
                            bif Tree.toInt (List.headD (List.tail (Tree.tupl y_4)) (Tree.bool false)) != 0 then some (Tree.bool false)
                            else
                              bif
                                  !(Tree.toInt (List.headD (Tree.cs (List.headD (Tree.tupl y) (Tree.bool false))) (Tree.bool false)) ==
                                        Tree.toInt (List.headD (Tree.cs (List.headD (Tree.tupl y_1) (Tree.bool false))) (Tree.bool false)) &&
                                      (Tree.toInt (List.headD (List.tail (Tree.cs (List.headD (Tree.tupl y) (Tree.bool false)))) (Tree.bool false)) ==
                                          Tree.toInt (List.headD (List.tail (Tree.cs (List.headD (Tree.tupl y_1) (Tree.bool false)))) (Tree.bool false)) &&
                                        true)) then
                                some (Tree.bool false)
                              else
                                bif
                                    !(Tree.toInt (List.headD (Tree.cs (List.headD (Tree.tupl y_3) (Tree.bool false))) (Tree.bool false)) ==
                                          Tree.toInt (List.headD (Tree.cs (List.headD (Tree.tupl y_4) (Tree.bool false))) (Tree.bool false)) &&
                                        (Tree.toInt (List.headD (List.tail (Tree.cs (List.headD (Tree.tupl y_3) (Tree.bool false)))) (Tree.bool false)) ==
                                            Tree.toInt (List.headD (List.tail (Tree.cs (List.headD (Tree.tupl y_4) (Tree.bool false)))) (Tree.bool false)) &&
                                          true)) then
                                  some (Tree.bool false)
                                else
                                  Option.bind
                                    (evP (Tab.env tab) n 11
                                      [Tree.agg
                                          [Tree.int IntKind.i64 (IntKind.wrap IntKind.i64 (Int.tmod a00 1000000)),
                                            Tree.int IntKind.i64 (IntKind.wrap IntKind.i64 (Int.tmod a01 1000000))]])
                                    fun y_5 =>
                                    bif Sh.ok (Sh.tup [Sh.agg [Sh.int IntKind.i64, Sh.int IntKind.i64], Sh.int IntKind.i64]) y_5 then
                                      Option.bind
                                        (evP (Tab.env tab) n 10
                                          [Tree.agg
                                              [Tree.int IntKind.i64 (IntKind.wrap IntKind.i64 (Int.tmod a00 1000000)),
                                                Tree.int IntKind.i64 (IntKind.wrap IntKind.i64 (Int.tmod a01 1000000))],
                                            Tree.agg
                                              [Tree.int IntKind.i64
                                                  (Tree.toInt (List.headD (Tree.cs (List.headD (Tree.tupl y_5) (Tree.bool false))) (Tree.bool false))),
                                                Tree.int IntKind.i64
                                                  (Tree.toInt
                                                    (List.headD (List.tail (Tree.cs (List.headD (Tree.tupl y_5) (Tree.bool false)))) (Tree.bool false)))]])
                                        fun y_6 =>
                                        bif Sh.ok (Sh.tup [Sh.agg [Sh.int IntKind.i64, Sh.int IntKind.i64], Sh.int IntKind.i64]) y_6 then
                                          Option.bind
                                            (evP (Tab.env tab) n 12
                                              [Tree.agg
                                                  [Tree.int IntKind.i64 (IntKind.wrap IntKind.i64 (Int.tmod a00 1000000)),
                                                    Tree.int IntKind.i64 (IntKind.wrap IntKind.i64 (Int.tmod a01 1000000))],
                                                Tree.agg
                                                  [Tree.int IntKind.i64 (IntKind.wrap IntKind.i64 (Int.tmod a10 1000000)),
                                                    Tree.int IntKind.i64 (IntKind.wrap IntKind.i64 (Int.tmod a11 1000000))]])
                                            fun y_7 =>
                                            bif Sh.ok (Sh.tup [Sh.agg [Sh.int IntKind.i64, Sh.int IntKind.i64], Sh.int IntKind.i64]) y_7 then
                                              Option.bind
                                                (evP (Tab.env tab) n 12
                                                  [Tree.agg
                                                      [Tree.int IntKind.i64 (IntKind.wrap IntKind.i64 (Int.tmod a10 1000000)),
                                                        Tree.int IntKind.i64 (IntKind.wrap IntKind.i64 (Int.tmod a11 1000000))],
                                                    Tree.agg
                                                      [Tree.int IntKind.i64 (IntKind.wrap IntKind.i64 (Int.tmod a00 1000000)),
                                                        Tree.int IntKind.i64 (IntKind.wrap IntKind.i64 (Int.tmod a01 1000000))]])
                                                fun y_8 =>
                                                bif Sh.ok (Sh.tup [Sh.agg [Sh.int IntKind.i64, Sh.int IntKind.i64], Sh.int IntKind.i64]) y_8 then
                                                  bif
                                                      !(Tree.toInt (List.headD (Tree.cs (List.headD (Tree.tupl y_6) (Tree.bool false))) (Tree.bool false)) ==
                                                            0 &&
                                                          (Tree.toInt
                                                                (List.headD (List.tail (Tree.cs (List.headD (Tree.tupl y_6) (Tree.bool false))))
                                                                  (Tree.bool false)) ==
                                                              0 &&
                                                            true)) then
                                                    some (Tree.bool false)
                                                  else
                                                    bif
                                                        !(Tree.toInt (List.headD (Tree.cs (List.headD (Tree.tupl y_7) (Tree.bool false))) (Tree.bool false)) ==
                                                              Tree.toInt
                                                                (List.headD (Tree.cs (List.headD (Tree.tupl y_8) (Tree.bool false))) (Tree.bool false)) &&
                                                            (Tree.toInt
                                                                  (List.headD (List.tail (Tree.cs (List.headD (Tree.tupl y_7) (Tree.bool false))))
                                                                    (Tree.bool false)) ==
                                                                Tree.toInt
                                                                  (List.headD (List.tail (Tree.cs (List.headD (Tree.tupl y_8) (Tree.bool false))))
                                                                    (Tree.bool false)) &&
                                                              true)) then
                                                      some (Tree.bool false)
                                                    else
                                                      bif
                                                          Tree.toInt (List.headD (List.tail (Tree.tupl y_7)) (Tree.bool false)) !=
                                                            Tree.toInt (List.headD (List.tail (Tree.tupl y_8)) (Tree.bool false)) then
                                                        some (Tree.bool false)
                                                      else
                                                        Option.bind
                                                          (evP (Tab.env tab) n 12
                                                            [Tree.agg
                                                                [Tree.int IntKind.i64 (IntKind.wrap IntKind.i64 (Int.tmod a00 1000000)),
                                                                  Tree.int IntKind.i64 (IntKind.wrap IntKind.i64 (Int.tmod a01 1000000))],
                                                              Tree.agg
                                                                [Tree.int IntKind.i64 (IntKind.wrap IntKind.i64 (Int.tmod a20 1000)),
                                                                  Tree.int IntKind.i64 (IntKind.wrap IntKind.i64 (Int.tmod a21 1000))]])
                                                          fun y_9 =>
                                                          bif Sh.ok (Sh.tup [Sh.agg [Sh.int IntKind.i64, Sh.int IntKind.i64], Sh.int IntKind.i64]) y_9 then
                                                            Option.bind
                                                              (evP (Tab.env tab) n 12
                                                                [Tree.agg
                                                                    [Tree.int IntKind.i64 (IntKind.wrap IntKind.i64 (Int.tmod a10 1000000)),
                                                                      Tree.int IntKind.i64 (IntKind.wrap IntKind.i64 (Int.tmod a11 1000000))],
                                                                  Tree.agg
                                                                    [Tree.int IntKind.i64 (IntKind.wrap IntKind.i64 (Int.tmod a20 1000)),
                                                                      Tree.int IntKind.i64 (IntKind.wrap IntKind.i64 (Int.tmod a21 1000))]])
                                                              fun y_10 =>
                                                              bif Sh.ok (Sh.tup [Sh.agg [Sh.int IntKind.i64, Sh.int IntKind.i64], Sh.int IntKind.i64]) y_10 then
                                                                Option.bind
                                                                  (evP (Tab.env tab) n 10
                                                                    [Tree.agg
                                                                        [Tree.int IntKind.i64
                                                                            (Tree.toInt
                                                                              (List.headD (Tree.cs (List.headD (Tree.tupl y_9) (Tree.bool false)))
                                                                                (Tree.bool false))),
                                                                          Tree.int IntKind.i64
                                                                            (Tree.toInt
                                                                              (List.headD (List.tail (Tree.cs (List.headD (Tree.tupl y_9) (Tree.bool false))))
                                                                                (Tree.bool false)))],
                                                                      Tree.agg
                                                                        [Tree.int IntKind.i64
                                                                            (Tree.toInt
                                                                              (List.headD (Tree.cs (List.headD (Tree.tupl y_10) (Tree.bool false)))
                                                                                (Tree.bool false))),
                                                                          Tree.int IntKind.i64
                                                                            (Tree.toInt
                                                                              (List.headD (List.tail (Tree.cs (List.headD (Tree.tupl y_10) (Tree.bool false))))
                                                                                (Tree.bool false)))]])
                                                                  fun y_11 =>
                                                                  bif
                                                                      Sh.ok (Sh.tup [Sh.agg [Sh.int IntKind.i64, Sh.int IntKind.i64], Sh.int IntKind.i64])
                                                                        y_11 then
                                                                    Option.bind
                                                                      (evP (Tab.env tab) n 12
                                                                        [Tree.agg
                                                                            [Tree.int IntKind.i64
                                                                                (Tree.toInt
                                                                                  (List.headD (Tree.cs (List.headD (Tree.tupl y) (Tree.bool false)))
                                                                                    (Tree.bool false))),
                                                                              Tree.int IntKind.i64
                                                                                (Tree.toInt
                                                                                  (List.headD (List.tail (Tree.cs (List.headD (Tree.tupl y) (Tree.bool false))))
                                                                                    (Tree.bool false)))],
                                                                          Tree.agg
                                                                            [Tree.int IntKind.i64 (IntKind.wrap IntKind.i64 (Int.tmod a20 1000)),
                                                                              Tree.int IntKind.i64 (IntKind.wrap IntKind.i64 (Int.tmod a21 1000))]])
                                                                      fun y =>
                                                                      bif
                                                                          Sh.ok (Sh.tup [Sh.agg [Sh.int IntKind.i64, Sh.int IntKind.i64], Sh.int IntKind.i64])
                                                                            y then
                                                                        bif Tree.toInt (List.headD (List.tail (Tree.tupl y_9)) (Tree.bool false)) != 0 then
                                                                          some (Tree.bool false)
                                                                        else
                                                                          bif Tree.toInt (List.headD (List.tail (Tree.tupl y_10)) (Tree.bool false)) != 0 then
                                                                            some (Tree.bool false)
                                                                          else
                                                                            bif Tree.toInt (List.headD (List.tail (Tree.tupl y_11)) (Tree.bool false)) != 0 then
                                                                              some (Tree.bool false)
                                                                            else
                                                                              bif Tree.toInt (List.headD (List.tail (Tree.tupl y)) (Tree.bool false)) != 0 then
                                                                                some (Tree.bool false)
                                                                              else
                                                                                bif
                                                                                    !(Tree.toInt
                                                                                            (List.headD
                                                                                              (Tree.cs (List.headD (Tree.tupl y_11) (Tree.bool false)))
                                                                                              (Tree.bool false)) ==
                                                                                          Tree.toInt
                                                                                            (List.headD (Tree.cs (List.headD (Tree.tupl y) (Tree.bool false)))
                                                                                              (Tree.bool false)) &&
                                                                                        (Tree.toInt
                                                                                              (List.headD
                                                                                                (List.tail
                                                                                                  (Tree.cs (List.headD (Tree.tupl y_11) (Tree.bool false))))
                                                                                                (Tree.bool false)) ==
                                                                                            Tree.toInt
                                                                                              (List.headD
                                                                                                (List.tail
                                                                                                  (Tree.cs (List.headD (Tree.tupl y) (Tree.bool false))))
                                                                                                (Tree.bool false)) &&
                                                                                          true)) then
                                                                                  some (Tree.bool false)
                                                                                else
                                                                                  Option.bind
                                                                                    (evP (Tab.env tab) n 13
                                                                                      [Tree.agg
                                                                                          [Tree.int IntKind.i64
                                                                                              (IntKind.wrap IntKind.i64 (Int.tmod a00 1000000)),
                                                                                            Tree.int IntKind.i64
                                                                                              (IntKind.wrap IntKind.i64 (Int.tmod a01 1000000))],
                                                                                        Tree.agg
                                                                                          [Tree.int IntKind.i64
                                                                                              (IntKind.wrap IntKind.i64 (Int.tmod a10 1000000)),
                                                                                            Tree.int IntKind.i64
                                                                                              (IntKind.wrap IntKind.i64 (Int.tmod a11 1000000))]])
                                                                                    fun y =>
                                                                                    bif Sh.ok (Sh.tup [Sh.bool, Sh.int IntKind.i64]) y then
                                                                                      Option.bind
                                                                                        (evP (Tab.env tab) n 13
                                                                                          [Tree.agg
                                                                                              [Tree.int IntKind.i64
                                                                                                  (IntKind.wrap IntKind.i64 (Int.tmod a10 1000000)),
                                                                                                Tree.int IntKind.i64
                                                                                                  (IntKind.wrap IntKind.i64 (Int.tmod a11 1000000))],
                                                                                            Tree.agg
                                                                                              [Tree.int IntKind.i64
                                                                                                  (IntKind.wrap IntKind.i64 (Int.tmod a00 1000000)),
                                                                                                Tree.int IntKind.i64
                                                                                                  (IntKind.wrap IntKind.i64 (Int.tmod a01 1000000))]])
                                                                                        fun y_12 =>
                                                                                        bif Sh.ok (Sh.tup [Sh.bool, Sh.int IntKind.i64]) y_12 then
                                                                                          Option.bind
                                                                                            (evP (Tab.env tab) n 14
                                                                                              [Tree.agg
                                                                                                  [Tree.int IntKind.i64
                                                                                                      (IntKind.wrap IntKind.i64 (Int.tmod a00 1000000)),
                                                                                                    Tree.int IntKind.i64
                                                                                                      (IntKind.wrap IntKind.i64 (Int.tmod a01 1000000))],
                                                                                                Tree.agg
                                                                                                  [Tree.int IntKind.i64
                                                                                                      (IntKind.wrap IntKind.i64 (Int.tmod a10 1000000)),
                                                                                                    Tree.int IntKind.i64
                                                                                                      (IntKind.wrap IntKind.i64 (Int.tmod a11 1000000))]])
                                                                                            fun y_13 =>
                                                                                            bif Sh.ok (Sh.tup [Sh.bool, Sh.int IntKind.i64]) y_13 then
                                                                                              Option.bind
                                                                                                (evP (Tab.env tab) n 10
                                                                                                  [Tree.agg
                                                                                                      [Tree.int IntKind.i64
                                                                                                          (IntKind.wrap IntKind.i64 (Int.tmod a00 1000000)),
                                                                                                        Tree.int IntKind.i64
                                                                                                          (IntKind.wrap IntKind.i64 (Int.tmod a01 1000000))],
                                                                                                    Tree.agg
                                                                                                      [Tree.int IntKind.i64
                                                                                                          (IntKind.wrap IntKind.i64 (Int.tmod a20 1000)),
                                                                                                        Tree.int IntKind.i64
                                                                                                          (IntKind.wrap IntKind.i64 (Int.tmod a21 1000))]])
                                                                                                fun y_14 =>
                                                                                                bif
                                                                                                    Sh.ok
                                                                                                      (Sh.tup
                                                                                                        [Sh.agg [Sh.int IntKind.i64, Sh.int IntKind.i64],
                                                                                                          Sh.int IntKind.i64])
                                                                                                      y_14 then
                                                                                                  Option.bind
                                                                                                    (evP (Tab.env tab) n 13
                                                                                                      [Tree.agg
                                                                                                          [Tree.int IntKind.i64
                                                                                                              (Tree.toInt
                                                                                                                (List.headD
                                                                                                                  (Tree.cs
                                                                                                                    (List.headD (Tree.tupl y_14)
                                                                                                                      (Tree.bool false)))
                                                                                                                  (Tree.bool false))),
                                                                                                            Tree.int IntKind.i64
                                                                                                              (Tree.toInt
                                                                                                                (List.headD
                                                                                                                  (List.tail
                                                                                                                    (Tree.cs
                                                                                                                      (List.headD (Tree.tupl y_14)
                                                                                                                        (Tree.bool false))))
                                                                                                                  (Tree.bool false)))],
                                                                                                        Tree.agg
                                                                                                          [Tree.int IntKind.i64
                                                                                                              (Tree.toInt
                                                                                                                (List.headD
                                                                                                                  (Tree.cs
                                                                                                                    (List.headD (Tree.tupl y_2)
                                                                                                                      (Tree.bool false)))
                                                                                                                  (Tree.bool false))),
                                                                                                            Tree.int IntKind.i64
                                                                                                              (Tree.toInt
                                                                                                                (List.headD
                                                                                                                  (List.tail
                                                                                                                    (Tree.cs
                                                                                                                      (List.headD (Tree.tupl y_2)
                                                                                                                        (Tree.bool false))))
                                                                                                                  (Tree.bool false)))]])
                                                                                                    fun y_15 =>
                                                                                                    bif Sh.ok (Sh.tup [Sh.bool, Sh.int IntKind.i64]) y_15 then
                                                                                                      bif
                                                                                                          Tree.toBool
                                                                                                            (List.headD (Tree.tupl y) (Tree.bool false)) then
                                                                                                        bif
                                                                                                            Tree.toBool
                                                                                                              (List.headD (Tree.tupl y) (Tree.bool false)) then
                                                                                                          bif
                                                                                                              Tree.toBool
                                                                                                                  (List.headD (Tree.tupl y_12)
                                                                                                                    (Tree.bool false)) ==
                                                                                                                Tree.toBool
                                                                                                                  (List.headD (Tree.tupl y_13)
                                                                                                                    (Tree.bool false)) then
                                                                                                            bif
                                                                                                                Tree.toBool
                                                                                                                    (List.headD (Tree.tupl y_15)
                                                                                                                      (Tree.bool false)) ==
                                                                                                                  Tree.toBool
                                                                                                                    (List.headD (Tree.tupl y)
                                                                                                                      (Tree.bool false)) then
                                                                                                              Option.bind (evP (Tab.env tab) n 15 []) fun y =>
                                                                                                                bif Sh.ok Sh.bool y then
                                                                                                                  some (Tree.bool (Tree.toBool y))
                                                                                                                else none
                                                                                                            else some (Tree.bool false)
                                                                                                          else some (Tree.bool false)
                                                                                                        else
                                                                                                          bif
                                                                                                              false ==
                                                                                                                Tree.toBool
                                                                                                                  (List.headD (Tree.tupl y_13)
                                                                                                                    (Tree.bool false)) then
                                                                                                            bif
                                                                                                                Tree.toBool
                                                                                                                    (List.headD (Tree.tupl y_15)
                                                                                                                      (Tree.bool false)) ==
                                                                                                                  Tree.toBool
                                                                                                                    (List.headD (Tree.tupl y)
                                                                                                                      (Tree.bool false)) then
                                                                                                              Option.bind (evP (Tab.env tab) n 15 []) fun y =>
                                                                                                                bif Sh.ok Sh.bool y then
                                                                                                                  some (Tree.bool (Tree.toBool y))
                                                                                                                else none
                                                                                                            else some (Tree.bool false)
                                                                                                          else some (Tree.bool false)
                                                                                                      else
                                                                                                        bif
                                                                                                            Tree.toBool
                                                                                                              (List.headD (Tree.tupl y_12)
                                                                                                                (Tree.bool false)) then
                                                                                                          bif
                                                                                                              Tree.toBool
                                                                                                                (List.headD (Tree.tupl y)
                                                                                                                  (Tree.bool false)) then
                                                                                                            bif
                                                                                                                Tree.toBool
                                                                                                                    (List.headD (Tree.tupl y_12)
                                                                                                                      (Tree.bool false)) ==
                                                                                                                  Tree.toBool
                                                                                                                    (List.headD (Tree.tupl y_13)
                                                                                                                      (Tree.bool false)) then
                                                                                                              bif
                                                                                                                  Tree.toBool
                                                                                                                      (List.headD (Tree.tupl y_15)
                                                                                                                        (Tree.bool false)) ==
                                                                                                                    Tree.toBool
                                                                                                                      (List.headD (Tree.tupl y)
                                                                                                                        (Tree.bool false)) then
                                                                                                                Option.bind (evP (Tab.env tab) n 15 []) fun y =>
                                                                                                                  bif Sh.ok Sh.bool y then
                                                                                                                    some (Tree.bool (Tree.toBool y))
                                                                                                                  else none
                                                                                                              else some (Tree.bool false)
                                                                                                            else some (Tree.bool false)
                                                                                                          else
                                                                                                            bif
                                                                                                                false ==
                                                                                                                  Tree.toBool
                                                                                                                    (List.headD (Tree.tupl y_13)
                                                                                                                      (Tree.bool false)) then
                                                                                                              bif
                                                                                                                  Tree.toBool
                                                                                                                      (List.headD (Tree.tupl y_15)
                                                                                                                        (Tree.bool false)) ==
                                                                                                                    Tree.toBool
                                                                                                                      (List.headD (Tree.tupl y)
                                                                                                                        (Tree.bool false)) then
                                                                                                                Option.bind (evP (Tab.env tab) n 15 []) fun y =>
                                                                                                                  bif Sh.ok Sh.bool y then
                                                                                                                    some (Tree.bool (Tree.toBool y))
                                                                                                                  else none
                                                                                                              else some (Tree.bool false)
                                                                                                            else some (Tree.bool false)
                                                                                                        else some (Tree.bool false)
                                                                                                    else none
                                                                                                else none
                                                                                            else none
                                                                                        else none
                                                                                    else none
                                                                      else none
                                                                  else none
                                                              else none
                                                          else none
                                                else none
                                            else none
                                        else none
                                    else none
                  else none
              else none
          else none
      else none
  else none := by kernel_rfl


end Go.Proofs.Aw.Qa
