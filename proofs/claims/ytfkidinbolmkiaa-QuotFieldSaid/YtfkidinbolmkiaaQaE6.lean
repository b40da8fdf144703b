/-
  EQUATIONS of the reckoned code: printed by program.
-/
import Derived.Test.YtfkidinbolmkiaaQaTab
import Derived.Test.YtfkidinbolmkiaaAw4
set_option linter.unusedSimpArgs false
set_option linter.unusedVariables false
set_option maxRecDepth 100000
namespace Go.Proofs.Aw.Qa
open Go.Proofs

theorem e5 (n : Nat) (a00 : Int) (a01 : Int) (a10 : Int) (a11 : Int) : evQ (Tab.env tab) n 5 [Tree.agg [Tree.int IntKind.i64 a00, Tree.int IntKind.i64 a01], Tree.agg [Tree.int IntKind.i64 a10, Tree.int IntKind.i64 a11]] =
    Option.bind (evP (Tab.env tab) n 23 [Tree.agg [Tree.int IntKind.i64 a00, Tree.int IntKind.i64 a01]]) fun y =>
    bif Sh.ok (Sh.tup [Sh.agg [Sh.int IntKind.i64, Sh.int IntKind.i64], Sh.int IntKind.i64]) y then
      Option.bind (evP (Tab.env tab) n 24 [Tree.agg [Tree.int IntKind.i64 a00, Tree.int IntKind.i64 a01]]) fun y_1 =>
        bif Sh.ok (Sh.tup [Sh.agg [Sh.int IntKind.i64, Sh.int IntKind.i64], Sh.int IntKind.i64]) y_1 then
          bif
              !(Tree.toInt (List.headD (Tree.cs (List.headD (Tree.tupl y) (Tree.bool false))) (Tree.bool false)) ==
                    Tree.toInt (List.headD (Tree.cs (List.headD (Tree.tupl y_1) (Tree.bool false))) (Tree.bool false)) &&
                  (Tree.toInt (List.headD (List.tail (Tree.cs (List.headD (Tree.tupl y) (Tree.bool false)))) (Tree.bool false)) ==
                      Tree.toInt (List.headD (List.tail (Tree.cs (List.headD (Tree.tupl y_1) (Tree.bool false)))) (Tree.bool false)) &&
                    true)) then
            some (Tree.bool false)
          else
            bif Tree.toInt (List.headD (List.tail (Tree.tupl y)) (Tree.bool false)) != Tree.toInt (List.headD (List.tail (Tree.tupl y_1)) (Tree.bool false)) then
              some (Tree.bool false)
            else
              Option.bind
                (evP (Tab.env tab) n 25
                  [Tree.agg [Tree.int IntKind.i64 a00, Tree.int IntKind.i64 a01], Tree.agg [Tree.int IntKind.i64 a10, Tree.int IntKind.i64 a11]])
                fun y =>
                bif Sh.ok (Sh.tup [Sh.agg [Sh.int IntKind.i64, Sh.int IntKind.i64], Sh.int IntKind.i64]) y then
                  Option.bind
                    (evP (Tab.env tab) n 26
                      [Tree.agg [Tree.int IntKind.i64 a00, Tree.int IntKind.i64 a01], Tree.agg [Tree.int IntKind.i64 a10, Tree.int IntKind.i64 a11]])
                    fun y_2 =>
                    bif Sh.ok (Sh.tup [Sh.agg [Sh.int IntKind.i64, Sh.int IntKind.i64], Sh.int IntKind.i64]) y_2 then
                      bif
                          !(Tree.toInt (List.headD (Tree.cs (List.headD (Tree.tupl y) (Tree.bool false))) (Tree.bool false)) ==
                                Tree.toInt (List.headD (Tree.cs (List.headD (Tree.tupl y_2) (Tree.bool false))) (Tree.bool false)) &&
                              (Tree.toInt (List.headD (List.tail (Tree.cs (List.headD (Tree.tupl y) (Tree.bool false)))) (Tree.bool false)) ==
                                  Tree.toInt (List.headD (List.tail (Tree.cs (List.headD (Tree.tupl y_2) (Tree.bool false)))) (Tree.bool false)) &&
                                true)) then
                        some (Tree.bool false)
                      else
                        bif
                            Tree.toInt (List.headD (List.tail (Tree.tupl y)) (Tree.bool false)) !=
                              Tree.toInt (List.headD (List.tail (Tree.tupl y_2)) (Tree.bool false)) then
                          some (Tree.bool false)
                        else
                          Option.bind
                            (evP (Tab.env tab) n 27
                              [Tree.agg [Tree.int IntKind.i64 a00, Tree.int IntKind.i64 a01], Tree.agg [Tree.int IntKind.i64 a10, Tree.int IntKind.i64 a11]])
                            fun y =>
                            bif Sh.ok (Sh.tup [Sh.agg [Sh.int IntKind.i64, Sh.int IntKind.i64], Sh.int IntKind.i64]) y then
                              Option.bind
                                (evP (Tab.env tab) n 28
                                  [Tree.agg [Tree.int IntKind.i64 a00, Tree.int IntKind.i64 a01], Tree.agg [Tree.int IntKind.i64 a10, Tree.int IntKind.i64 a11]])
                                fun y_3 =>
                                bif Sh.ok (Sh.tup [Sh.agg [Sh.int IntKind.i64, Sh.int IntKind.i64], Sh.int IntKind.i64]) y_3 then
                                  bif
                                      !(Tree.toInt (List.headD (Tree.cs (List.headD (Tree.tupl y) (Tree.bool false))) (Tree.bool false)) ==
                                            Tree.toInt (List.headD (Tree.cs (List.headD (Tree.tupl y_3) (Tree.bool false))) (Tree.bool false)) &&
                                          (Tree.toInt (List.headD (List.tail (Tree.cs (List.headD (Tree.tupl y) (Tree.bool false)))) (Tree.bool false)) ==
                                              Tree.toInt (List.headD (List.tail (Tree.cs (List.headD (Tree.tupl y_3) (Tree.bool false)))) (Tree.bool false)) &&
                                            true)) then
                                    some (Tree.bool false)
                                  else
                                    bif
                                        Tree.toInt (List.headD (List.tail (Tree.tupl y)) (Tree.bool false)) !=
                                          Tree.toInt (List.headD (List.tail (Tree.tupl y_3)) (Tree.bool false)) then
                                      some (Tree.bool false)
                                    else
                                      Option.bind (evP (Tab.env tab) n 29 [Tree.agg [Tree.int IntKind.i64 a00, Tree.int IntKind.i64 a01]]) fun y =>
                                        bif Sh.ok (Sh.tup [Sh.agg [Sh.int IntKind.i64, Sh.int IntKind.i64], Sh.int IntKind.i64]) y then
                                          Option.bind (evP (Tab.env tab) n 30 [Tree.agg [Tree.int IntKind.i64 a00, Tree.int IntKind.i64 a01]]) fun y_4 =>
                                            bif Sh.ok (Sh.tup [Sh.agg [Sh.int IntKind.i64, Sh.int IntKind.i64], Sh.int IntKind.i64]) y_4 then
                                              Option.bind
                                                (evP (Tab.env tab) n 31
                                                  [Tree.agg [Tree.int IntKind.i64 a00, Tree.int IntKind.i64 a01],
                                                    Tree.agg [Tree.int IntKind.i64 a10, Tree.int IntKind.i64 a11]])
                                                fun y_5 =>
                                                bif Sh.ok (Sh.tup [Sh.bool, Sh.int IntKind.i64]) y_5 then
                                                  Option.bind
                                                    (evP (Tab.env tab) n 32
                                                      [Tree.agg [Tree.int IntKind.i64 a00, Tree.int IntKind.i64 a01],
                                                        Tree.agg [Tree.int IntKind.i64 a10, Tree.int IntKind.i64 a11]])
                                                    fun y_6 =>
                                                    bif Sh.ok (Sh.tup [Sh.bool, Sh.int IntKind.i64]) y_6 then
                                                      bif
                                                          Tree.toInt (List.headD (Tree.cs (List.headD (Tree.tupl y) (Tree.bool false))) (Tree.bool false)) ==
                                                              Tree.toInt
                                                                (List.headD (Tree.cs (List.headD (Tree.tupl y_4) (Tree.bool false))) (Tree.bool false)) &&
                                                            (Tree.toInt
                                                                  (List.headD (List.tail (Tree.cs (List.headD (Tree.tupl y) (Tree.bool false))))
                                                                    (Tree.bool false)) ==
                                                                Tree.toInt
                                                                  (List.headD (List.tail (Tree.cs (List.headD (Tree.tupl y_4) (Tree.bool false))))
                                                                    (Tree.bool false)) &&
                                                              true) then
                                                        bif
                                                            Tree.toInt (List.headD (List.tail (Tree.tupl y)) (Tree.bool false)) ==
                                                              Tree.toInt (List.headD (List.tail (Tree.tupl y_4)) (Tree.bool false)) then
                                                          bif
                                                              Tree.toBool (List.headD (Tree.tupl y_5) (Tree.bool false)) ==
                                                                Tree.toBool (List.headD (Tree.tupl y_6) (Tree.bool false)) then
                                                            bif
                                                                Tree.toInt (List.headD (List.tail (Tree.tupl y_5)) (Tree.bool false)) ==
                                                                  Tree.toInt (List.headD (List.tail (Tree.tupl y_6)) (Tree.bool false)) then
                                                              Option.bind (evP (Tab.env tab) n 15 []) fun y =>
                                                                bif Sh.ok Sh.bool y then some (Tree.bool (Tree.toBool y)) else none
                                                            else some (Tree.bool false)
                                                          else some (Tree.bool false)
                                                        else some (Tree.bool false)
                                                      else some (Tree.bool false)
                                                    else none
                                                else none
                                            else none
                                        else none
                                else none
                            else none
                    else none
                else none
        else none
    else none := by kernel_rfl

end Go.Proofs.Aw.Qa
