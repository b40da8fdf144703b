/-
  QuotField: fractions of small numbers are a field.
-/
import Derived.Test.YtfkidinbolmkiaaQaE7
import Derived.Test.YtfkidinbolmkiaaQaE8
import Derived.Test.YtfkidinbolmkiaaQaField1
set_option linter.unusedSimpArgs false
set_option linter.unusedVariables false
set_option maxRecDepth 100000
set_option maxHeartbeats 4000000
namespace Go.Proofs.Aw.Qa
open Go.Proofs

theorem thenK_normal {α : Type} {F : Fns} {n m : Nat} {c : ICode} {K : IExit → St → Option α} {st : St} : thenK F n m c K .normal st = evC F n m c st K := rfl

theorem code6 : E.code 6 = some ir6 := by kernel_rfl

theorem eq_low {a b c d : Int} (hx : Fr a b) (hy : Fr c d) : (nm a b = nm c d ∧ (dn a b : Int) = dn c d) ↔ nm a b * dn c d = nm c d * dn a b := by
  constructor
  · rintro ⟨h1, h2⟩; rw [h1, h2]
  · intro h
    have := lowest_unique hx.p hy.p (nm_cop hx.b0) (nm_cop hy.b0) h
    exact ⟨this.1, by rw [this.2]⟩

/-- What is left behind the law of distribution. -/
def RES6 (n : Nat) (xa xb ya yb : Int) : Option Tree :=

      Option.bind (evP (Tab.env tab) n 29 [Tree.agg [Tree.int IntKind.i64 xa, Tree.int IntKind.i64 xb]]) fun y =>
      bif Sh.ok (Sh.tup [Sh.agg [Sh.int IntKind.i64, Sh.int IntKind.i64], Sh.int IntKind.i64]) y then
        bif !(Tree.toInt (List.headD (List.tail (Tree.tupl y)) (Tree.bool false)) == 230) == (xa == 0) then some (Tree.bool false)
        else
          bif Tree.toInt (List.headD (List.tail (Tree.tupl y)) (Tree.bool false)) == 0 then
            Option.bind
              (evP (Tab.env tab) n 27
                [Tree.agg [Tree.int IntKind.i64 xa, Tree.int IntKind.i64 xb],
                  Tree.agg
                    [Tree.int IntKind.i64 (Tree.toInt (List.headD (Tree.cs (List.headD (Tree.tupl y) (Tree.bool false))) (Tree.bool false))),
                      Tree.int IntKind.i64 (Tree.toInt (List.headD (List.tail (Tree.cs (List.headD (Tree.tupl y) (Tree.bool false)))) (Tree.bool false)))]])
              fun y =>
              bif Sh.ok (Sh.tup [Sh.agg [Sh.int IntKind.i64, Sh.int IntKind.i64], Sh.int IntKind.i64]) y then
                bif Tree.toInt (List.headD (List.tail (Tree.tupl y)) (Tree.bool false)) != 0 then some (Tree.bool false)
                else
                  bif
                      !(Tree.toInt (List.headD (Tree.cs (List.headD (Tree.tupl y) (Tree.bool false))) (Tree.bool false)) == 1 &&
                          (Tree.toInt (List.headD (List.tail (Tree.cs (List.headD (Tree.tupl y) (Tree.bool false)))) (Tree.bool false)) == 1 && true)) then
                    some (Tree.bool false)
                  else
                    Option.bind
                      (evP (Tab.env tab) n 31
                        [Tree.agg [Tree.int IntKind.i64 xa, Tree.int IntKind.i64 xb], Tree.agg [Tree.int IntKind.i64 ya, Tree.int IntKind.i64 yb]])
                      fun y =>
                      bif Sh.ok (Sh.tup [Sh.bool, Sh.int IntKind.i64]) y then
                        Option.bind
                          (evP (Tab.env tab) n 31
                            [Tree.agg [Tree.int IntKind.i64 ya, Tree.int IntKind.i64 yb],
                              Tree.agg [Tree.int IntKind.i64 xa, Tree.int IntKind.i64 xb]])
                          fun y_1 =>
                          bif Sh.ok (Sh.tup [Sh.bool, Sh.int IntKind.i64]) y_1 then
                            Option.bind (evP (Tab.env tab) n 23 [Tree.agg [Tree.int IntKind.i64 xa, Tree.int IntKind.i64 xb]]) fun y_2 =>
                              bif Sh.ok (Sh.tup [Sh.agg [Sh.int IntKind.i64, Sh.int IntKind.i64], Sh.int IntKind.i64]) y_2 then
                                Option.bind (evP (Tab.env tab) n 23 [Tree.agg [Tree.int IntKind.i64 ya, Tree.int IntKind.i64 yb]]) fun y_3 =>
                                  bif Sh.ok (Sh.tup [Sh.agg [Sh.int IntKind.i64, Sh.int IntKind.i64], Sh.int IntKind.i64]) y_3 then
                                    bif Tree.toBool (List.headD (Tree.tupl y) (Tree.bool false)) then
                                      bif Tree.toBool (List.headD (Tree.tupl y) (Tree.bool false)) then
                                        bif
                                            Tree.toBool (List.headD (Tree.tupl y_1) (Tree.bool false)) ==
                                              (Tree.toInt (List.headD (Tree.cs (List.headD (Tree.tupl y_2) (Tree.bool false))) (Tree.bool false)) ==
                                                  Tree.toInt (List.headD (Tree.cs (List.headD (Tree.tupl y_3) (Tree.bool false))) (Tree.bool false)) &&
                                                (Tree.toInt (List.headD (List.tail (Tree.cs (List.headD (Tree.tupl y_2) (Tree.bool false)))) (Tree.bool false)) ==
                                                    Tree.toInt
                                                      (List.headD (List.tail (Tree.cs (List.headD (Tree.tupl y_3) (Tree.bool false)))) (Tree.bool false)) &&
                                                  true)) then
                                          Option.bind (evP (Tab.env tab) n 15 []) fun y => bif Sh.ok Sh.bool y then some (Tree.bool (Tree.toBool y)) else none
                                        else some (Tree.bool false)
                                      else
                                        bif
                                            false ==
                                              (Tree.toInt (List.headD (Tree.cs (List.headD (Tree.tupl y_2) (Tree.bool false))) (Tree.bool false)) ==
                                                  Tree.toInt (List.headD (Tree.cs (List.headD (Tree.tupl y_3) (Tree.bool false))) (Tree.bool false)) &&
                                                (Tree.toInt (List.headD (List.tail (Tree.cs (List.headD (Tree.tupl y_2) (Tree.bool false)))) (Tree.bool false)) ==
                                                    Tree.toInt
                                                      (List.headD (List.tail (Tree.cs (List.headD (Tree.tupl y_3) (Tree.bool false)))) (Tree.bool false)) &&
                                                  true)) then
                                          Option.bind (evP (Tab.env tab) n 15 []) fun y => bif Sh.ok Sh.bool y then some (Tree.bool (Tree.toBool y)) else none
                                        else some (Tree.bool false)
                                    else
                                      bif Tree.toBool (List.headD (Tree.tupl y_1) (Tree.bool false)) then
                                        bif Tree.toBool (List.headD (Tree.tupl y) (Tree.bool false)) then
                                          bif
                                              Tree.toBool (List.headD (Tree.tupl y_1) (Tree.bool false)) ==
                                                (Tree.toInt (List.headD (Tree.cs (List.headD (Tree.tupl y_2) (Tree.bool false))) (Tree.bool false)) ==
                                                    Tree.toInt (List.headD (Tree.cs (List.headD (Tree.tupl y_3) (Tree.bool false))) (Tree.bool false)) &&
                                                  (Tree.toInt (List.headD (List.tail (Tree.cs (List.headD (Tree.tupl y_2) (Tree.bool false)))) (Tree.bool false)) ==
                                                      Tree.toInt
                                                        (List.headD (List.tail (Tree.cs (List.headD (Tree.tupl y_3) (Tree.bool false)))) (Tree.bool false)) &&
                                                    true)) then
                                            Option.bind (evP (Tab.env tab) n 15 []) fun y => bif Sh.ok Sh.bool y then some (Tree.bool (Tree.toBool y)) else none
                                          else some (Tree.bool false)
                                        else
                                          bif
                                              false ==
                                                (Tree.toInt (List.headD (Tree.cs (List.headD (Tree.tupl y_2) (Tree.bool false))) (Tree.bool false)) ==
                                                    Tree.toInt (List.headD (Tree.cs (List.headD (Tree.tupl y_3) (Tree.bool false))) (Tree.bool false)) &&
                                                  (Tree.toInt (List.headD (List.tail (Tree.cs (List.headD (Tree.tupl y_2) (Tree.bool false)))) (Tree.bool false)) ==
                                                      Tree.toInt
                                                        (List.headD (List.tail (Tree.cs (List.headD (Tree.tupl y_3) (Tree.bool false)))) (Tree.bool false)) &&
                                                    true)) then
                                            Option.bind (evP (Tab.env tab) n 15 []) fun y => bif Sh.ok Sh.bool y then some (Tree.bool (Tree.toBool y)) else none
                                          else some (Tree.bool false)
                                      else some (Tree.bool false)
                                  else none
                              else none
                          else none
                      else none
              else none
          else
            Option.bind
              (evP (Tab.env tab) n 31
                [Tree.agg [Tree.int IntKind.i64 xa, Tree.int IntKind.i64 xb], Tree.agg [Tree.int IntKind.i64 ya, Tree.int IntKind.i64 yb]])
              fun y =>
              bif Sh.ok (Sh.tup [Sh.bool, Sh.int IntKind.i64]) y then
                Option.bind
                  (evP (Tab.env tab) n 31
                    [Tree.agg [Tree.int IntKind.i64 ya, Tree.int IntKind.i64 yb], Tree.agg [Tree.int IntKind.i64 xa, Tree.int IntKind.i64 xb]])
                  fun y_1 =>
                  bif Sh.ok (Sh.tup [Sh.bool, Sh.int IntKind.i64]) y_1 then
                    Option.bind (evP (Tab.env tab) n 23 [Tree.agg [Tree.int IntKind.i64 xa, Tree.int IntKind.i64 xb]]) fun y_2 =>
                      bif Sh.ok (Sh.tup [Sh.agg [Sh.int IntKind.i64, Sh.int IntKind.i64], Sh.int IntKind.i64]) y_2 then
                        Option.bind (evP (Tab.env tab) n 23 [Tree.agg [Tree.int IntKind.i64 ya, Tree.int IntKind.i64 yb]]) fun y_3 =>
                          bif Sh.ok (Sh.tup [Sh.agg [Sh.int IntKind.i64, Sh.int IntKind.i64], Sh.int IntKind.i64]) y_3 then
                            bif Tree.toBool (List.headD (Tree.tupl y) (Tree.bool false)) then
                              bif Tree.toBool (List.headD (Tree.tupl y) (Tree.bool false)) then
                                bif
                                    Tree.toBool (List.headD (Tree.tupl y_1) (Tree.bool false)) ==
                                      (Tree.toInt (List.headD (Tree.cs (List.headD (Tree.tupl y_2) (Tree.bool false))) (Tree.bool false)) ==
                                          Tree.toInt (List.headD (Tree.cs (List.headD (Tree.tupl y_3) (Tree.bool false))) (Tree.bool false)) &&
                                        (Tree.toInt (List.headD (List.tail (Tree.cs (List.headD (Tree.tupl y_2) (Tree.bool false)))) (Tree.bool false)) ==
                                            Tree.toInt (List.headD (List.tail (Tree.cs (List.headD (Tree.tupl y_3) (Tree.bool false)))) (Tree.bool false)) &&
                                          true)) then
                                  Option.bind (evP (Tab.env tab) n 15 []) fun y => bif Sh.ok Sh.bool y then some (Tree.bool (Tree.toBool y)) else none
                                else some (Tree.bool false)
                              else
                                bif
                                    false ==
                                      (Tree.toInt (List.headD (Tree.cs (List.headD (Tree.tupl y_2) (Tree.bool false))) (Tree.bool false)) ==
                                          Tree.toInt (List.headD (Tree.cs (List.headD (Tree.tupl y_3) (Tree.bool false))) (Tree.bool false)) &&
                                        (Tree.toInt (List.headD (List.tail (Tree.cs (List.headD (Tree.tupl y_2) (Tree.bool false)))) (Tree.bool false)) ==
                                            Tree.toInt (List.headD (List.tail (Tree.cs (List.headD (Tree.tupl y_3) (Tree.bool false)))) (Tree.bool false)) &&
                                          true)) then
                                  Option.bind (evP (Tab.env tab) n 15 []) fun y => bif Sh.ok Sh.bool y then some (Tree.bool (Tree.toBool y)) else none
                                else some (Tree.bool false)
                            else
                              bif Tree.toBool (List.headD (Tree.tupl y_1) (Tree.bool false)) then
                                bif Tree.toBool (List.headD (Tree.tupl y) (Tree.bool false)) then
                                  bif
                                      Tree.toBool (List.headD (Tree.tupl y_1) (Tree.bool false)) ==
                                        (Tree.toInt (List.headD (Tree.cs (List.headD (Tree.tupl y_2) (Tree.bool false))) (Tree.bool false)) ==
                                            Tree.toInt (List.headD (Tree.cs (List.headD (Tree.tupl y_3) (Tree.bool false))) (Tree.bool false)) &&
                                          (Tree.toInt (List.headD (List.tail (Tree.cs (List.headD (Tree.tupl y_2) (Tree.bool false)))) (Tree.bool false)) ==
                                              Tree.toInt (List.headD (List.tail (Tree.cs (List.headD (Tree.tupl y_3) (Tree.bool false)))) (Tree.bool false)) &&
                                            true)) then
                                    Option.bind (evP (Tab.env tab) n 15 []) fun y => bif Sh.ok Sh.bool y then some (Tree.bool (Tree.toBool y)) else none
                                  else some (Tree.bool false)
                                else
                                  bif
                                      false ==
                                        (Tree.toInt (List.headD (Tree.cs (List.headD (Tree.tupl y_2) (Tree.bool false))) (Tree.bool false)) ==
                                            Tree.toInt (List.headD (Tree.cs (List.headD (Tree.tupl y_3) (Tree.bool false))) (Tree.bool false)) &&
                                          (Tree.toInt (List.headD (List.tail (Tree.cs (List.headD (Tree.tupl y_2) (Tree.bool false)))) (Tree.bool false)) ==
                                              Tree.toInt (List.headD (List.tail (Tree.cs (List.headD (Tree.tupl y_3) (Tree.bool false)))) (Tree.bool false)) &&
                                            true)) then
                                    Option.bind (evP (Tab.env tab) n 15 []) fun y => bif Sh.ok Sh.bool y then some (Tree.bool (Tree.toBool y)) else none
                                  else some (Tree.bool false)
                              else some (Tree.bool false)
                          else none
                      else none
                  else none
              else none
      else none

theorem bind_step {o : Option Tree} {v : Tree} {f : Tree → Option Tree} {r : Option Tree} (h : o = some v) (k : f v = r) : Option.bind o f = r := by rw [h]; exact k
theorem bif_t {c : Bool} {x y r : Option Tree} (h : c = true) (k : x = r) : (bif c then x else y) = r := by rw [h]; exact k
theorem bif_f {c : Bool} {x y r : Option Tree} (h : c = false) (k : y = r) : (bif c then x else y) = r := by rw [h]; exact k
theorem same2 (a b : Int) : (!(a == a && (b == b && true))) = false := by simp

/-- What the calls give, the state behind them in one piece. -/
theorem s6_walk {n : Nat} {a0 a1 b0 b1 c0 c1 xa xb ya yb za zb A1 A2 B1 B2 C1 C2 D1 D2 W1 W2 V1 V2 : Int}
    (e1 : Int.tmod (IntKind.wrap .i64 a0) 1000 = xa) (e2 : gate (Int.tmod (IntKind.wrap .i64 a1) 1000) (gate 1 (IntKind.wrap IntKind.i64 ↑(BitVec.toNat (BitVec.ofInt 64 (Int.tmod (IntKind.wrap .i64 a1) 1000) ||| BitVec.ofInt 64 1)))) = xb)
    (e3 : Int.tmod (IntKind.wrap .i64 b0) 1000 = ya) (e4 : gate (Int.tmod (IntKind.wrap .i64 b1) 1000) (gate 1 (IntKind.wrap IntKind.i64 ↑(BitVec.toNat (BitVec.ofInt 64 (Int.tmod (IntKind.wrap .i64 b1) 1000) ||| BitVec.ofInt 64 1)))) = yb)
    (e5 : Int.tmod (IntKind.wrap .i64 c0) 1000 = za) (e6 : gate (Int.tmod (IntKind.wrap .i64 c1) 1000) (gate 1 (IntKind.wrap IntKind.i64 ↑(BitVec.toNat (BitVec.ofInt 64 (Int.tmod (IntKind.wrap .i64 c1) 1000) ||| BitVec.ofInt 64 1)))) = zb)
    (h1 : evP (Tab.env tab) n 25 [.agg [.int .i64 xa, .int .i64 xb], .agg [.int .i64 ya, .int .i64 yb]] = some (.tup [.agg [.int .i64 A1, .int .i64 A2], .int .i64 0]))
    (h2 : evP (Tab.env tab) n 25 [.agg [.int .i64 ya, .int .i64 yb], .agg [.int .i64 xa, .int .i64 xb]] = some (.tup [.agg [.int .i64 A1, .int .i64 A2], .int .i64 0]))
    (h3 : evP (Tab.env tab) n 25 [.agg [.int .i64 ya, .int .i64 yb], .agg [.int .i64 za, .int .i64 zb]] = some (.tup [.agg [.int .i64 B1, .int .i64 B2], .int .i64 0]))
    (h4 : evP (Tab.env tab) n 25 [.agg [.int .i64 A1, .int .i64 A2], .agg [.int .i64 za, .int .i64 zb]] = some (.tup [.agg [.int .i64 W1, .int .i64 W2], .int .i64 0]))
    (h5 : evP (Tab.env tab) n 25 [.agg [.int .i64 xa, .int .i64 xb], .agg [.int .i64 B1, .int .i64 B2]] = some (.tup [.agg [.int .i64 W1, .int .i64 W2], .int .i64 0]))
    (h6 : evP (Tab.env tab) n 27 [.agg [.int .i64 xa, .int .i64 xb], .agg [.int .i64 za, .int .i64 zb]] = some (.tup [.agg [.int .i64 C1, .int .i64 C2], .int .i64 0]))
    (h7 : evP (Tab.env tab) n 27 [.agg [.int .i64 ya, .int .i64 yb], .agg [.int .i64 za, .int .i64 zb]] = some (.tup [.agg [.int .i64 D1, .int .i64 D2], .int .i64 0]))
    (h8 : evP (Tab.env tab) n 25 [.agg [.int .i64 C1, .int .i64 C2], .agg [.int .i64 D1, .int .i64 D2]] = some (.tup [.agg [.int .i64 V1, .int .i64 V2], .int .i64 0]))
    (h9 : evP (Tab.env tab) n 27 [.agg [.int .i64 A1, .int .i64 A2], .agg [.int .i64 za, .int .i64 zb]] = some (.tup [.agg [.int .i64 V1, .int .i64 V2], .int .i64 0])) :
    evQ E n 6 [.agg [.int .i16 a0, .int .i16 a1], .agg [.int .i16 b0, .int .i16 b1], .agg [.int .i16 c0, .int .i16 c1]] = RES6 n xa xb ya yb := by
  rw [evQ_cut 13 code6, p6a, e1, e2, e3, e4, e5, e6]
  refine bind_step h1 (bif_t rfl ?_)
  refine bind_step h2 (bif_t rfl ?_)
  refine bind_step h3 (bif_t rfl ?_)
  refine bind_step h4 (bif_t rfl ?_)
  refine bind_step h5 (bif_t rfl ?_)
  refine bif_f rfl ?_
  refine bif_f rfl ?_
  refine bif_f rfl ?_
  refine bif_f rfl ?_
  refine bif_f rfl ?_
  refine bif_f (same2 A1 A2) ?_
  refine bif_f (same2 W1 W2) ?_
  refine bind_step h6 (bif_t rfl ?_)
  refine bind_step h7 (bif_t rfl ?_)
  refine bind_step h8 (bif_t rfl ?_)
  refine bind_step h9 (bif_t rfl ?_)
  refine bif_t rfl ?_
  refine bif_t rfl ?_
  refine bif_t rfl ?_
  refine bif_t rfl ?_
  refine bif_f (same2 V1 V2) ?_
  exact (p6b ..).trans rfl

end Go.Proofs.Aw.Qa
