/-
  SPECS 3: integers as pairs, the program's and the reference's.
-/
import Derived.Test.YtfkidinbolmkiaaQbS2
set_option linter.unusedSimpArgs false
set_option linter.unusedVariables false
namespace Go.Proofs.Bw.Qb
open Go.Proofs

def okB (a0 a1 b0 b1 : Int) : Bool := ok2 a0 a1 && ok2 b0 b1

def normT (a0 a1 : Int) : Tree := bif ok2 a0 a1 then pairT (a0 - a1) else noPair
def negT (a0 a1 : Int) : Tree := bif ok2 a0 a1 then pairT (a1 - a0) else noPair
def addT (a0 a1 b0 b1 : Int) : Tree := bif okB a0 a1 b0 b1 then pairT (a0 - a1 + b0 - b1) else noPair
def mulT (a0 a1 b0 b1 : Int) : Tree := bif okB a0 a1 b0 b1 then pairT ((a0 - a1) * (b0 - b1)) else noPair
def leqT (a0 a1 b0 b1 : Int) : Tree := bif okB a0 a1 b0 b1 then .tup [.bool (decide (a0 - a1 ≤ b0 - b1)), I 0] else .tup [.bool false, I 4]
def sameT (a0 a1 b0 b1 : Int) : Tree := bif okB a0 a1 b0 b1 then .tup [.bool (a0 - a1 == b0 - b1), I 0] else .tup [.bool false, I 4]

theorem ok2_iff {a b : Int} : ok2 a b = true ↔ (0 ≤ a ∧ a ≤ 1099511627776) ∧ 0 ≤ b ∧ b ≤ 1099511627776 := by simp [ok2, nat1]
theorem okB_iff {a b c d : Int} : okB a b c d = true ↔ ((0 ≤ a ∧ a ≤ 1099511627776) ∧ 0 ≤ b ∧ b ≤ 1099511627776) ∧ (0 ≤ c ∧ c ≤ 1099511627776) ∧ 0 ≤ d ∧ d ≤ 1099511627776 := by simp [okB, ok2, nat1]

theorem s49_2 (a b : Int) : Ev E 7 49 [.slc [I a, I b]] (.bool (ok2 a b)) := by
  have h := s49 [a, b] (by simp)
  simpa [ok2] using h

theorem s49_4 (a b c d : Int) : Ev E 9 49 [.slc [I a, I b, I c, I d]] (.bool (okB a b c d)) := by
  have h := s49 [a, b, c, d] (by simp)
  simpa [ok2, okB, Bool.and_assoc] using h

/-- The pair of a call's result, as it is looked at, is the pair. -/
theorem pairT_look (z : Int) : (bif Sh.ok (Sh.tup [Sh.agg [Sh.int IntKind.i64, Sh.int IntKind.i64], Sh.int IntKind.i64]) (pairT z) then
          some
            (Tree.tup
              [Tree.agg
                  [Tree.int IntKind.i64 (Tree.toInt (List.headD (Tree.cs (List.headD (Tree.tupl (pairT z)) (Tree.bool false))) (Tree.bool false))),
                    Tree.int IntKind.i64 (Tree.toInt (List.headD (List.tail (Tree.cs (List.headD (Tree.tupl (pairT z)) (Tree.bool false)))) (Tree.bool false)))],
                Tree.int IntKind.i64 (Tree.toInt (List.headD (List.tail (Tree.tupl (pairT z))) (Tree.bool false)))])
        else none) = some (pairT z) := by
  obtain ⟨a, b, e, h⟩ := pairT_form z
  rw [h]; simp


theorem s16 (a0 a1 : Int) : Ev E 8 16 [.agg [I a0, I a1]] (normT a0 a1) :=
  Ev.mk fun n hn => by
    rw [e16, s49_2 a0 a1 n (by omega)]
    simp only [Option.bind_some, ok_bool, cond_true, toBool_bool, normT]
    cases h : ok2 a0 a1 with
    | false => rfl
    | true =>
      rw [ok2_iff] at h
      rw [w64 (x := a0 - a1) (by omega)]
      simp only [Bool.not_true, cond_false, cond_true]
      rw [s50 _ n (by omega), Option.bind_some]
      exact pairT_look _

theorem s11 (a0 a1 : Int) : Ev E 8 11 [.agg [I a0, I a1]] (negT a0 a1) :=
  Ev.mk fun n hn => by
    rw [e11, s49_2 a0 a1 n (by omega)]
    simp only [Option.bind_some, ok_bool, cond_true, toBool_bool, negT]
    cases h : ok2 a0 a1 with
    | false => rfl
    | true =>
      rw [ok2_iff] at h
      rw [w64 (x := a1 - a0) (by omega)]
      simp only [Bool.not_true, cond_false, cond_true]
      rw [s50 _ n (by omega), Option.bind_some]
      exact pairT_look _

theorem s17 (a0 a1 : Int) : Ev E 2 17 [.agg [I a0, I a1]] (normT a0 a1) :=
  Ev.mk fun n hn => by
    rw [e17, s53 a0 a1 n (by omega)]
    simp only [Option.bind_some, ok_bool, cond_true, toBool_bool, normT]
    cases h : ok2 a0 a1 with
    | false => rfl
    | true =>
      rw [ok2_iff] at h
      rw [w64 (x := a0 - a1) (by omega)]
      simp only [Bool.not_true, cond_false, cond_true]
      rw [s54 _ n (by omega), Option.bind_some]
      exact pairT_look _

theorem s20 (a0 a1 : Int) : Ev E 2 20 [.agg [I a0, I a1]] (negT a0 a1) :=
  Ev.mk fun n hn => by
    rw [e20, s53 a0 a1 n (by omega)]
    simp only [Option.bind_some, ok_bool, cond_true, toBool_bool, negT]
    cases h : ok2 a0 a1 with
    | false => rfl
    | true =>
      rw [ok2_iff] at h
      rw [w64 (x := a1 - a0) (by omega)]
      simp only [Bool.not_true, cond_false, cond_true]
      rw [s54 _ n (by omega), Option.bind_some]
      exact pairT_look _

theorem s10 (a0 a1 b0 b1 : Int) : Ev E 10 10 [.agg [I a0, I a1], .agg [I b0, I b1]] (addT a0 a1 b0 b1) :=
  Ev.mk fun n hn => by
    rw [e10, s49_4 a0 a1 b0 b1 n (by omega)]
    simp only [Option.bind_some, ok_bool, cond_true, toBool_bool, addT]
    cases h : okB a0 a1 b0 b1 with
    | false => rfl
    | true =>
      rw [okB_iff] at h
      rw [w64 (x := a0 - a1) (by omega), w64 (x := a0 - a1 + b0) (by omega), w64 (x := a0 - a1 + b0 - b1) (by omega)]
      simp only [Bool.not_true, cond_false, cond_true]
      rw [s50 _ n (by omega), Option.bind_some]
      exact pairT_look _

theorem s13 (a0 a1 b0 b1 : Int) : Ev E 10 13 [.agg [I a0, I a1], .agg [I b0, I b1]] (leqT a0 a1 b0 b1) :=
  Ev.mk fun n hn => by
    rw [e13, s49_4 a0 a1 b0 b1 n (by omega)]
    simp only [Option.bind_some, ok_bool, cond_true, toBool_bool, leqT]
    cases h : okB a0 a1 b0 b1 with
    | false => rfl
    | true =>
      rw [okB_iff] at h
      rw [w64 (x := a0 - a1) (by omega), w64 (x := b0 - b1) (by omega)]
      rfl

theorem s14 (a0 a1 b0 b1 : Int) : Ev E 10 14 [.agg [I a0, I a1], .agg [I b0, I b1]] (sameT a0 a1 b0 b1) :=
  Ev.mk fun n hn => by
    rw [e14, s49_4 a0 a1 b0 b1 n (by omega)]
    simp only [Option.bind_some, ok_bool, cond_true, toBool_bool, sameT]
    cases h : okB a0 a1 b0 b1 with
    | false => rfl
    | true =>
      rw [okB_iff] at h
      rw [w64 (x := a0 - a1) (by omega), w64 (x := b0 - b1) (by omega)]
      rfl

theorem s12 (a0 a1 b0 b1 : Int) : Ev E 10 12 [.agg [I a0, I a1], .agg [I b0, I b1]] (mulT a0 a1 b0 b1) :=
  Ev.mk fun n hn => by
    rw [e12, s49_4 a0 a1 b0 b1 n (by omega)]
    simp only [Option.bind_some, ok_bool, cond_true, toBool_bool, mulT]
    cases h : okB a0 a1 b0 b1 with
    | false => rfl
    | true =>
      rw [okB_iff] at h
      rw [w64 (x := a0 - a1) (by omega), w64 (x := b0 - b1) (by omega)]
      simp only [Bool.not_true, cond_false, cond_true]
      rw [s51 (x := a0 - a1) (y := b0 - b1) (by unfold isN; omega) (by unfold isN; omega) n (by omega), Option.bind_some]
      generalize (a0 - a1) * (b0 - b1) = z
      have hw := s52 z n (by omega)
      simp only [wideT, wideP] at hw ⊢
      simp only [ok_agg, ok_tup, oks_cons, ok_int, ok_bool, oks_nil, Bool.and_true, Bool.and_self, cond_true, cs_agg, tupl_tup, List.headD_cons, List.tail_cons, toInt_int, toBool_bool]
      rw [hw, Option.bind_some, smallT]
      by_cases h1 : z < -1099511627776 ∨ z > 1099511627776
      · simp only [h1, if_true, ok_agg, ok_tup, oks_cons, ok_int, ok_bool, oks_nil, Bool.and_true, Bool.and_self, cond_true, cs_agg, tupl_tup, List.headD_cons, List.tail_cons, toInt_int, toBool_bool, Bool.not_false, pairT]
      · simp only [h1, if_false, ok_agg, ok_tup, oks_cons, ok_int, ok_bool, oks_nil, Bool.and_true, Bool.and_self, cond_true, cs_agg, tupl_tup, List.headD_cons, List.tail_cons, toInt_int, toBool_bool, Bool.not_true, cond_false]
        rw [s50 _ n (by omega), Option.bind_some]
        exact pairT_look _

theorem s18 (a0 a1 b0 b1 : Int) : Ev E 2 18 [.agg [I a0, I a1], .agg [I b0, I b1]] (addT a0 a1 b0 b1) :=
  Ev.mk fun n hn => by
    rw [e18, s53 a0 a1 n (by omega)]
    simp only [Option.bind_some, ok_bool, cond_true, toBool_bool, addT]
    cases h1 : ok2 a0 a1 with
    | false => simp only [okB, h1, Bool.false_and]; rfl
    | true =>
    simp only [Bool.not_true, cond_false]
    rw [s53 b0 b1 n (by omega)]
    simp only [Option.bind_some, ok_bool, cond_true, toBool_bool]
    cases h2 : ok2 b0 b1 with
    | false => simp only [okB, h1, h2, Bool.and_false]; rfl
    | true =>
    have h : okB a0 a1 b0 b1 = true := by simp only [okB, h1, h2, Bool.and_self]
    rw [h]
    rw [okB_iff] at h
    simp only [Bool.not_true, cond_false, cond_true]
    rw [w64 (x := a0 - a1) (by omega), w64 (x := a0 - a1 + b0) (by omega), w64 (x := a0 - a1 + b0 - b1) (by omega)]
    rw [s54 _ n (by omega), Option.bind_some]
    exact pairT_look _

theorem s21 (a0 a1 b0 b1 : Int) : Ev E 2 21 [.agg [I a0, I a1], .agg [I b0, I b1]] (leqT a0 a1 b0 b1) :=
  Ev.mk fun n hn => by
    rw [e21, s53 a0 a1 n (by omega)]
    simp only [Option.bind_some, ok_bool, cond_true, toBool_bool, leqT]
    cases h1 : ok2 a0 a1 with
    | false => simp only [okB, h1, Bool.false_and]; rfl
    | true =>
    simp only [Bool.not_true, cond_false]
    rw [s53 b0 b1 n (by omega)]
    simp only [Option.bind_some, ok_bool, cond_true, toBool_bool]
    cases h2 : ok2 b0 b1 with
    | false => simp only [okB, h1, h2, Bool.and_false]; rfl
    | true =>
    have h : okB a0 a1 b0 b1 = true := by simp only [okB, h1, h2, Bool.and_self]
    rw [h]
    rw [okB_iff] at h
    simp only [Bool.not_true, cond_false, cond_true]
    rw [w64 (x := a0 - a1) (by omega), w64 (x := b0 - b1) (by omega)]

theorem s22 (a0 a1 b0 b1 : Int) : Ev E 2 22 [.agg [I a0, I a1], .agg [I b0, I b1]] (sameT a0 a1 b0 b1) :=
  Ev.mk fun n hn => by
    rw [e22, s53 a0 a1 n (by omega)]
    simp only [Option.bind_some, ok_bool, cond_true, toBool_bool, sameT]
    cases h1 : ok2 a0 a1 with
    | false => simp only [okB, h1, Bool.false_and]; rfl
    | true =>
    simp only [Bool.not_true, cond_false]
    rw [s53 b0 b1 n (by omega)]
    simp only [Option.bind_some, ok_bool, cond_true, toBool_bool]
    cases h2 : ok2 b0 b1 with
    | false => simp only [okB, h1, h2, Bool.and_false]; rfl
    | true =>
    have h : okB a0 a1 b0 b1 = true := by simp only [okB, h1, h2, Bool.and_self]
    rw [h]
    rw [okB_iff] at h
    simp only [Bool.not_true, cond_false, cond_true]
    rw [w64 (x := a0 - a1) (by omega), w64 (x := b0 - b1) (by omega)]

theorem s19 (a0 a1 b0 b1 : Int) : Ev E 5 19 [.agg [I a0, I a1], .agg [I b0, I b1]] (mulT a0 a1 b0 b1) :=
  Ev.mk fun n hn => by
    rw [e19, s53 a0 a1 n (by omega)]
    simp only [Option.bind_some, ok_bool, cond_true, toBool_bool, mulT]
    cases h1 : ok2 a0 a1 with
    | false => simp only [okB, h1, Bool.false_and]; rfl
    | true =>
    simp only [Bool.not_true, cond_false]
    rw [s53 b0 b1 n (by omega)]
    simp only [Option.bind_some, ok_bool, cond_true, toBool_bool]
    cases h2 : ok2 b0 b1 with
    | false => simp only [okB, h1, h2, Bool.and_false]; rfl
    | true =>
    have h : okB a0 a1 b0 b1 = true := by simp only [okB, h1, h2, Bool.and_self]
    rw [h]
    rw [okB_iff] at h
    simp only [Bool.not_true, cond_false, cond_true]
    rw [w64 (x := a0 - a1) (by omega), w64 (x := b0 - b1) (by omega)]
    rw [s55 (x := a0 - a1) (y := b0 - b1) (by unfold isN; omega) (by unfold isN; omega) n (by omega), Option.bind_some]
    generalize (a0 - a1) * (b0 - b1) = z
    have hw (hz : isN z) := s56 hz n (by omega)
    simp only [wideT, wideP] at hw ⊢
    simp only [ok_agg, ok_tup, oks_cons, ok_int, ok_bool, oks_nil, Bool.and_true, Bool.and_self, cond_true, cs_agg, tupl_tup, List.headD_cons, List.tail_cons, toInt_int, toBool_bool]
    by_cases hz : z < -1099511627776 ∨ z > 1099511627776
    · simp only [pairT, hz, if_true]
      rw [natne]
      by_cases h3 : z.natAbs / 18446744073709551616 = 0
      · rw [bif_neg (by simp [h3]), bif_pos (by simp; omega)]
      · rw [bif_pos (by simp [h3])]
    · rw [natne, bif_neg (by simp; omega), bif_neg (by simp; omega), hw (by unfold isN; omega), Option.bind_some]
      simp only [ok_agg, ok_tup, oks_cons, ok_int, ok_bool, oks_nil, Bool.and_true, Bool.and_self, cond_true, cs_agg, tupl_tup, List.headD_cons, List.tail_cons, toInt_int, toBool_bool]
      rw [s54 _ n (by omega), Option.bind_some]
      exact pairT_look _

end Go.Proofs.Bw.Qb
