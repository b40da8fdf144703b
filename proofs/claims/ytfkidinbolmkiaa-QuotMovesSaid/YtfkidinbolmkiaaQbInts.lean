/-
  QuotInts: any pairs, computed with by the program and by the reference.
-/
import Derived.Test.YtfkidinbolmkiaaQbE2
import Derived.Test.YtfkidinbolmkiaaQbS3
set_option linter.unusedSimpArgs false
set_option linter.unusedVariables false
namespace Go.Proofs.Bw.Qb
open Go.Proofs

theorem noPair_form : ∃ a b e, noPair = .tup [.agg [I a, I b], I e] := ⟨_, _, _, rfl⟩
theorem bif_form {c : Bool} {z : Int} : ∃ a b e, (bif c then pairT z else noPair) = .tup [.agg [I a, I b], I e] := by
  cases c
  · exact noPair_form
  · exact pairT_form z
theorem normT_form (a0 a1 : Int) : ∃ a b e, normT a0 a1 = .tup [.agg [I a, I b], I e] := bif_form
theorem negT_form (a0 a1 : Int) : ∃ a b e, negT a0 a1 = .tup [.agg [I a, I b], I e] := bif_form
theorem addT_form (a0 a1 b0 b1 : Int) : ∃ a b e, addT a0 a1 b0 b1 = .tup [.agg [I a, I b], I e] := bif_form
theorem mulT_form (a0 a1 b0 b1 : Int) : ∃ a b e, mulT a0 a1 b0 b1 = .tup [.agg [I a, I b], I e] := bif_form
theorem leqT_form (a0 a1 b0 b1 : Int) : ∃ a e, leqT a0 a1 b0 b1 = .tup [.bool a, I e] := by
  unfold leqT; cases okB a0 a1 b0 b1 <;> exact ⟨_, _, rfl⟩
theorem sameT_form (a0 a1 b0 b1 : Int) : ∃ a e, sameT a0 a1 b0 b1 = .tup [.bool a, I e] := by
  unfold sameT; cases okB a0 a1 b0 b1 <;> exact ⟨_, _, rfl⟩

theorem s15 : Ev E 11 15 [] (.bool true) :=
  Ev.mk fun n hn => by
    rw [e15, s12 0 3 2 5 n (by omega)]
    rfl

theorem s4 (a0 a1 b0 b1 : Int) : Ev E 12 4 [.agg [I a0, I a1], .agg [I b0, I b1]] (.bool true) :=
  Ev.mk fun n hn => by
    obtain ⟨x1, x2, x3, h1⟩ := normT_form a0 a1
    obtain ⟨y1, y2, y3, h2⟩ := addT_form a0 a1 b0 b1
    obtain ⟨z1, z2, z3, h3⟩ := mulT_form a0 a1 b0 b1
    obtain ⟨u1, u2, u3, h4⟩ := negT_form a0 a1
    obtain ⟨v1, v2, h5⟩ := leqT_form a0 a1 b0 b1
    obtain ⟨w1, w2, h6⟩ := sameT_form a0 a1 b0 b1
    rw [e4, s16 a0 a1 n (by omega), s17 a0 a1 n (by omega), s10 a0 a1 b0 b1 n (by omega), s18 a0 a1 b0 b1 n (by omega), s12 a0 a1 b0 b1 n (by omega), s19 a0 a1 b0 b1 n (by omega), s11 a0 a1 n (by omega), s20 a0 a1 n (by omega), s13 a0 a1 b0 b1 n (by omega), s21 a0 a1 b0 b1 n (by omega), s14 a0 a1 b0 b1 n (by omega), s22 a0 a1 b0 b1 n (by omega), s15 n (by omega), h1, h2, h3, h4, h5, h6]
    simp

end Go.Proofs.Bw.Qb
