/-
  QuotRats: any rationals, computed with by the program and by the reference.
-/
import Derived.Test.YtfkidinbolmkiaaQaE6
import Derived.Test.YtfkidinbolmkiaaQaS10
import Derived.Test.YtfkidinbolmkiaaQaInts
set_option linter.unusedSimpArgs false
set_option linter.unusedVariables false
set_option maxRecDepth 100000
namespace Go.Proofs.Aw.Qa
open Go.Proofs

theorem normR_form (a b : Int) : ∃ x y e, normR a b = .tup [.agg [I x, I y], I e] := by
  unfold normR; cases ratB a b <;> exact ⟨_, _, _, rfl⟩
theorem invR_form (a b : Int) : ∃ x y e, invR a b = .tup [.agg [I x, I y], I e] := by
  unfold invR; cases ratB a b
  · exact ⟨_, _, _, rfl⟩
  · cases a == 0 <;> exact ⟨_, _, _, rfl⟩
theorem addR_form (a b c d : Int) : ∃ x y e, addR a b c d = .tup [.agg [I x, I y], I e] := by
  unfold addR; cases ratB a b && ratB c d
  · exact ⟨_, _, _, rfl⟩
  · exact lowT_form _ _
theorem mulR_form (a b c d : Int) : ∃ x y e, mulR a b c d = .tup [.agg [I x, I y], I e] := by
  unfold mulR; cases ratB a b && ratB c d
  · exact ⟨_, _, _, rfl⟩
  · exact lowT_form _ _
theorem leqR_form (a b c d : Int) : ∃ x e, leqR a b c d = .tup [.bool x, I e] := by
  unfold leqR; cases ratB a b && ratB c d <;> exact ⟨_, _, rfl⟩

theorem s5 (a b c d : Int) : Ev E (plenty + 3) 5 [.agg [I a, I b], .agg [I c, I d]] (.bool true) :=
  Ev.mk fun n hn => by
    have hpl : 20 ≤ n := by unfold plenty at hn; omega
    obtain ⟨x1, x2, x3, h1⟩ := normR_form a b
    obtain ⟨y1, y2, y3, h2⟩ := addR_form a b c d
    obtain ⟨z1, z2, z3, h3⟩ := mulR_form a b c d
    obtain ⟨u1, u2, u3, h4⟩ := invR_form a b
    obtain ⟨v1, v2, h5⟩ := leqR_form a b c d
    rw [e5, s23 a b n (by omega), s24 a b n (by omega), s25 a b c d n (by omega), s26 a b c d n (by omega), s27 a b c d n (by omega), s28 a b c d n (by omega), s29 a b n (by omega), s30 a b n (by omega), s31 a b c d n (by omega), s32 a b c d n (by omega), s15 n (by omega), h1, h2, h3, h4, h5]
    simp

end Go.Proofs.Aw.Qa
