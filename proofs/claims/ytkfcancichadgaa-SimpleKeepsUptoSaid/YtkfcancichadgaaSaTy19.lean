/-
  SIMPLE: what Type and Where tell.
-/
import Derived.Test.YtkfcancichadgaaSaS19
import Derived.Test.YtkfcancichadgaaSaNorm
set_option linter.unusedSimpArgs false
set_option linter.unusedVariables false
namespace Go.Proofs.Aw.Sa
open Go.Proofs

theorem eqT_refl (t : Ty) : eqT t t = true := (eqT_iff t t).2 rfl

theorem s23p (p : List Nat) (h : p.length ≤ 1000000) : Ev E (p.length + 2) 23 [.slc (pathT p), .slc (pathT p)] (.bool true) := by
  have h23 := s23 (p.map fun k => ((k : Nat) : Int)) (by simpa using h)
  have e : pathT p = (p.map fun k => ((k : Nat) : Int)).map I := by simp [pathT]
  rw [← e] at h23
  simpa using h23

theorem typeOf_size (ctx : List Ty) (t : Lam) : sizeT (typeOf ctx t).1 ≤ 20000 := by
  unfold typeOf
  split
  · rename_i hg
    obtain ⟨g1, g2, g3, g4, g5⟩ := given_eq hg
    split
    · rename_i u hu
      have := (typed_ok t ctx g5 g2 hu).2
      simp only
      omega
    · show sizeT tyZero ≤ 20000
      decide
  · show sizeT tyZero ≤ 20000
    decide

theorem whereOf_len (ctx : List Ty) (t : Lam) : (whereOf ctx t).1.length ≤ 300 := by
  unfold whereOf
  split
  · rename_i hg
    obtain ⟨g1, g2, g3, g4, g5⟩ := given_eq hg
    split
    · simp
    · rename_i p hp
      have := typed_path t ctx hp
      simp only
      omega
  · simp

theorem tupTIOk (u : Ty) (e : Int) : Sh.ok (Sh.tup [shT, Sh.int IntKind.i64]) (.tup [encT u, I e]) = true := by simp [okT_sh]

end Go.Proofs.Aw.Sa
