/-
  SIMPLE: valid terms are good; what a type told comes from.
-/
import Derived.Test.YtkfcancichadgaaSaTy19
set_option linter.unusedSimpArgs false
set_option linter.unusedVariables false
namespace Go.Proofs.Aw.Sa
open Go.Proofs

mutual
theorem good_shaped : ∀ t : Lam, shaped t = true → good 200 t
  | .mk o n t l, h => by
    have q := shaped_eq h
    have htop : n ≤ 1000 ∧ (o = 1 → n ≤ 200) := by
      have := q.hi
      unfold topN at this
      split at this
      · exact ⟨by omega, fun _ => by omega⟩
      · split at this
        · exact ⟨by omega, fun e => by omega⟩
        · exact ⟨by omega, fun e => by omega⟩
    unfold good
    refine ⟨htop.2, by have := q.lo; omega, ?_, goods_shaped l q.parts⟩
    by_cases e : o = 2
    · have := (q.lam e).2; omega
    · rw [q.zero e]; decide
theorem goods_shaped : ∀ l : List Lam, shapeds l = true → goods 200 l
  | [], _ => trivial
  | t :: r, h => by
    unfold shapeds at h
    simp only [Bool.and_eq_true] at h
    unfold goods
    exact ⟨good_shaped t h.1, goods_shaped r h.2⟩
end

theorem typeOf_given {ctx : List Ty} {t : Lam} (h : (typeOf ctx t).2 = 0) : givenB ctx t = true ∧ typed ctx t = .inl (typeOf ctx t).1 := by
  unfold typeOf at h ⊢
  split at h
  · rename_i hg
    rw [if_pos hg]
    split at h
    · rename_i u hu
      exact ⟨hg, hu⟩
    · simp at h
  · simp at h

mutual
theorem numsLe_mono2 : ∀ (t : Lam) {B C : Int}, numsLe B t → B ≤ C → numsLe C t
  | .mk o m t l, B, C, h, hc => by
    unfold numsLe at h ⊢
    exact ⟨fun e => Int.le_trans (h.1 e) hc, numsLes_mono2 l h.2 hc⟩
theorem numsLes_mono2 : ∀ (l : List Lam) {B C : Int}, numsLes B l → B ≤ C → numsLes C l
  | [], B, C, _, _ => trivial
  | t :: r, B, C, h, hc => by
    unfold numsLes at h ⊢
    exact ⟨numsLe_mono2 t h.1 hc, numsLes_mono2 r h.2 hc⟩
end

end Go.Proofs.Aw.Sa
