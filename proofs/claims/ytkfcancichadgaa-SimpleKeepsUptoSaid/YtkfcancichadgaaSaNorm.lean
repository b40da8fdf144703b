/-
  SIMPLE: what steps and normal forms tell.
-/
import Derived.Test.YtkfcancichadgaaSaS15
import Derived.Test.YtkfcancichadgaaSaShape
set_option linter.unusedSimpArgs false
set_option linter.unusedVariables false
namespace Go.Proofs.Aw.Sa
open Go.Proofs

theorem eqL_refl (t : Lam) : eqL t t = true := (eqL_iff t t).2 rfl

mutual
theorem fits_of : ∀ t : Lam, okL t → fitsL t
  | .mk o n t l, h => by
    unfold okL at h
    unfold fitsL
    refine ⟨?_, fitss_of l h.2.2.2.2⟩
    have := h.2.1
    simp only [fits, IntKind.min, IntKind.max, IntKind.signed, IntKind.bits] at this
    simp at this
    omega
theorem fitss_of : ∀ l : List Lam, okLs l → fitsLs l
  | [], _ => trivial
  | t :: r, h => by
    unfold okLs at h
    unfold fitsLs
    exact ⟨fits_of t h.1, fitss_of r h.2⟩
end

theorem outP_eq (t : Lam) (h : Fit t) : ∃ (a : Lam) (p : List Nat) (b : Bool), outP (stepL t) = .tup [encL a, .slc (pathT p), .bool b] ∧ wL a ≤ 50000000000 ∧ p.length ≤ 20000 := by
  cases hs : stepL t with
  | none => exact ⟨lamZ, [], false, rfl, by decide, by simp⟩
  | some xp =>
    obtain ⟨x, p⟩ := xp
    exact ⟨x, p, true, rfl, h.stepW hs, by have := path_le t hs; have := h.size; omega⟩

theorem normal_good : ∀ (rem n : Nat) (t : Lam) (B : Int) {x : Lam} {k : Nat}, normalL rem n t = some (x, k) → good B t → 0 ≤ B → B + rem * 20000 ≤ 1000000000 → sizeL t ≤ 20000 → sizeL x ≤ 20000 ∧ good (B + rem * 20000) x ∧ stepL x = none ∧ k ≤ n + rem := by
  intro rem
  induction rem with
  | zero =>
    intro n t B x k h hg hB hb hz
    unfold normalL at h
    split at h
    · rename_i hs
      cases h
      exact ⟨hz, good_mono t hg (by omega), hs, by omega⟩
    · cases h
  | succ rem ih =>
    intro n t B x k h hg hB hb hz
    unfold normalL at h
    split at h
    · rename_i hs
      cases h
      exact ⟨hz, good_mono t hg (by omega), hs, by omega⟩
    · rename_i s p hs
      simp only at h
      split at h
      · cases h
      · rename_i hbig
        obtain ⟨h1, h2, h3, h4⟩ := ih (n + 1) s (B + 20000) h (good_next hs hg hB hz (by omega)) (by omega) (by omega) (by omega)
        exact ⟨h1, good_mono x h2 (by omega), h3, by omega⟩

theorem outN_eq (t : Lam) (F : Nat) (B : Int) (hg : good B t) (hB : 0 ≤ B) (hb : B + F * 20000 ≤ 1000000000) (hz : sizeL t ≤ 20000) : ∃ (a : Lam) (k e : Int), outN (normalL F 0 t) = .tup [encL a, I k, I e] ∧ wL a ≤ 2000000 := by
  cases hs : normalL F 0 t with
  | none => exact ⟨lamZ, 0, 5, rfl, by decide⟩
  | some xk =>
    obtain ⟨x, k⟩ := xk
    obtain ⟨h1, h2, _⟩ := normal_good F 0 t B hs hg hB hb hz
    exact ⟨x, (k : Nat), 0, rfl, by have := good.w x h2; omega⟩

theorem tupNOk (x : Lam) (k e : Int) : Sh.ok (Sh.tup [shL, Sh.int IntKind.i64, Sh.int IntKind.i64]) (.tup [encL x, I k, I e]) = true := by
  simp [okL_sh]

end Go.Proofs.Aw.Sa
