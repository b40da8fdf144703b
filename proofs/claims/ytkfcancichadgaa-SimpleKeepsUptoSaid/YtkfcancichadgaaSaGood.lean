/-
  SIMPLE, the plain part: what steps keep of the sizes of a term's numbers and types.
-/
import Derived.Test.YtkfcancichadgaaSaS13
set_option linter.unusedSimpArgs false
set_option linter.unusedVariables false
namespace Go.Proofs.Aw.Sa
open Go.Proofs

mutual
/-- Variables of at most B, numbers that fit, types of at most 80 nodes. -/
def good (B : Int) : Lam → Prop
  | .mk o n t l => (o = 1 → n ≤ B) ∧ (-9223372036854775808 ≤ n ∧ n < 9223372036854775808) ∧ sizeT t ≤ 80 ∧ goods B l
def goods (B : Int) : List Lam → Prop
  | [] => True
  | t :: r => good B t ∧ goods B r
end

mutual
theorem good_mono : ∀ (t : Lam) {B C : Int}, good B t → B ≤ C → good C t
  | .mk o m t l, B, C, h, hc => by
    unfold good at h ⊢
    exact ⟨fun e => Int.le_trans (h.1 e) hc, h.2.1, h.2.2.1, goods_mono l h.2.2.2 hc⟩
theorem goods_mono : ∀ (l : List Lam) {B C : Int}, goods B l → B ≤ C → goods C l
  | [], B, C, _, _ => trivial
  | t :: r, B, C, h, hc => by
    unfold goods at h ⊢
    exact ⟨good_mono t h.1 hc, goods_mono r h.2 hc⟩
end

mutual
theorem good_of : ∀ (t : Lam) {B : Int}, numsLe B t → fitsL t → tyLe 80 t → good B t
  | .mk o m t l, B, h1, h2, h3 => by
    unfold numsLe at h1
    unfold fitsL at h2
    unfold tyLe at h3
    unfold good
    exact ⟨h1.1, h2.1, h3.1, goods_of l h1.2 h2.2 h3.2⟩
theorem goods_of : ∀ (l : List Lam) {B : Int}, numsLes B l → fitsLs l → tyLes 80 l → goods B l
  | [], _, _, _, _ => trivial
  | t :: r, B, h1, h2, h3 => by
    unfold numsLes at h1
    unfold fitsLs at h2
    unfold tyLes at h3
    unfold goods
    exact ⟨good_of t h1.1 h2.1 h3.1, goods_of r h1.2 h2.2 h3.2⟩
end

mutual
theorem good.nums : ∀ (t : Lam) {B : Int}, good B t → numsLe B t
  | .mk o m t l, B, h => by
    unfold good at h
    unfold numsLe
    exact ⟨h.1, goods.nums l h.2.2.2⟩
theorem goods.nums : ∀ (l : List Lam) {B : Int}, goods B l → numsLes B l
  | [], _, _ => trivial
  | t :: r, B, h => by
    unfold goods at h
    unfold numsLes
    exact ⟨good.nums t h.1, goods.nums r h.2⟩
end

mutual
theorem good.fits : ∀ (t : Lam) {B : Int}, good B t → fitsL t
  | .mk o m t l, B, h => by
    unfold good at h
    unfold fitsL
    exact ⟨h.2.1, goods.fits l h.2.2.2⟩
theorem goods.fits : ∀ (l : List Lam) {B : Int}, goods B l → fitsLs l
  | [], _, _ => trivial
  | t :: r, B, h => by
    unfold goods at h
    unfold fitsLs
    exact ⟨good.fits t h.1, goods.fits r h.2⟩
end

mutual
theorem good.w : ∀ (t : Lam) {B : Int}, good B t → wL t ≤ 81 * sizeL t
  | .mk o m t l, B, h => by
    unfold good at h
    have := goods.w l h.2.2.2
    rw [wL_mk, sizeL_mk]
    omega
theorem goods.w : ∀ (l : List Lam) {B : Int}, goods B l → wLs l ≤ 81 * sizeLs l
  | [], _, _ => by simp [wLs]
  | t :: r, B, h => by
    unfold goods at h
    have h1 := good.w t h.1
    have h2 := goods.w r h.2
    simp only [wLs, sizeLs]
    omega
end

theorem good.fit {t : Lam} {B : Int} (h : good B t) (hB : B ≤ 2147483648) (hs : sizeL t ≤ 20000) : Fit t :=
  ⟨hs, by have := good.w t h; omega, good.nums t (good_mono t h hB), good.fits t h⟩

mutual
theorem good_shift : ∀ (t : Lam) (d k B : Int), good B t → 0 ≤ d → 0 ≤ B → B + d < 9223372036854775808 → good (B + d) (shift d k t)
  | .mk o m t l, d, k, B, h, hd, hB, hlt => by
    unfold good at h
    have := goods_shift l d (k + bindsN o l.length) B h.2.2.2 hd hB hlt
    unfold shift good
    refine ⟨fun e => ?_, ?_, h.2.2.1, this⟩
    · have := h.1 e
      split <;> omega
    · split
      · rename_i c
        have := h.1 c.1
        omega
      · exact h.2.1
theorem goods_shift : ∀ (l : List Lam) (d k B : Int), goods B l → 0 ≤ d → 0 ≤ B → B + d < 9223372036854775808 → goods (B + d) (shifts d k l)
  | [], _, _, _, _, _, _, _ => trivial
  | t :: r, d, k, B, h, hd, hB, hlt => by
    unfold goods at h
    unfold shifts goods
    exact ⟨good_shift t d k B h.1 hd hB hlt, goods_shift r d k B h.2 hd hB hlt⟩
end

mutual
theorem good_subst : ∀ (t : Lam) (a : Int) (s : Lam) (d B : Int), good B t → good B s → 0 ≤ a → 0 ≤ d → 0 ≤ B → B + d + sizeL t < 9223372036854775808 → good (B + d + sizeL t) (subst a s d t)
  | .mk o m t l, a, s, d, B, h, hs, ha, hd, hB, hlt => by
    unfold good at h
    have hbn := bindsN_b o l.length
    rw [sizeL_mk] at hlt ⊢
    have k := goods_subst l a s (d + bindsN o l.length) B h.2.2.2 hs ha (by omega) hB (by omega)
    unfold subst
    split
    · exact good_mono _ (good_shift s d 0 B hs hd hB (by omega)) (by omega)
    · unfold good
      refine ⟨fun e => ?_, ?_, h.2.2.1, goods_mono _ k (by omega)⟩
      · have := h.1 e
        split <;> omega
      · have := h.2.1
        split <;> omega
theorem goods_subst : ∀ (l : List Lam) (a : Int) (s : Lam) (d B : Int), goods B l → good B s → 0 ≤ a → 0 ≤ d → 0 ≤ B → B + d + sizeLs l < 9223372036854775808 → goods (B + d + sizeLs l) (substs a s d l)
  | [], _, _, _, _, _, _, _, _, _, _ => trivial
  | t :: r, a, s, d, B, h, hs, ha, hd, hB, hlt => by
    unfold goods at h
    simp only [sizeLs] at hlt ⊢
    have h1 := good_subst t a s d B h.1 hs ha hd hB (by omega)
    have h2 := goods_subst r a s d B h.2 hs ha hd hB (by omega)
    unfold substs goods
    exact ⟨good_mono _ h1 (by omega), goods_mono _ h2 (by omega)⟩
end

theorem good_num (n B : Int) (h : -9223372036854775808 ≤ n ∧ n < 9223372036854775808) : good B (lNum n) := by
  unfold lNum good
  exact ⟨fun e => by simp at e, h, by decide, trivial⟩

theorem good_rule {t x : Lam} {B : Int} (hr : ruleL t = some x) (h : good B t) (hB : 0 ≤ B) (hlt : B + sizeL t < 9223372036854775808) : good (B + sizeL t) x := by
  cases t with
  | mk o m t l =>
  have hc : B ≤ B + sizeL (.mk o m t l) := by omega
  by_cases c3 : o = 3
  · subst c3
    rw [ruleL_3] at hr
    unfold rule3 at hr
    split at hr
    · rename_i y a
      split at hr
      · rename_i b hb
        split at hr
        · cases hr
          cases y with
          | mk yo ym yt yl =>
          simp only [Lam.parts] at hb
          subst hb
          simp only [good, goods] at h
          have k := good_subst b 0 a 0 B h.2.2.2.1.2.2.2.1 h.2.2.2.2.1 (by omega) (by omega) hB (by simp only [sizeL, sizeLs] at hlt; omega)
          exact good_mono _ k (by simp only [sizeL, sizeLs]; omega)
        · cases hr
      · cases hr
    · cases hr
  by_cases c5 : o = 5
  · subst c5
    rw [ruleL_5] at hr
    unfold rule5 at hr
    split at hr
    · split at hr
      · rename_i q
        cases hr
        exact good_num _ _ (by omega)
      · cases hr
    · cases hr
  by_cases c6 : o = 6
  · subst c6
    rw [ruleL_6] at hr
    unfold rule6 at hr
    split at hr
    · rename_i y f a
      simp only [good, goods] at h
      have hy : good B y := h.2.2.2.1
      have hf := good_mono f h.2.2.2.2.1 hc
      have ha := good_mono a h.2.2.2.2.2.1 hc
      split at hr
      · split at hr
        · cases hr; exact ha
        · rename_i q1 q2
          cases hr
          have hn : good (B + sizeL (.mk 6 m t [y, f, a])) (lNum (y.num - 1)) := by
            cases y with
            | mk yo ym yt yl =>
            unfold good at hy
            exact good_num _ _ (by simp only [Lam.num] at *; omega)
          have e80 : sizeT tyZero ≤ 80 := by decide
          simp only [good, goods]
          exact ⟨fun e => by simp at e, by omega, e80, hf, ⟨fun e => by simp at e, by omega, e80, hn, hf, ha, trivial⟩, trivial⟩
      · cases hr
    · cases hr
  by_cases c8 : o = 8
  · subst c8
    rw [ruleL_8] at hr
    unfold rule8 at hr
    split at hr
    · rename_i y
      split at hr
      · rename_i a b hb
        split at hr
        · cases hr
          cases y with
          | mk yo ym yt yl =>
          simp only [Lam.parts] at hb
          subst hb
          simp only [good, goods] at h
          exact good_mono _ h.2.2.2.1.2.2.2.1 hc
        · cases hr
      · cases hr
    · cases hr
  by_cases c9 : o = 9
  · subst c9
    rw [ruleL_9] at hr
    unfold rule9 at hr
    split at hr
    · rename_i y
      split at hr
      · rename_i a b hb
        split at hr
        · cases hr
          cases y with
          | mk yo ym yt yl =>
          simp only [Lam.parts] at hb
          subst hb
          simp only [good, goods] at h
          exact good_mono _ h.2.2.2.1.2.2.2.2.1 hc
        · cases hr
      · cases hr
    · cases hr
  rw [ruleL_no c3 c5 c6 c8 c9] at hr
  cases hr

mutual
theorem good_step : ∀ (t : Lam) {x : Lam} {p : List Nat} {B : Int}, stepL t = some (x, p) → good B t → 0 ≤ B → B + sizeL t < 9223372036854775808 → good (B + sizeL t) x
  | .mk o m t l, x, p, B, hs, h, hB, hlt => by
    unfold stepL at hs
    split at hs
    · rename_i y hy
      cases hs
      exact good_rule hy h hB hlt
    · split at hs
      · rename_i l' p' h2
        cases hs
        unfold good at h ⊢
        have := goods_step l 0 h2 h.2.2.2 hB (by rw [sizeL_mk] at hlt; omega)
        refine ⟨fun e => by have := h.1 e; omega, h.2.1, h.2.2.1, goods_mono _ this (by rw [sizeL_mk]; omega)⟩
      · cases hs
theorem goods_step : ∀ (l : List Lam) (i : Nat) {r : List Lam} {p : List Nat} {B : Int}, stepLs i l = some (r, p) → goods B l → 0 ≤ B → B + sizeLs l < 9223372036854775808 → goods (B + sizeLs l) r
  | [], i, r, p, B, hs, _, _, _ => by simp [stepLs] at hs
  | x :: l, i, r, p, B, hs, h, hB, hlt => by
    unfold stepLs at hs
    unfold goods at h
    simp only [sizeLs] at hlt ⊢
    split at hs
    · rename_i y p' h2
      cases hs
      have := good_step x h2 h.1 hB (by omega)
      unfold goods
      exact ⟨good_mono _ this (by omega), goods_mono _ h.2 (by omega)⟩
    · split at hs
      · rename_i r' p' h2
        cases hs
        have := goods_step l (i + 1) h2 h.2 hB (by omega)
        unfold goods
        exact ⟨good_mono _ h.1 (by omega), goods_mono _ this (by omega)⟩
      · cases hs
end

end Go.Proofs.Aw.Sa
