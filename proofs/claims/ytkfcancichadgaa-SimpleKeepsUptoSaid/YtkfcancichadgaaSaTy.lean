/-
  SIMPLE, the plain part: types found are well formed and not too large.
-/
import Derived.Test.YtkfcancichadgaaSaS16
set_option linter.unusedSimpArgs false
set_option linter.unusedVariables false
namespace Go.Proofs.Aw.Sa
open Go.Proofs

/-- A context of valid types. -/
def CtxOk (ctx : List Ty) : Prop := ∀ x, x ∈ ctx → formed x = true ∧ sizeT x ≤ 60

theorem sizeTs_mem {ts : List Ty} {x : Ty} (h : x ∈ ts) : sizeT x ≤ sizeTs ts := by
  induction ts with
  | nil => cases h
  | cons a r ih =>
    simp only [sizeTs]
    rcases List.mem_cons.1 h with rfl | h
    · omega
    · have := ih h; omega

theorem formed_to {a b : Ty} (ha : formed a = true) (hb : formed b = true) : formed (tTo a b) = true := by
  unfold tTo formed
  rw [if_neg (by decide), if_pos (.inl rfl)]
  simp [formedTs, ha, hb]
theorem formed_pair {a b : Ty} (ha : formed a = true) (hb : formed b = true) : formed (tPair a b) = true := by
  unfold tPair formed
  rw [if_neg (by decide), if_pos (.inr rfl)]
  simp [formedTs, ha, hb]
theorem formed_nat : formed tNat = true := rfl

theorem fromEnd_mem {ctx : List Ty} {n : Int} {u : Ty} (h : fromEnd ctx n = some u) : u ∈ ctx := by
  unfold fromEnd at h
  split at h
  · exact List.mem_of_getElem? h
  · cases h

theorem sizeT_two {y a b : Ty} (h : y.parts = [a, b]) : sizeT y = 1 + (sizeT a + sizeT b) := by
  cases y with
  | mk s l => simp only [Ty.parts] at h; subst h; simp only [sizeT, sizeTs]; omega

theorem ruleT_ok {ctx : List Ty} {o n : Int} {t : Ty} {ts : List Ty} {u : Ty} (hr : ruleT ctx o n t ts = some u) (hc : CtxOk ctx) (ht : o = 2 → formed t = true ∧ sizeT t ≤ 60) (hts : ∀ x, x ∈ ts → formed x = true) :
    formed u = true ∧ sizeT u ≤ 61 + sizeTs ts := by
  unfold ruleT at hr
  split at hr
  · have := hc u (fromEnd_mem hr)
    exact ⟨this.1, by omega⟩
  split at hr
  · rename_i h2
    have ht := ht h2
    unfold rt2 at hr
    split at hr
    · rename_i b
      cases hr
      exact ⟨formed_to ht.1 (hts b (by simp)), by simp only [tTo, sizeT, sizeTs]; omega⟩
    · cases hr
  split at hr
  · unfold rt3 at hr
    split at hr
    · rename_i f a
      split at hr
      · rename_i x y hp
        split at hr
        · rename_i q
          cases hr
          obtain ⟨x', y', hp', hx, hy⟩ := formed_two (hts f (by simp)) (.inl q.1)
          rw [hp] at hp'
          cases hp'
          have := sizeT_two hp
          exact ⟨hy, by simp only [sizeTs]; omega⟩
        · cases hr
      · cases hr
    · cases hr
  split at hr
  · cases hr
    exact ⟨rfl, by simp [tNat, sizeT, sizeTs]; omega⟩
  split at hr
  · unfold rt5 at hr
    split at hr
    · split at hr
      · cases hr; exact ⟨rfl, by simp [tNat, sizeT, sizeTs]; omega⟩
      · cases hr
    · cases hr
  split at hr
  · unfold rt6 at hr
    split at hr
    · split at hr
      · cases hr; exact ⟨hts u (by simp), by simp only [sizeTs]; omega⟩
      · cases hr
    · cases hr
  split at hr
  · unfold rt7 at hr
    split at hr
    · rename_i a b
      cases hr
      exact ⟨formed_pair (hts a (by simp)) (hts b (by simp)), by simp only [tPair, sizeT, sizeTs]; omega⟩
    · cases hr
  split at hr
  · unfold rt8 at hr
    split at hr
    · rename_i p
      split at hr
      · rename_i a b hp
        split at hr
        · rename_i q
          cases hr
          obtain ⟨x', y', hp', hx, hy⟩ := formed_two (hts p (by simp)) (.inr q)
          rw [hp] at hp'
          cases hp'
          have := sizeT_two hp
          exact ⟨hx, by simp only [sizeTs]; omega⟩
        · cases hr
      · cases hr
    · cases hr
  split at hr
  · unfold rt9 at hr
    split at hr
    · rename_i p
      split at hr
      · rename_i a b hp
        split at hr
        · rename_i q
          cases hr
          obtain ⟨x', y', hp', hx, hy⟩ := formed_two (hts p (by simp)) (.inr q)
          rw [hp] at hp'
          cases hp'
          have := sizeT_two hp
          exact ⟨hy, by simp only [sizeTs]; omega⟩
        · cases hr
      · cases hr
    · cases hr
  · cases hr

structure Sh1 (o n : Int) (t : Ty) (l : List Lam) : Prop where
  len : (l.length : Int) = partsN o
  lo : 0 ≤ n
  hi : n ≤ topN o
  lam : o = 2 → formed t = true ∧ sizeT t ≤ 60
  zero : o ≠ 2 → t = tyZero
  parts : shapeds l = true

theorem zeroT_eq {t : Ty} (h : zeroT t = true) : t = tyZero := by
  cases t with
  | mk s l =>
  unfold zeroT at h
  simp only [Bool.and_eq_true, Ty.name, Ty.parts, List.isEmpty_iff] at h
  rw [h.1, h.2]; rfl

theorem shaped_eq {o n : Int} {t : Ty} {l : List Lam} (h : shaped (.mk o n t l) = true) : Sh1 o n t l := by
  unfold shaped at h
  simp only [Bool.and_eq_true, beq_iff_eq, decide_eq_true_eq] at h
  obtain ⟨⟨⟨⟨h1, h2⟩, h3⟩, h4⟩, h5⟩ := h
  refine ⟨h1, h2, h3, fun e => ?_, fun e => ?_, h5⟩
  · rw [if_pos e] at h4
    unfold validT at h4
    simp only [Bool.and_eq_true, decide_eq_true_eq] at h4
    exact ⟨h4.2, h4.1.1⟩
  · rw [if_neg e] at h4
    exact zeroT_eq h4

theorem CtxOk.push {ctx : List Ty} {t : Ty} (h : CtxOk ctx) (ht : formed t = true ∧ sizeT t ≤ 60) : CtxOk (ctx ++ [t]) := by
  intro x hx
  rcases List.mem_append.1 hx with hx | hx
  · exact h x hx
  · simp at hx; subst hx; exact ht

mutual
theorem typed_ok : ∀ (t : Lam) (ctx : List Ty) {u : Ty}, shaped t = true → CtxOk ctx → typed ctx t = .inl u → formed u = true ∧ sizeT u ≤ 61 * sizeL t
  | .mk o n t l, ctx, u, hs, hc, h => by
    have q := shaped_eq hs
    unfold typed at h
    split at h
    · cases h
    · rename_i ts hts
      have hc' : CtxOk (if o = 2 then ctx ++ [t] else ctx) := by
        split
        · rename_i e; exact hc.push (q.lam e)
        · exact hc
      obtain ⟨k1, k2, k3⟩ := typeds_ok l _ 0 q.parts hc' hts
      split at h
      · rename_i u' hr
        cases h
        obtain ⟨r1, r2⟩ := ruleT_ok hr hc q.lam k1
        exact ⟨r1, by rw [sizeL_mk]; omega⟩
      · cases h
theorem typeds_ok : ∀ (l : List Lam) (ctx : List Ty) (i : Nat) {us : List Ty}, shapeds l = true → CtxOk ctx → typeds ctx i l = .inl us → (∀ x, x ∈ us → formed x = true) ∧ sizeTs us ≤ 61 * sizeLs l ∧ us.length = l.length
  | [], ctx, i, us, hs, hc, h => by
    unfold typeds at h
    cases h
    exact ⟨fun x hx => (by cases hx), by simp [sizeTs], rfl⟩
  | x :: r, ctx, i, us, hs, hc, h => by
    unfold shapeds at hs
    simp only [Bool.and_eq_true] at hs
    unfold typeds at h
    split at h
    · cases h
    · rename_i u hu
      obtain ⟨a1, a2⟩ := typed_ok x ctx hs.1 hc hu
      split at h
      · cases h
      · rename_i us' hus
        cases h
        obtain ⟨b1, b2, b3⟩ := typeds_ok r ctx (i + 1) hs.2 hc hus
        refine ⟨fun y hy => ?_, by simp only [sizeTs, sizeLs]; omega, by simp [b3]⟩
        rcases List.mem_cons.1 hy with rfl | hy
        · exact a1
        · exact b1 y hy
end

mutual
theorem typed_path : ∀ (t : Lam) (ctx : List Ty) {p : List Nat}, typed ctx t = .inr p → p.length ≤ sizeL t
  | .mk o n t l, ctx, p, h => by
    unfold typed at h
    rw [sizeL_mk]
    split at h
    · rename_i p' hp
      cases h
      have := typeds_path l _ 0 hp
      omega
    · split at h
      · cases h
      · cases h; simp
theorem typeds_path : ∀ (l : List Lam) (ctx : List Ty) (i : Nat) {p : List Nat}, typeds ctx i l = .inr p → p.length ≤ sizeLs l + 1
  | [], ctx, i, p, h => by unfold typeds at h; cases h
  | x :: r, ctx, i, p, h => by
    unfold typeds at h
    unfold sizeLs
    split at h
    · rename_i p' hp
      cases h
      have := typed_path x ctx hp
      simp; omega
    · split at h
      · rename_i p' hp
        cases h
        have := typeds_path r ctx (i + 1) hp
        omega
      · cases h
end

end Go.Proofs.Aw.Sa
