/-
  SIMPLE, the plain part: types are kept by shifting, by putting in, by steps; closed terms without a step.
-/
import Derived.Test.YtkfcancichadgaaSaTy
import Derived.Test.YtkfcancichadgaaSaS15
set_option linter.unusedSimpArgs false
set_option linter.unusedVariables false
namespace Go.Proofs.Aw.Sa
open Go.Proofs

theorem typeds_len : ∀ (l : List Lam) (ctx : List Ty) (i : Nat) {us : List Ty}, typeds ctx i l = .inl us → us.length = l.length
  | [], ctx, i, us, h => by unfold typeds at h; cases h; rfl
  | x :: r, ctx, i, us, h => by
    unfold typeds at h
    split at h
    · cases h
    · split at h
      · cases h
      · rename_i us' hus
        cases h
        simp [typeds_len r ctx (i + 1) hus]

theorem ruleT_ctx {ctx ctx' : List Ty} {o n n' : Int} {t : Ty} {ts : List Ty} (h : o ≠ 1) : ruleT ctx o n t ts = ruleT ctx' o n' t ts := by
  unfold ruleT
  rw [if_neg h, if_neg h]

theorem fromEnd_app (G D : List Ty) (n : Int) (h0 : 0 ≤ n) : fromEnd (G ++ D) n = if n < D.length then fromEnd D n else fromEnd G (n - D.length) := by
  unfold fromEnd
  by_cases h : n < D.length
  · rw [if_pos h, if_pos (show 0 ≤ n ∧ n < ((G ++ D).length : Nat) from ⟨h0, by simp; omega⟩), if_pos (show 0 ≤ n ∧ n < (D.length : Nat) from ⟨h0, h⟩)]
    rw [List.getElem?_append_right (by simp; omega)]
    congr 1
    simp
    omega
  · rw [if_neg h]
    by_cases h2 : n < (G ++ D).length
    · have h3 : n - D.length < G.length := by simp at h2; omega
      rw [if_pos (show 0 ≤ n ∧ n < ((G ++ D).length : Nat) from ⟨h0, h2⟩), if_pos (show 0 ≤ n - (D.length : Nat) ∧ n - (D.length : Nat) < (G.length : Nat) from ⟨by omega, h3⟩)]
      rw [List.getElem?_append_left (by simp; omega)]
      congr 1
      simp
      omega
    · have h3 : ¬ n - D.length < G.length := by simp at h2; omega
      rw [if_neg (fun q => h2 q.2), if_neg (fun q => h3 q.2)]

theorem fromEnd_lo {ctx : List Ty} {n : Int} {u : Ty} (h : fromEnd ctx n = some u) : 0 ≤ n ∧ n < ctx.length := by
  unfold fromEnd at h
  split at h
  · rename_i q; exact q
  · cases h

theorem rt2_len {t : Ty} {ts : List Ty} {u : Ty} (h : rt2 t ts = some u) : ts.length = 1 := by
  unfold rt2 at h
  split at h
  · rfl
  · cases h

/-- What a node's type comes from. -/
theorem typed_split {ctx : List Ty} {o n : Int} {t : Ty} {l : List Lam} {u : Ty} (h : typed ctx (.mk o n t l) = .inl u) :
    ∃ ts, typeds (if o = 2 then ctx ++ [t] else ctx) 0 l = .inl ts ∧ ruleT ctx o n t ts = some u ∧ (o = 2 → l.length = 1) := by
  unfold typed at h
  split at h
  · cases h
  · rename_i ts hts
    split at h
    · rename_i u' hr
      cases h
      refine ⟨ts, hts, hr, fun e => ?_⟩
      have := typeds_len l _ 0 hts
      subst e
      have h2 := rt2_len (t := t) (ts := ts) (u := u) hr
      omega
    · cases h

theorem typed_join {ctx : List Ty} {o n : Int} {t : Ty} {l : List Lam} {u : Ty} {ts : List Ty} (h1 : typeds (if o = 2 then ctx ++ [t] else ctx) 0 l = .inl ts) (h2 : ruleT ctx o n t ts = some u) : typed ctx (.mk o n t l) = .inl u := by
  unfold typed
  rw [h1]
  simp only [h2]

theorem typeds_cons {ctx : List Ty} {i : Nat} {x : Lam} {r : List Lam} {us : List Ty} (h : typeds ctx i (x :: r) = .inl us) : ∃ u vs, us = u :: vs ∧ typed ctx x = .inl u ∧ typeds ctx (i + 1) r = .inl vs := by
  unfold typeds at h
  split at h
  · cases h
  · rename_i u hu
    split at h
    · cases h
    · rename_i vs hvs
      cases h
      exact ⟨u, vs, rfl, hu, hvs⟩

theorem typeds_mk {ctx : List Ty} {i : Nat} {x : Lam} {r : List Lam} {u : Ty} {vs : List Ty} (h1 : typed ctx x = .inl u) (h2 : typeds ctx (i + 1) r = .inl vs) : typeds ctx i (x :: r) = .inl (u :: vs) := by
  unfold typeds
  rw [h1]
  simp only [h2]

theorem bind1 {o : Int} {l : Nat} (h : o = 2 → l = 1) : bindsN o l = if o = 2 then 1 else 0 := by
  unfold bindsN
  by_cases e : o = 2
  · rw [if_pos ⟨e, h e⟩, if_pos e]
  · rw [if_neg (fun q => e q.1), if_neg e]

mutual
/-- Shifted, a term keeps its type in a longer context. -/
theorem typed_shift : ∀ (t : Lam) (G X D : List Ty) {u : Ty}, typed (G ++ D) t = .inl u → typed (G ++ X ++ D) (shift X.length D.length t) = .inl u
  | .mk o n t l, G, X, D, u, h => by
    obtain ⟨ts, h1, h2, h3⟩ := typed_split h
    have hb := bind1 h3
    unfold shift
    have k : typeds (if o = 2 then G ++ X ++ D ++ [t] else G ++ X ++ D) 0 (shifts X.length (D.length + bindsN o l.length) l) = .inl ts := by
      by_cases e : o = 2
      · rw [if_pos e] at h1 ⊢
        rw [hb, if_pos e]
        have := typeds_shift l G X (D ++ [t]) 0 (by rw [← List.append_assoc]; exact h1)
        rw [← List.append_assoc] at this
        simpa using this
      · rw [if_neg e] at h1 ⊢
        rw [hb, if_neg e, Int.add_zero]
        exact typeds_shift l G X D 0 h1
    by_cases c1 : o = 1
    · subst c1
      have hf : fromEnd (G ++ D) n = some u := h2
      obtain ⟨n0, n1⟩ := fromEnd_lo hf
      rw [fromEnd_app G D n n0] at hf
      refine typed_join k ?_
      show fromEnd (G ++ X ++ D) _ = some u
      by_cases c : n < D.length
      · rw [if_neg (by omega), fromEnd_app _ _ _ n0, if_pos c]
        rw [if_pos c] at hf
        exact hf
      · rw [if_pos ⟨rfl, n0, by omega, by omega⟩, fromEnd_app _ _ _ (by omega), if_neg (by omega), fromEnd_app _ _ _ (by omega), if_neg (by omega)]
        rw [if_neg c] at hf
        rw [show n + (X.length : Int) - D.length - X.length = n - D.length by omega]
        exact hf
    · refine typed_join k ?_
      rw [ruleT_ctx c1 (ctx' := G ++ D) (n' := n)]
      exact h2
theorem typeds_shift : ∀ (l : List Lam) (G X D : List Ty) (i : Nat) {us : List Ty}, typeds (G ++ D) i l = .inl us → typeds (G ++ X ++ D) i (shifts X.length D.length l) = .inl us
  | [], G, X, D, i, us, h => by
    unfold typeds at h
    cases h
    rfl
  | x :: r, G, X, D, i, us, h => by
    obtain ⟨u, vs, rfl, h1, h2⟩ := typeds_cons h
    unfold shifts
    exact typeds_mk (typed_shift x G X D h1) (typeds_shift r G X D (i + 1) h2)
end

mutual
/-- A term put in for a variable of its type keeps the type. -/
theorem typed_subst : ∀ (t : Lam) (G D : List Ty) (A : Ty) (s : Lam) {u : Ty}, typed (G ++ [A] ++ D) t = .inl u → typed G s = .inl A → typed (G ++ D) (subst 0 s D.length t) = .inl u
  | .mk o n t l, G, D, A, s, u, h, hs => by
    obtain ⟨ts, h1, h2, h3⟩ := typed_split h
    have hb := bind1 h3
    unfold subst
    have k : typeds (if o = 2 then G ++ D ++ [t] else G ++ D) 0 (substs 0 s (D.length + bindsN o l.length) l) = .inl ts := by
      by_cases e : o = 2
      · rw [if_pos e] at h1 ⊢
        rw [hb, if_pos e]
        have := typeds_subst l G (D ++ [t]) A s 0 (by rw [← List.append_assoc]; exact h1) hs
        rw [← List.append_assoc] at this
        simpa using this
      · rw [if_neg e] at h1 ⊢
        rw [hb, if_neg e, Int.add_zero]
        exact typeds_subst l G D A s 0 h1 hs
    by_cases c1 : o = 1
    · subst c1
      have hf : fromEnd (G ++ [A] ++ D) n = some u := h2
      obtain ⟨n0, n1⟩ := fromEnd_lo hf
      rw [fromEnd_app _ D n n0] at hf
      by_cases c : n < D.length
      · rw [if_pos c] at hf
        rw [if_neg (by omega)]
        refine typed_join k ?_
        show fromEnd (G ++ D) _ = some u
        rw [if_neg (by omega), fromEnd_app _ _ _ n0, if_pos c]
        exact hf
      · rw [if_neg c, fromEnd_app _ _ _ (by omega)] at hf
        by_cases c2 : n = D.length
        · rw [if_pos (by simp; omega)] at hf
          rw [show n - (D.length : Int) = 0 by omega] at hf
          have hA : A = u := by
            have : fromEnd [A] 0 = some A := rfl
            rw [this] at hf
            cases hf
            rfl
          subst hA
          rw [if_pos ⟨rfl, by omega⟩]
          have := typed_shift s G D [] (by simpa using hs)
          simpa using this
        · rw [if_neg (by simp; omega)] at hf
          rw [if_neg (by omega)]
          refine typed_join k ?_
          show fromEnd (G ++ D) _ = some u
          rw [if_pos ⟨rfl, by omega⟩, fromEnd_app _ _ _ (by omega), if_neg (by omega)]
          have e : n - 1 - (D.length : Int) = n - D.length - ([A].length : Nat) := by simp; omega
          rw [e]
          exact hf
    · rw [if_neg (by omega)]
      refine typed_join k ?_
      rw [ruleT_ctx c1 (ctx' := G ++ [A] ++ D) (n' := n)]
      exact h2
theorem typeds_subst : ∀ (l : List Lam) (G D : List Ty) (A : Ty) (s : Lam) (i : Nat) {us : List Ty}, typeds (G ++ [A] ++ D) i l = .inl us → typed G s = .inl A → typeds (G ++ D) i (substs 0 s D.length l) = .inl us
  | [], G, D, A, s, i, us, h, hs => by
    unfold typeds at h
    cases h
    rfl
  | x :: r, G, D, A, s, i, us, h, hs => by
    obtain ⟨u, vs, rfl, h1, h2⟩ := typeds_cons h
    unfold substs
    exact typeds_mk (typed_subst x G D A s h1 hs) (typeds_subst r G D A s (i + 1) h2 hs)
end

theorem typeds1 {ctx : List Ty} {i : Nat} {x : Lam} {us : List Ty} (h : typeds ctx i [x] = .inl us) : ∃ u, us = [u] ∧ typed ctx x = .inl u := by
  obtain ⟨u, vs, rfl, h1, h2⟩ := typeds_cons h
  unfold typeds at h2
  cases h2
  exact ⟨u, rfl, h1⟩
theorem typeds2 {ctx : List Ty} {i : Nat} {x y : Lam} {us : List Ty} (h : typeds ctx i [x, y] = .inl us) : ∃ u v, us = [u, v] ∧ typed ctx x = .inl u ∧ typed ctx y = .inl v := by
  obtain ⟨u, vs, rfl, h1, h2⟩ := typeds_cons h
  obtain ⟨v, rfl, h3⟩ := typeds1 h2
  exact ⟨u, v, rfl, h1, h3⟩
theorem typeds3 {ctx : List Ty} {i : Nat} {x y z : Lam} {us : List Ty} (h : typeds ctx i [x, y, z] = .inl us) : ∃ u v w, us = [u, v, w] ∧ typed ctx x = .inl u ∧ typed ctx y = .inl v ∧ typed ctx z = .inl w := by
  obtain ⟨u, vs, rfl, h1, h2⟩ := typeds_cons h
  obtain ⟨v, w, rfl, h3, h4⟩ := typeds2 h2
  exact ⟨u, v, w, rfl, h1, h3, h4⟩
theorem typeds0 {ctx : List Ty} {i : Nat} : typeds ctx i [] = .inl [] := rfl

theorem typed_num (ctx : List Ty) (n : Int) : typed ctx (lNum n) = .inl tNat := rfl

/-- A rule keeps the type. -/
theorem rule_keeps {ctx : List Ty} {t x : Lam} {u : Ty} (h : typed ctx t = .inl u) (hr : ruleL t = some x) : typed ctx x = .inl u := by
  cases t with
  | mk o m ty l =>
  obtain ⟨ts, h1, h2, h3⟩ := typed_split h
  by_cases c3 : o = 3
  · subst c3
    rw [ruleL_3] at hr
    rw [if_neg (by decide)] at h1
    unfold rule3 at hr
    split at hr
    · rename_i y a
      split at hr
      · rename_i b hb
        split at hr
        · rename_i hop
          cases hr
          obtain ⟨f, v, rfl, hf, ha⟩ := typeds2 h1
          cases y with
          | mk yo ym yt yl =>
          simp only [Lam.parts] at hb
          simp only [Lam.op] at hop
          subst hb
          subst hop
          obtain ⟨ts', g1, g2, g3⟩ := typed_split hf
          rw [if_pos rfl] at g1
          obtain ⟨ub, rfl, hbt⟩ := typeds1 g1
          have e : f = tTo yt ub := by
            have : ruleT ctx 2 ym yt [ub] = some (tTo yt ub) := rfl
            rw [this] at g2
            cases g2
            rfl
          subst e
          have h2' : (if sTo = sTo ∧ yt = v then some ub else none) = some u := h2
          split at h2'
          · rename_i q
            cases h2'
            have := typed_subst b ctx [] yt a (by simpa using hbt) (by rw [q.2]; exact ha)
            simpa using this
          · cases h2'
        · cases hr
      · cases hr
    · cases hr
  by_cases c5 : o = 5
  · subst c5
    rw [ruleL_5] at hr
    unfold rule5 at hr
    split at hr
    · split at hr
      · cases hr
        have h2' : rt5 ts = some u := h2
        unfold rt5 at h2'
        split at h2'
        · split at h2'
          · cases h2'; rfl
          · cases h2'
        · cases h2'
      · cases hr
    · cases hr
  by_cases c6 : o = 6
  · subst c6
    rw [ruleL_6] at hr
    rw [if_neg (by decide)] at h1
    unfold rule6 at hr
    split at hr
    · rename_i y f a
      obtain ⟨tn, tf, ta, rfl, hn, hf, ha⟩ := typeds3 h1
      have h2' : (if tn.name = sNat ∧ tf = tTo ta ta then some ta else none) = some u := h2
      split at h2'
      · rename_i q
        cases h2'
        split at hr
        · split at hr
          · cases hr; exact ha
          · cases hr
            have inner : typed ctx (.mk 6 0 tyZero [lNum (y.num - 1), f, a]) = .inl u := by
              refine typed_join (ts := [tNat, tf, u]) ?_ ?_
              · rw [if_neg (by decide)]
                exact typeds_mk (typed_num _ _) (typeds_mk hf (typeds_mk ha typeds0))
              · show (if tNat.name = sNat ∧ tf = tTo u u then some u else none) = some u
                rw [if_pos ⟨rfl, q.2⟩]
            refine typed_join (ts := [tf, u]) ?_ ?_
            · rw [if_neg (by decide)]
              exact typeds_mk hf (typeds_mk inner typeds0)
            · rw [q.2]
              show (if sTo = sTo ∧ u = u then some u else none) = some u
              rw [if_pos ⟨rfl, rfl⟩]
        · cases hr
      · cases h2'
    · cases hr
  by_cases c8 : o = 8
  · subst c8
    rw [ruleL_8] at hr
    rw [if_neg (by decide)] at h1
    unfold rule8 at hr
    split at hr
    · rename_i y
      split at hr
      · rename_i a b hb
        split at hr
        · rename_i hop
          cases hr
          obtain ⟨p, rfl, hp⟩ := typeds1 h1
          cases y with
          | mk yo ym yt yl =>
          simp only [Lam.parts] at hb
          simp only [Lam.op] at hop
          subst hb
          subst hop
          obtain ⟨ts', g1, g2, g3⟩ := typed_split hp
          rw [if_neg (by decide)] at g1
          obtain ⟨ua, ub, rfl, ka, kb⟩ := typeds2 g1
          have e : p = tPair ua ub := by
            have : ruleT ctx 7 ym yt [ua, ub] = some (tPair ua ub) := rfl
            rw [this] at g2
            cases g2
            rfl
          subst e
          have h2' : (if sPair = sPair then some ua else none) = some u := h2
          rw [if_pos rfl] at h2'
          cases h2'
          exact ka
        · cases hr
      · cases hr
    · cases hr
  by_cases c9 : o = 9
  · subst c9
    rw [ruleL_9] at hr
    rw [if_neg (by decide)] at h1
    unfold rule9 at hr
    split at hr
    · rename_i y
      split at hr
      · rename_i a b hb
        split at hr
        · rename_i hop
          cases hr
          obtain ⟨p, rfl, hp⟩ := typeds1 h1
          cases y with
          | mk yo ym yt yl =>
          simp only [Lam.parts] at hb
          simp only [Lam.op] at hop
          subst hb
          subst hop
          obtain ⟨ts', g1, g2, g3⟩ := typed_split hp
          rw [if_neg (by decide)] at g1
          obtain ⟨ua, ub, rfl, ka, kb⟩ := typeds2 g1
          have e : p = tPair ua ub := by
            have : ruleT ctx 7 ym yt [ua, ub] = some (tPair ua ub) := rfl
            rw [this] at g2
            cases g2
            rfl
          subst e
          have h2' : (if sPair = sPair then some ub else none) = some u := h2
          rw [if_pos rfl] at h2'
          cases h2'
          exact kb
        · cases hr
      · cases hr
    · cases hr
  rw [ruleL_no c3 c5 c6 c8 c9] at hr
  cases hr

mutual
/-- A step keeps the type. -/
theorem step_keeps : ∀ (t : Lam) (ctx : List Ty) {x : Lam} {p : List Nat} {u : Ty}, typed ctx t = .inl u → stepL t = some (x, p) → typed ctx x = .inl u
  | .mk o m ty l, ctx, x, p, u, h, hs => by
    unfold stepL at hs
    split at hs
    · rename_i y hy
      cases hs
      exact rule_keeps h hy
    · split at hs
      · rename_i l' p' h2
        cases hs
        obtain ⟨ts, h1, hr, h3⟩ := typed_split h
        exact typed_join (steps_keep l _ 0 0 h1 h2) hr
      · cases hs
theorem steps_keep : ∀ (l : List Lam) (ctx : List Ty) (i j : Nat) {r : List Lam} {p : List Nat} {us : List Ty}, typeds ctx i l = .inl us → stepLs j l = some (r, p) → typeds ctx i r = .inl us
  | [], ctx, i, j, r, p, us, h, hs => by simp [stepLs] at hs
  | x :: l, ctx, i, j, r, p, us, h, hs => by
    obtain ⟨u, vs, rfl, h1, h2⟩ := typeds_cons h
    unfold stepLs at hs
    split at hs
    · rename_i y p' hy
      cases hs
      exact typeds_mk (step_keeps x ctx h1 hy) h2
    · split at hs
      · rename_i r' p' hr
        cases hs
        exact typeds_mk h1 (steps_keep l ctx (i + 1) (j + 1) h2 hr)
      · cases hs
end

theorem normal_keeps : ∀ (rem n : Nat) (t : Lam) (ctx : List Ty) {x : Lam} {k : Nat} {u : Ty}, normalL rem n t = some (x, k) → typed ctx t = .inl u → typed ctx x = .inl u := by
  intro rem
  induction rem with
  | zero =>
    intro n t ctx x k u h ht
    unfold normalL at h
    split at h
    · cases h; exact ht
    · cases h
  | succ rem ih =>
    intro n t ctx x k u h ht
    unfold normalL at h
    split at h
    · cases h; exact ht
    · rename_i s p hs
      simp only at h
      split at h
      · cases h
      · exact ih (n + 1) s ctx h (step_keeps t ctx ht hs)

/-- More fuel changes nothing where there is a normal form. -/
theorem normal_more : ∀ (rem rem' n : Nat) (t : Lam) {r : Lam × Nat}, normalL rem n t = some r → rem ≤ rem' → normalL rem' n t = some r := by
  intro rem
  induction rem with
  | zero =>
    intro rem' n t r h hle
    unfold normalL at h ⊢
    cases hs : stepL t with
    | none => rw [hs] at h; exact h
    | some sp => rw [hs] at h; cases h
  | succ rem ih =>
    intro rem' n t r h hle
    obtain ⟨rem', rfl⟩ : ∃ k, rem' = k + 1 := ⟨rem' - 1, by omega⟩
    unfold normalL at h ⊢
    cases hs : stepL t with
    | none => rw [hs] at h; exact h
    | some sp =>
      obtain ⟨s, p⟩ := sp
      rw [hs] at h
      simp only at h ⊢
      split at h
      · cases h
      · rename_i hb
        rw [if_neg hb]
        exact ih rem' (n + 1) s h (by omega)

/-- What a closed term without a step is, by the name of its type. -/
def shownN (s : List UInt8) : Int := if s = sTo then 2 else if s = sPair then 7 else 4

theorem step_none {o m : Int} {t : Ty} {l : List Lam} (h : stepL (.mk o m t l) = none) : ruleL (.mk o m t l) = none ∧ ∀ x, x ∈ l → stepL x = none := by
  unfold stepL at h
  split at h
  · cases h
  · rename_i hr
    refine ⟨hr, ?_⟩
    split at h
    · cases h
    · rename_i hs
      have key : ∀ (l : List Lam) (i : Nat), stepLs i l = none → ∀ x, x ∈ l → stepL x = none := by
        intro l
        induction l with
        | nil => intro i _ x hx; cases hx
        | cons a r ih =>
          intro i hq x hx
          unfold stepLs at hq
          split at hq
          · cases hq
          · rename_i ha
            split at hq
            · cases hq
            · rename_i hr2
              rcases List.mem_cons.1 hx with rfl | hx
              · exact ha
              · exact ih (i + 1) hr2 x hx
      exact key l 0 hs

mutual
theorem progress : ∀ (t : Lam) {u : Ty}, shaped t = true → typed [] t = .inl u → stepL t = none → t.op = shownN u.name
  | .mk o m ty l, u, hsh, h, hs => by
    have q := shaped_eq hsh
    obtain ⟨ts, h1, h2, h3⟩ := typed_split h
    obtain ⟨hr, hch⟩ := step_none hs
    show o = shownN u.name
    by_cases c1 : o = 1
    · subst c1
      have hf : fromEnd [] m = some u := h2
      have := fromEnd_lo hf
      simp at this
      omega
    by_cases c2 : o = 2
    · subst c2
      have h2' : rt2 ty ts = some u := h2
      unfold rt2 at h2'
      split at h2'
      · cases h2'; rfl
      · cases h2'
    rw [if_neg c2] at h1
    have kids := progresses l q.parts h1 hch
    by_cases c3 : o = 3
    · subst c3
      exfalso
      obtain ⟨x, a, rfl⟩ := len2 q.len
      obtain ⟨f, v, rfl, hf, ha⟩ := typeds2 h1
      have h2' : (match f.parts with | [x, y] => if f.name = sTo ∧ x = v then some y else none | _ => none) = some u := h2
      have hn : f.name = sTo := by
        split at h2'
        · split at h2'
          · rename_i q2; exact q2.1
          · cases h2'
        · cases h2'
      have hx := kids x f (by simp) hf
      rw [hn] at hx
      have hx2 : x.op = 2 := hx
      have hp := q.parts
      simp only [shapeds, Bool.and_eq_true] at hp
      cases x with
      | mk xo xm xt xl =>
      simp only [Lam.op] at hx2
      subst hx2
      have qx := shaped_eq hp.1
      obtain ⟨b, rfl⟩ := len1 qx.len
      rw [ruleL_3, rule3_some (b := b) rfl rfl] at hr
      cases hr
    by_cases c4 : o = 4
    · subst c4
      have h2' : some tNat = some u := h2
      cases h2'
      rfl
    by_cases c5 : o = 5
    · subst c5
      exfalso
      obtain ⟨x, rfl⟩ := len1 q.len
      obtain ⟨f, rfl, hf⟩ := typeds1 h1
      have h2' : (if f.name = sNat then some tNat else none) = some u := h2
      have hn : f.name = sNat := by
        split at h2'
        · assumption
        · cases h2'
      have hx := kids x f (by simp) hf
      rw [hn] at hx
      have hx2 : x.op = 4 := hx
      have hp := q.parts
      simp only [shapeds, Bool.and_eq_true] at hp
      cases x with
      | mk xo xm xt xl =>
      simp only [Lam.op] at hx2
      subst hx2
      have qx := shaped_eq hp.1
      have hxl : xl = [] := by have := qx.len; cases xl with | nil => rfl | cons a b => simp [partsN] at this; omega
      subst hxl
      have hi := qx.hi
      have lo := qx.lo
      have : topN 4 = 1000 := rfl
      rw [ruleL_5, rule5_eq, if_pos ⟨rfl, rfl, lo, by simp only [Lam.num]; omega⟩] at hr
      cases hr
    by_cases c6 : o = 6
    · subst c6
      exfalso
      obtain ⟨x, f, a, rfl⟩ := len3 q.len
      obtain ⟨tn, tf, ta, rfl, hn, hf, ha⟩ := typeds3 h1
      have h2' : (if tn.name = sNat ∧ tf = tTo ta ta then some ta else none) = some u := h2
      have hnn : tn.name = sNat := by
        split at h2'
        · rename_i q2; exact q2.1
        · cases h2'
      have hx := kids x tn (by simp) hn
      rw [hnn] at hx
      have hx2 : x.op = 4 := hx
      have hp := q.parts
      simp only [shapeds, Bool.and_eq_true] at hp
      cases x with
      | mk xo xm xt xl =>
      simp only [Lam.op] at hx2
      subst hx2
      have qx := shaped_eq hp.1
      have hxl : xl = [] := by have := qx.len; cases xl with | nil => rfl | cons a b => simp [partsN] at this; omega
      subst hxl
      rw [ruleL_6, rule6_eq, if_pos ⟨rfl, rfl⟩] at hr
      split at hr <;> cases hr
    by_cases c7 : o = 7
    · subst c7
      have h2' : rt7 ts = some u := h2
      unfold rt7 at h2'
      split at h2'
      · cases h2'; rfl
      · cases h2'
    by_cases c8 : o = 8
    · subst c8
      exfalso
      obtain ⟨x, rfl⟩ := len1 q.len
      obtain ⟨f, rfl, hf⟩ := typeds1 h1
      have h2' : (match f.parts with | [a, _] => if f.name = sPair then some a else none | _ => none) = some u := h2
      have hn : f.name = sPair := by
        split at h2'
        · split at h2'
          · assumption
          · cases h2'
        · cases h2'
      have hx := kids x f (by simp) hf
      rw [hn] at hx
      have hx2 : x.op = 7 := hx
      have hp := q.parts
      simp only [shapeds, Bool.and_eq_true] at hp
      cases x with
      | mk xo xm xt xl =>
      simp only [Lam.op] at hx2
      subst hx2
      have qx := shaped_eq hp.1
      obtain ⟨a, b, rfl⟩ := len2 qx.len
      rw [ruleL_8, rule8_some (a := a) (b := b) rfl rfl] at hr
      cases hr
    by_cases c9 : o = 9
    · subst c9
      exfalso
      obtain ⟨x, rfl⟩ := len1 q.len
      obtain ⟨f, rfl, hf⟩ := typeds1 h1
      have h2' : (match f.parts with | [_, b] => if f.name = sPair then some b else none | _ => none) = some u := h2
      have hn : f.name = sPair := by
        split at h2'
        · split at h2'
          · assumption
          · cases h2'
        · cases h2'
      have hx := kids x f (by simp) hf
      rw [hn] at hx
      have hx2 : x.op = 7 := hx
      have hp := q.parts
      simp only [shapeds, Bool.and_eq_true] at hp
      cases x with
      | mk xo xm xt xl =>
      simp only [Lam.op] at hx2
      subst hx2
      have qx := shaped_eq hp.1
      obtain ⟨a, b, rfl⟩ := len2 qx.len
      rw [ruleL_9, rule9_some (a := a) (b := b) rfl rfl] at hr
      cases hr
    exfalso
    have := q.len
    unfold partsN at this
    rw [if_neg (by omega), if_neg (by omega), if_neg (by omega), if_neg (by omega)] at this
    omega
theorem progresses : ∀ (l : List Lam) {us : List Ty} {i : Nat}, shapeds l = true → typeds [] i l = .inl us → (∀ x, x ∈ l → stepL x = none) → ∀ x u, x ∈ l → typed [] x = .inl u → x.op = shownN u.name
  | [], us, i, hs, h, hn, x, u, hx, hu => by cases hx
  | y :: r, us, i, hs, h, hn, x, u, hx, hu => by
    simp only [shapeds, Bool.and_eq_true] at hs
    obtain ⟨w, vs, _, h1, h2⟩ := typeds_cons h
    have hy := progress y hs.1 h1 (hn y (by simp))
    have hr := progresses r hs.2 h2 (fun z hz => hn z (by simp [hz]))
    rcases List.mem_cons.1 hx with e | hx
    · rw [e] at hu ⊢
      rw [h1] at hu
      cases hu
      exact hy
    · exact hr x u hx hu
end

end Go.Proofs.Aw.Sa
