/- SIMPLE: what the functions that the law reaches come to, and why. -/
import Derived.Test.YtominoddfkpflaaDoorPart2
import Derived.Test.YtominoddfkpflaaDoorPart1
import Derived.Test.YtominoddfkpflaaDoorCw4
set_option linter.unusedSimpArgs false
set_option linter.unusedVariables false

/-
  THE INFERER'S WORLD 8: infer, case by case: what is meant.
-/
section
namespace Go.Proofs.Cw.Si
open Go.Proofs
section
variable {f m : Nat} {N : NT} {next : Nat} {es : Bd} {ctx : List Nat} {G : World'}
theorem Wok.solAdd (w : Wok G f m N next es) {i : Nat} {nd : Nd} (hi : N i = none) {θ : Nat → FT} : Sol (N.add i nd) es θ ↔ Sol N es θ := by
 constructor
 ·intro h k j hk
  obtain ⟨x, hx⟩ := w.tg k j hk
  exact (h k j hk).down (NT.le_add hi) w.kid hx
 ·intro h k j hk
  exact (h k j hk).le (NT.le_add hi)
theorem Wok.solUpd (w : Wok G f m N next es) {θ η : Nat → FT} (ha : ∀ k, k ≤ next → η k = θ k) (h : Sol N es θ) : Sol N es η := fun k j hk => by
 rw [ha k (w.key hk)]
 exact (h k j hk).agree w.le ha
theorem Infd.var (w : Wok G f m N next es) {G' : World'} (w' : Wok G' f m N next es) {k : Int} {t : Ty} {i : Nat} (h0 : 0 ≤ k) (h1 : k < ctx.length) (hi : ctx[ctx.length - 1 - k.toNat]? = some i) (hn : ∃ nd, N i = some nd) :
  Infd f m N next es ctx [.mk 1 k t []] G G' [i] N next es where
 w := w'
 le := fun _ _ h => h
 lo := Nat.le_refl _
 hi := by omega
 kn j hj := by rw [List.mem_singleton.1 hj]; exact hn
 sound θ sol := ⟨sol, fun Γ hΓ => by
  obtain ⟨x, hx, hv⟩ := hΓ.get hi
  have hl := hΓ.length
  exact ⟨[x], .cons hv .nil, .cons (.var h0 (by rw [hl]; exact h1) (by rw [hl]; exact hx)) .nil⟩⟩
 full θ Γ τs sol hΓ hl := by
  cases hl with
  | cons h hn =>
   cases hn
   cases h with
   | var _ _ hx =>
    obtain ⟨y, hy, hv⟩ := hΓ.get hi
    rw [← hΓ.length] at hy
    rw [hx] at hy; cases hy
    exact ⟨θ, fun _ _ => rfl, sol, .cons hv .nil⟩
theorem Infd.num (w : Wok G f m N next es) {k : Int} {t : Ty} : Infd f m N next es ctx [.mk 4 k t []] G (G ++ [Nd.nat.obj]) [G.length] (N.add G.length .nat) next es where
 w := w.add (fun k e => by cases e) (fun p a b e => by cases e)
 le := NT.le_add w.new.1
 lo := Nat.le_refl _
 hi := by omega
 kn j hj := by rw [List.mem_singleton.1 hj]; exact ⟨_, N.add_self _ _⟩
 sound θ sol := ⟨(w.solAdd w.new.1).1 sol, fun Γ _ => ⟨[.nat], .cons (.nat (N.add_self _ _)) .nil, .cons .num .nil⟩⟩
 full θ Γ τs sol hΓ hl := by
  cases hl with
  | cons h hn =>
   cases hn
   cases h with
   | num => exact ⟨θ, fun _ _ => rfl, (w.solAdd w.new.1).2 sol, .cons (.nat (N.add_self _ _)) .nil⟩
theorem Infd.pair {N1 : NT} {next1 : Nat} {es1 : Bd} {G1 G2 : World'} {x y : Lam} {k : Int} {t : Ty} {a b : Nat} (h : Infd f m N next es ctx [x, y] G G1 [a, b] N1 next1 es1) (w2 : Wok G2 f m N1 next1 es1) :
  Infd f m N next es ctx [.mk 7 k t [x, y]] G (G2 ++ [(Nd.bin false a b).obj]) [G2.length] (N1.add G2.length (.bin false a b)) next1 es1 where
 w := w2.add (fun k e => by cases e) (fun p a' b' e => by cases e; exact ⟨h.kn a (by simp), h.kn b (by simp)⟩)
 le := h.le.trans (NT.le_add w2.new.1)
 lo := h.lo
 hi := by have := h.hi; simp only [sizeLs, sizeL] at this ⊢; omega
 kn j hj := by rw [List.mem_singleton.1 hj]; exact ⟨_, N1.add_self _ _⟩
 sound θ sol := by
  have sol1 := (w2.solAdd w2.new.1).1 sol
  obtain ⟨s0, k0⟩ := h.sound θ sol1
  refine ⟨s0, fun Γ hΓ => ?_⟩
  obtain ⟨τs, hv, hh⟩ := k0 Γ hΓ
  cases hh with
  | cons h1 hh =>
   cases hh with
   | cons h2 hh =>
    cases hh
    cases hv with
    | cons v1 hv =>
     cases hv with
     | cons v2 _ => exact ⟨_, .cons (.bin (N1.add_self _ _) (v1.le (NT.le_add w2.new.1)) (v2.le (NT.le_add w2.new.1))) .nil, .cons (.pair h1 h2) .nil⟩
 full θ Γ τs sol hΓ hl := by
  cases hl with
  | cons hh hn =>
   cases hn
   cases hh with
   | pair h1 h2 =>
    obtain ⟨θ', g, s, v⟩ := h.full θ Γ _ sol hΓ (.cons h1 (.cons h2 .nil))
    refine ⟨θ', g, (w2.solAdd w2.new.1).2 s, ?_⟩
    cases v with
    | cons v1 v =>
     cases v with
     | cons v2 _ => exact .cons (.bin (N1.add_self _ _) (v1.le (NT.le_add w2.new.1)) (v2.le (NT.le_add w2.new.1))) .nil
theorem HasL.one {Γ : List FT} {t : Lam} {τs : List FT} (h : HasL Γ [t] τs) : ∃ τ, τs = [τ] ∧ Has Γ t τ := by
 cases h with
 | cons h hn => cases hn; exact ⟨_, rfl, h⟩
theorem Vals.one {θ : Nat → FT} {a : Nat} {τs : List FT} (h : Vals N θ [a] τs) : ∃ τ, τs = [τ] ∧ Val N θ a τ := by
 cases h with
 | cons h hn => cases hn; exact ⟨_, rfl, h⟩
theorem Vals.one_of {θ : Nat → FT} {a : Nat} {τ : FT} (h : Vals N θ [a] [τ]) : Val N θ a τ := by
 cases h with
 | cons h _ => exact h
theorem Infd.suc {N1 : NT} {next1 : Nat} {es1 es2 : Bd} {G1 G2 : World'} {x : Lam} {k : Int} {t : Ty} {a num : Nat} (h : Infd f m N next es ctx [x] G G1 [a] N1 next1 es1) (hnum : N1 num = none)
  (w2 : Wok G2 f m (N1.add num .nat) next1 es2) (iff : ∀ θ, Sol (N1.add num .nat) es2 θ ↔ Sol (N1.add num .nat) es1 θ ∧ Eqv (N1.add num .nat) θ a num) :
  Infd f m N next es ctx [.mk 5 k t [x]] G G2 [num] (N1.add num .nat) next1 es2 where
 w := w2
 le := h.le.trans (NT.le_add hnum)
 lo := h.lo
 hi := by have := h.hi; simp only [sizeLs, sizeL] at this ⊢; omega
 kn j hj := by rw [List.mem_singleton.1 hj]; exact ⟨_, N1.add_self _ _⟩
 sound θ sol := by
  obtain ⟨sol2, v, e1, e2⟩ := (iff θ).1 sol
  obtain ⟨s0, k0⟩ := h.sound θ ((h.w.solAdd hnum).1 sol2)
  refine ⟨s0, fun Γ hΓ => ?_⟩
  obtain ⟨τs, hv, hh⟩ := k0 Γ hΓ
  obtain ⟨τ, rfl, hx⟩ := hh.one
  have hv2 := hv.one_of.le (NT.le_add (nd := .nat) hnum)
  rw [Val.nat_inv (N1.add_self _ _) e2] at e1
  rw [hv2.det e1] at hx
  exact ⟨[.nat], .cons (.nat (N1.add_self _ _)) .nil, .cons (.suc hx) .nil⟩
 full θ Γ τs sol hΓ hl := by
  obtain ⟨τ, rfl, hh⟩ := hl.one
  cases hh with
  | suc hx =>
   obtain ⟨θ', g, s, v⟩ := h.full θ Γ _ sol hΓ (.cons hx .nil)
   exact ⟨θ', g, (iff θ').2 ⟨(h.w.solAdd hnum).2 s, .nat, v.one_of.le (NT.le_add hnum), .nat (N1.add_self _ _)⟩, .cons (.nat (N1.add_self _ _)) .nil⟩
theorem Infd.suc_no {N1 : NT} {next1 : Nat} {es1 : Bd} {G1 : World'} {x : Lam} {k : Int} {t : Ty} {a num : Nat} (h : Infd f m N next es ctx [x] G G1 [a] N1 next1 es1) (hnum : N1 num = none)
  (no : ∀ θ, Sol (N1.add num .nat) es1 θ → ¬ Eqv (N1.add num .nat) θ a num) : Non N es ctx [.mk 5 k t [x]] := fun θ Γ τs sol hΓ hl => by
 obtain ⟨τ, rfl, hh⟩ := hl.one
 cases hh with
 | suc hx =>
  obtain ⟨θ', g, s, v⟩ := h.full θ Γ _ sol hΓ (.cons hx .nil)
  exact no θ' ((h.w.solAdd hnum).2 s) ⟨.nat, v.one_of.le (NT.le_add hnum), .nat (N1.add_self _ _)⟩
theorem Non.parts {o k : Int} {t : Ty} {l : List Lam} (h : Non N es ctx l) (ho : ∀ Γ τ, Has Γ (.mk o k t l) τ → ∃ τs, HasL Γ l τs) : Non N es ctx [.mk o k t l] := fun θ Γ τs sol hΓ hl => by
 obtain ⟨τ, rfl, hh⟩ := hl.one
 obtain ⟨σs, hs⟩ := ho Γ τ hh
 exact h θ Γ σs sol hΓ hs
end
end Go.Proofs.Cw.Si
end

/-
  THE INFERER'S WORLD 9: infer, case by case: what is meant: applications, parts of pairs.
-/
section
namespace Go.Proofs.Cw.Si
open Go.Proofs
def updF (θ : Nat → FT) (k : Nat) (x : FT) : Nat → FT := fun j => if j = k then x else θ j
theorem updF_self (θ : Nat → FT) (k : Nat) (x : FT) : updF θ k x k = x := by simp [updF]
theorem updF_le {θ : Nat → FT} {n : Nat} {x : FT} : ∀ k, k ≤ n → updF θ (n + 1) x k = θ k := fun k h => by unfold updF; rw [if_neg (by omega)]
section
variable {f m : Nat} {N : NT} {next : Nat} {es : Bd} {ctx : List Nat} {G : World'}
theorem Infd.app {N1 : NT} {next1 : Nat} {es1 es2 : Bd} {G1 G2 G3 : World'} {x y : Lam} {k : Int} {t : Ty} {a b r p : Nat} (h : Infd f m N next es ctx [x, y] G G1 [a, b] N1 next1 es1) (hr : N1 r = none)
  (w2 : Wok G2 f m (N1.add r (.unk (next1 + 1))) (next1 + 1) es1) (hp : N1.add r (.unk (next1 + 1)) p = none)
  (w3 : Wok G3 f m ((N1.add r (.unk (next1 + 1))).add p (.bin true b r)) (next1 + 1) es2)
  (iff : ∀ θ, Sol ((N1.add r (.unk (next1 + 1))).add p (.bin true b r)) es2 θ ↔ Sol ((N1.add r (.unk (next1 + 1))).add p (.bin true b r)) es1 θ ∧ Eqv ((N1.add r (.unk (next1 + 1))).add p (.bin true b r)) θ a p) :
  Infd f m N next es ctx [.mk 3 k t [x, y]] G G3 [r] ((N1.add r (.unk (next1 + 1))).add p (.bin true b r)) (next1 + 1) es2 := by
 have le1 : N1.Le (N1.add r (.unk (next1 + 1))) := NT.le_add hr
 have le2 : (N1.add r (.unk (next1 + 1))).Le ((N1.add r (.unk (next1 + 1))).add p (.bin true b r)) := NT.le_add hp
 have hr3 : (N1.add r (.unk (next1 + 1))).add p (.bin true b r) r = some (.unk (next1 + 1)) := le2 _ _ (N1.add_self _ _)
 have hp3 : (N1.add r (.unk (next1 + 1))).add p (.bin true b r) p = some (.bin true b r) := NT.add_self _ _ _
 refine ⟨w3, h.le.trans (le1.trans le2), by have := h.lo; omega, by have := h.hi; simp only [sizeLs, sizeL] at this ⊢; omega, fun j hj => by rw [List.mem_singleton.1 hj]; exact ⟨_, hr3⟩, fun θ sol => ?_, fun θ Γ τs sol hΓ hl => ?_⟩
 ·obtain ⟨sol3, v, e1, e2⟩ := (iff θ).1 sol
  obtain ⟨s0, k0⟩ := h.sound θ ((h.w.solAdd hr).1 ((w2.solAdd hp).1 sol3))
  refine ⟨s0, fun Γ hΓ => ?_⟩
  obtain ⟨τs, hv, hh⟩ := k0 Γ hΓ
  cases hh with
  | cons h1 hh =>
   cases hh with
   | cons h2 hh =>
    cases hh
    cases hv with
    | cons v1 hv =>
     have v2 := hv.one_of
     obtain ⟨y1, y2, rfl, u1, u2⟩ := Val.bin_inv hp3 e2
     rw [((v1.le le1).le le2).det e1] at h1
     rw [((v2.le le1).le le2).det u1] at h2
     exact ⟨[y2], .cons u2 .nil, .cons (.app h1 h2) .nil⟩
 ·obtain ⟨τ, rfl, hh⟩ := hl.one
  cases hh with
  | @app _ _ _ _ _ A _ h1 h2 =>
   obtain ⟨θ', g, s, v⟩ := h.full θ Γ _ sol hΓ (.cons h1 (.cons h2 .nil))
   have ag : ∀ j, j ≤ next1 → updF θ' (next1 + 1) τ j = θ' j := updF_le
   cases v with
   | cons v1 v =>
    have v2 := v.one_of
    have v1 := (((v1.agree h.w.le ag).le le1).le le2)
    have v2 := (((v2.agree h.w.le ag).le le1).le le2)
    have vr : Val ((N1.add r (.unk (next1 + 1))).add p (.bin true b r)) (updF θ' (next1 + 1) τ) r τ := by
     have := Val.unk (θ := updF θ' (next1 + 1) τ) hr3
     rwa [updF_self] at this
    exact ⟨updF θ' (next1 + 1) τ, fun j hj => by rw [ag j (by have := h.lo; omega), g j hj], (iff _).2 ⟨(w2.solAdd hp).2 ((h.w.solAdd hr).2 (h.w.solUpd ag s)), _, v1, .bin hp3 v2 vr⟩, .cons vr .nil⟩
theorem Infd.app_no {N1 : NT} {next1 : Nat} {es1 : Bd} {G1 G2 : World'} {x y : Lam} {k : Int} {t : Ty} {a b r p : Nat} (h : Infd f m N next es ctx [x, y] G G1 [a, b] N1 next1 es1) (hr : N1 r = none)
  (w2 : Wok G2 f m (N1.add r (.unk (next1 + 1))) (next1 + 1) es1) (hp : N1.add r (.unk (next1 + 1)) p = none)
  (no : ∀ θ, Sol ((N1.add r (.unk (next1 + 1))).add p (.bin true b r)) es1 θ → ¬ Eqv ((N1.add r (.unk (next1 + 1))).add p (.bin true b r)) θ a p) : Non N es ctx [.mk 3 k t [x, y]] := by
 have le1 : N1.Le (N1.add r (.unk (next1 + 1))) := NT.le_add hr
 have le2 : (N1.add r (.unk (next1 + 1))).Le ((N1.add r (.unk (next1 + 1))).add p (.bin true b r)) := NT.le_add hp
 have hr3 : (N1.add r (.unk (next1 + 1))).add p (.bin true b r) r = some (.unk (next1 + 1)) := le2 _ _ (N1.add_self _ _)
 have hp3 : (N1.add r (.unk (next1 + 1))).add p (.bin true b r) p = some (.bin true b r) := NT.add_self _ _ _
 intro θ Γ τs sol hΓ hl
 obtain ⟨τ, rfl, hh⟩ := hl.one
 cases hh with
 | @app _ _ _ _ _ A _ h1 h2 =>
  obtain ⟨θ', g, s, v⟩ := h.full θ Γ _ sol hΓ (.cons h1 (.cons h2 .nil))
  have ag : ∀ j, j ≤ next1 → updF θ' (next1 + 1) τ j = θ' j := updF_le
  cases v with
  | cons v1 v =>
   have v2 := v.one_of
   have v1 := (((v1.agree h.w.le ag).le le1).le le2)
   have v2 := (((v2.agree h.w.le ag).le le1).le le2)
   have vr : Val ((N1.add r (.unk (next1 + 1))).add p (.bin true b r)) (updF θ' (next1 + 1) τ) r τ := by
    have := Val.unk (θ := updF θ' (next1 + 1) τ) hr3
    rwa [updF_self] at this
   exact no _ ((w2.solAdd hp).2 ((h.w.solAdd hr).2 (h.w.solUpd ag s))) ⟨_, v1, .bin hp3 v2 vr⟩
theorem Infd.iter {N1 : NT} {next1 : Nat} {es1 es2 es3 : Bd} {G1 G2 G3 : World'} {x y z : Lam} {k : Int} {t : Ty} {a b c num p : Nat} (h : Infd f m N next es ctx [x, y, z] G G1 [a, b, c] N1 next1 es1) (hn : N1 num = none)
  (w2 : Wok G2 f m (N1.add num .nat) next1 es2) (iff1 : ∀ θ, Sol (N1.add num .nat) es2 θ ↔ Sol (N1.add num .nat) es1 θ ∧ Eqv (N1.add num .nat) θ a num) (hp : N1.add num .nat p = none)
  (w3 : Wok G3 f m ((N1.add num .nat).add p (.bin true c c)) next1 es3)
  (iff2 : ∀ θ, Sol ((N1.add num .nat).add p (.bin true c c)) es3 θ ↔ Sol ((N1.add num .nat).add p (.bin true c c)) es2 θ ∧ Eqv ((N1.add num .nat).add p (.bin true c c)) θ b p) :
  Infd f m N next es ctx [.mk 6 k t [x, y, z]] G G3 [c] ((N1.add num .nat).add p (.bin true c c)) next1 es3 := by
 have le1 : N1.Le (N1.add num .nat) := NT.le_add hn
 have le2 : (N1.add num .nat).Le ((N1.add num .nat).add p (.bin true c c)) := NT.le_add hp
 have hp3 : (N1.add num .nat).add p (.bin true c c) p = some (.bin true c c) := NT.add_self _ _ _
 refine ⟨w3, h.le.trans (le1.trans le2), h.lo, by have := h.hi; simp only [sizeLs, sizeL] at this ⊢; omega, fun j hj => by
  rw [List.mem_singleton.1 hj]
  obtain ⟨nd, hnd⟩ := h.kn c (by simp)
  exact ⟨nd, le2 _ _ (le1 _ _ hnd)⟩, fun θ sol => ?_, fun θ Γ τs sol hΓ hl => ?_⟩
 ·obtain ⟨sol3, v, e1, e2⟩ := (iff2 θ).1 sol
  obtain ⟨sol2, v', e3, e4⟩ := (iff1 θ).1 ((w2.solAdd hp).1 sol3)
  obtain ⟨s0, k0⟩ := h.sound θ ((h.w.solAdd hn).1 sol2)
  refine ⟨s0, fun Γ hΓ => ?_⟩
  obtain ⟨τs, hv, hh⟩ := k0 Γ hΓ
  cases hh with
  | cons h1 hh =>
   cases hh with
   | cons h2 hh =>
    obtain ⟨τ, rfl, h3⟩ := hh.one
    cases hv with
    | cons v1 hv =>
     cases hv with
     | cons v2 hv =>
      have v3 := hv.one_of
      rw [Val.nat_inv (N1.add_self _ _) e4] at e3
      rw [(v1.le le1).det e3] at h1
      obtain ⟨y1, y2, rfl, u1, u2⟩ := Val.bin_inv hp3 e2
      have d1 := ((v3.le le1).le le2).det u1
      have d2 := ((v3.le le1).le le2).det u2
      subst d1; subst d2
      rw [((v2.le le1).le le2).det e1] at h2
      exact ⟨[_], .cons ((v3.le le1).le le2) .nil, .cons (.iter h1 h2 h3) .nil⟩
 ·obtain ⟨τ, rfl, hh⟩ := hl.one
  cases hh with
  | iter h1 h2 h3 =>
   obtain ⟨θ', g, s, v⟩ := h.full θ Γ _ sol hΓ (.cons h1 (.cons h2 (.cons h3 .nil)))
   cases v with
   | cons v1 v =>
    cases v with
    | cons v2 v =>
     have v3 := v.one_of
     have s2 := (iff1 θ').2 ⟨(h.w.solAdd hn).2 s, _, v1.le le1, .nat (N1.add_self _ _)⟩
     exact ⟨θ', g, (iff2 θ').2 ⟨(w2.solAdd hp).2 s2, _, (v2.le le1).le le2, .bin hp3 ((v3.le le1).le le2) ((v3.le le1).le le2)⟩, .cons ((v3.le le1).le le2) .nil⟩
theorem Infd.iter_no1 {N1 : NT} {next1 : Nat} {es1 : Bd} {G1 : World'} {x y z : Lam} {k : Int} {t : Ty} {a b c num : Nat} (h : Infd f m N next es ctx [x, y, z] G G1 [a, b, c] N1 next1 es1) (hn : N1 num = none)
  (no : ∀ θ, Sol (N1.add num .nat) es1 θ → ¬ Eqv (N1.add num .nat) θ a num) : Non N es ctx [.mk 6 k t [x, y, z]] := fun θ Γ τs sol hΓ hl => by
 obtain ⟨τ, rfl, hh⟩ := hl.one
 cases hh with
 | iter h1 h2 h3 =>
  obtain ⟨θ', g, s, v⟩ := h.full θ Γ _ sol hΓ (.cons h1 (.cons h2 (.cons h3 .nil)))
  cases v with
  | cons v1 v => exact no θ' ((h.w.solAdd hn).2 s) ⟨_, v1.le (NT.le_add hn), .nat (N1.add_self _ _)⟩
theorem Infd.iter_no2 {N1 : NT} {next1 : Nat} {es1 es2 : Bd} {G1 G2 : World'} {x y z : Lam} {k : Int} {t : Ty} {a b c num p : Nat} (h : Infd f m N next es ctx [x, y, z] G G1 [a, b, c] N1 next1 es1) (hn : N1 num = none)
  (w2 : Wok G2 f m (N1.add num .nat) next1 es2) (iff1 : ∀ θ, Sol (N1.add num .nat) es2 θ ↔ Sol (N1.add num .nat) es1 θ ∧ Eqv (N1.add num .nat) θ a num) (hp : N1.add num .nat p = none)
  (no : ∀ θ, Sol ((N1.add num .nat).add p (.bin true c c)) es2 θ → ¬ Eqv ((N1.add num .nat).add p (.bin true c c)) θ b p) : Non N es ctx [.mk 6 k t [x, y, z]] := fun θ Γ τs sol hΓ hl => by
 have le1 : N1.Le (N1.add num .nat) := NT.le_add hn
 have le2 : (N1.add num .nat).Le ((N1.add num .nat).add p (.bin true c c)) := NT.le_add hp
 have hp3 : (N1.add num .nat).add p (.bin true c c) p = some (.bin true c c) := NT.add_self _ _ _
 obtain ⟨τ, rfl, hh⟩ := hl.one
 cases hh with
 | iter h1 h2 h3 =>
  obtain ⟨θ', g, s, v⟩ := h.full θ Γ _ sol hΓ (.cons h1 (.cons h2 (.cons h3 .nil)))
  cases v with
  | cons v1 v =>
   cases v with
   | cons v2 v =>
    have v3 := v.one_of
    have s2 := (iff1 θ').2 ⟨(h.w.solAdd hn).2 s, _, v1.le le1, .nat (N1.add_self _ _)⟩
    exact no θ' ((w2.solAdd hp).2 s2) ⟨_, (v2.le le1).le le2, .bin hp3 ((v3.le le1).le le2) ((v3.le le1).le le2)⟩
theorem Infd.lam {N1 N2 : NT} {next2 : Nat} {es2 : Bd} {G1 G2 G3 : World'} {x : Lam} {k : Int} {t : Ty} {a b : Nat} (w : Wok G f m N next es) (ha : N a = none) (hctx : ∀ i, i ∈ ctx → ∃ nd, N i = some nd) (e1 : N1 = N.add a (.unk (next + 1)))
  (w1 : Wok G1 f m N1 (next + 1) es) (h : Infd f m N1 (next + 1) es (ctx ++ [a]) [x] G1 G2 [b] N2 next2 es2) (w3 : Wok G3 f m N2 next2 es2) :
  Infd f m N next es ctx [.mk 2 k t [x]] G (G3 ++ [(Nd.bin true a b).obj]) [G3.length] (N2.add G3.length (.bin true a b)) next2 es2 := by
 subst e1
 have le1 : N.Le (N.add a (.unk (next + 1))) := NT.le_add ha
 have le2 := h.le
 have le3 : N2.Le (N2.add G3.length (.bin true a b)) := NT.le_add w3.new.1
 have ha2 : N2 a = some (.unk (next + 1)) := le2 _ _ (N.add_self _ _)
 refine ⟨w3.add (fun k e => by cases e) (fun p a' b' e => by cases e; exact ⟨⟨_, ha2⟩, h.kn b (by simp)⟩), le1.trans (le2.trans le3), by have := h.lo; omega, by have := h.hi; simp only [sizeLs, sizeL] at this ⊢; omega,
  fun j hj => by rw [List.mem_singleton.1 hj]; exact ⟨_, N2.add_self _ _⟩, fun θ sol => ?_, fun θ Γ τs sol hΓ hl => ?_⟩
 ·obtain ⟨s1, k1⟩ := h.sound θ ((w3.solAdd w3.new.1).1 sol)
  refine ⟨(w.solAdd ha).1 s1, fun Γ hΓ => ?_⟩
  have va : Val (N.add a (.unk (next + 1))) θ a (θ (next + 1)) := .unk (N.add_self _ _)
  obtain ⟨τs, hv, hh⟩ := k1 (Γ ++ [θ (next + 1)]) ((hΓ.le le1).append (.cons va .nil))
  obtain ⟨τ, rfl, h1⟩ := hh.one
  exact ⟨[_], .cons (.bin (N2.add_self _ _) ((va.le le2).le le3) (hv.one_of.le le3)) .nil, .cons (.lam h1) .nil⟩
 ·obtain ⟨τ, rfl, hh⟩ := hl.one
  cases hh with
  | @lam _ _ _ _ A R h1 =>
   have ag : ∀ j, j ≤ next → updF θ (next + 1) A j = θ j := updF_le
   have va : Val (N.add a (.unk (next + 1))) (updF θ (next + 1) A) a A := by
    have := Val.unk (θ := updF θ (next + 1) A) (N.add_self a (.unk (next + 1)))
    rwa [updF_self] at this
   obtain ⟨θ', g, s, v⟩ := h.full (updF θ (next + 1) A) (Γ ++ [A]) _ ((w.solAdd ha).2 (w.solUpd ag sol)) (((hΓ.agree w.le ag).le le1).append (.cons va .nil)) (.cons h1 .nil)
   refine ⟨θ', fun j hj => by rw [g j (by omega), ag j hj], (w3.solAdd w3.new.1).2 s, .cons (.bin (N2.add_self _ _) ?_ (v.one_of.le le3)) .nil⟩
   exact ((va.agree w1.le g).le le2).le le3
theorem Infd.lam_no {N1 : NT} {G1 : World'} {x : Lam} {k : Int} {t : Ty} {a : Nat} (w : Wok G f m N next es) (ha : N a = none) (e1 : N1 = N.add a (.unk (next + 1))) (h : Non N1 es (ctx ++ [a]) [x]) : Non N es ctx [.mk 2 k t [x]] := by
 subst e1
 have le1 : N.Le (N.add a (.unk (next + 1))) := NT.le_add ha
 intro θ Γ τs sol hΓ hl
 obtain ⟨τ, rfl, hh⟩ := hl.one
 cases hh with
 | @lam _ _ _ _ A R h1 =>
  have ag : ∀ j, j ≤ next → updF θ (next + 1) A j = θ j := updF_le
  have va : Val (N.add a (.unk (next + 1))) (updF θ (next + 1) A) a A := by
   have := Val.unk (θ := updF θ (next + 1) A) (N.add_self a (.unk (next + 1)))
   rwa [updF_self] at this
  exact h (updF θ (next + 1) A) (Γ ++ [A]) _ ((w.solAdd ha).2 (w.solUpd ag sol)) (((hΓ.agree w.le ag).le le1).append (.cons va .nil)) (.cons h1 .nil)
section
variable {N1 : NT} {next1 : Nat} {es1 es2 : Bd} {G1 G2 G3 G4 : World'} {x : Lam} {t : Ty} {a r1 r2 p : Nat}
abbrev twoN (N1 : NT) (next1 r1 r2 p : Nat) : NT := ((N1.add r1 (.unk (next1 + 1))).add r2 (.unk (next1 + 1 + 1))).add p (.bin false r1 r2)
theorem two_val (h1 : N1 r1 = none) (h2 : N1.add r1 (.unk (next1 + 1)) r2 = none) (hp : (N1.add r1 (.unk (next1 + 1))).add r2 (.unk (next1 + 1 + 1)) p = none) :
  N1.Le (twoN N1 next1 r1 r2 p) ∧ twoN N1 next1 r1 r2 p r1 = some (.unk (next1 + 1)) ∧ twoN N1 next1 r1 r2 p r2 = some (.unk (next1 + 1 + 1)) ∧ twoN N1 next1 r1 r2 p p = some (.bin false r1 r2) := by
 have l1 : N1.Le (N1.add r1 (.unk (next1 + 1))) := NT.le_add h1
 have l2 : (N1.add r1 (.unk (next1 + 1))).Le ((N1.add r1 (.unk (next1 + 1))).add r2 (.unk (next1 + 1 + 1))) := NT.le_add h2
 have l3 : ((N1.add r1 (.unk (next1 + 1))).add r2 (.unk (next1 + 1 + 1))).Le (twoN N1 next1 r1 r2 p) := NT.le_add hp
 exact ⟨l1.trans (l2.trans l3), l3 _ _ (l2 _ _ (N1.add_self _ _)), l3 _ _ (NT.add_self _ _ _), NT.add_self _ _ _⟩
theorem two_full (h : Infd f m N next es ctx [x] G G1 [a] N1 next1 es1) (h1 : N1 r1 = none) (w2 : Wok G2 f m (N1.add r1 (.unk (next1 + 1))) (next1 + 1) es1) (h2 : N1.add r1 (.unk (next1 + 1)) r2 = none)
  (w3 : Wok G3 f m ((N1.add r1 (.unk (next1 + 1))).add r2 (.unk (next1 + 1 + 1))) (next1 + 1 + 1) es1) (hp : (N1.add r1 (.unk (next1 + 1))).add r2 (.unk (next1 + 1 + 1)) p = none)
  {θ : Nat → FT} {Γ : List FT} {A B : FT} (sol : Sol N es θ) (hΓ : Vals N θ ctx Γ) (hh : Has Γ x (.bin false A B)) :
  ∃ η, (∀ k, k ≤ next → η k = θ k) ∧ Sol (twoN N1 next1 r1 r2 p) es1 η ∧ Eqv (twoN N1 next1 r1 r2 p) η a p ∧ Val (twoN N1 next1 r1 r2 p) η r1 A ∧ Val (twoN N1 next1 r1 r2 p) η r2 B := by
 obtain ⟨le, k1, k2, k3⟩ := two_val h1 h2 hp
 obtain ⟨θ', g, s, v⟩ := h.full θ Γ _ sol hΓ (.cons hh .nil)
 have e1 : updF (updF θ' (next1 + 1) A) (next1 + 1 + 1) B (next1 + 1) = A := by
  rw [updF_le (n := next1 + 1) _ (Nat.le_refl _), updF_self]
 have ag : ∀ j, j ≤ next1 → updF (updF θ' (next1 + 1) A) (next1 + 1 + 1) B j = θ' j := fun j hj => by
  rw [updF_le (n := next1 + 1) j (by omega), updF_le j hj]
 have va := (v.one_of.agree h.w.le ag).le le
 have v1 : Val (twoN N1 next1 r1 r2 p) (updF (updF θ' (next1 + 1) A) (next1 + 1 + 1) B) r1 A := by
  have := Val.unk (θ := updF (updF θ' (next1 + 1) A) (next1 + 1 + 1) B) k1
  rwa [e1] at this
 have v2 : Val (twoN N1 next1 r1 r2 p) (updF (updF θ' (next1 + 1) A) (next1 + 1 + 1) B) r2 B := by
  have := Val.unk (θ := updF (updF θ' (next1 + 1) A) (next1 + 1 + 1) B) k2
  rwa [updF_self] at this
 exact ⟨_, fun j hj => by rw [ag j (by have := h.lo; omega), g j hj], (w3.solAdd hp).2 ((w2.solAdd h2).2 ((h.w.solAdd h1).2 (h.w.solUpd ag s))), ⟨_, va, .bin k3 v1 v2⟩, v1, v2⟩
theorem two_sound (h : Infd f m N next es ctx [x] G G1 [a] N1 next1 es1) (h1 : N1 r1 = none) (w2 : Wok G2 f m (N1.add r1 (.unk (next1 + 1))) (next1 + 1) es1) (h2 : N1.add r1 (.unk (next1 + 1)) r2 = none)
  (w3 : Wok G3 f m ((N1.add r1 (.unk (next1 + 1))).add r2 (.unk (next1 + 1 + 1))) (next1 + 1 + 1) es1) (hp : (N1.add r1 (.unk (next1 + 1))).add r2 (.unk (next1 + 1 + 1)) p = none)
  {θ : Nat → FT} (sol : Sol (twoN N1 next1 r1 r2 p) es1 θ) (he : Eqv (twoN N1 next1 r1 r2 p) θ a p) :
  Sol N es θ ∧ ∀ Γ, Vals N θ ctx Γ → ∃ A B, Val (twoN N1 next1 r1 r2 p) θ r1 A ∧ Val (twoN N1 next1 r1 r2 p) θ r2 B ∧ Has Γ x (.bin false A B) := by
 obtain ⟨le, k1, k2, k3⟩ := two_val h1 h2 hp
 obtain ⟨s0, k0⟩ := h.sound θ ((h.w.solAdd h1).1 ((w2.solAdd h2).1 ((w3.solAdd hp).1 sol)))
 refine ⟨s0, fun Γ hΓ => ?_⟩
 obtain ⟨τs, hv, hh⟩ := k0 Γ hΓ
 obtain ⟨τ, rfl, hx⟩ := hh.one
 obtain ⟨v, e1, e2⟩ := he
 obtain ⟨A, B, rfl, u1, u2⟩ := Val.bin_inv k3 e2
 rw [(hv.one_of.le le).det e1] at hx
 exact ⟨A, B, u1, u2, hx⟩
theorem Infd.fst {k : Int} (h : Infd f m N next es ctx [x] G G1 [a] N1 next1 es1) (h1 : N1 r1 = none) (w2 : Wok G2 f m (N1.add r1 (.unk (next1 + 1))) (next1 + 1) es1) (h2 : N1.add r1 (.unk (next1 + 1)) r2 = none)
  (w3 : Wok G3 f m ((N1.add r1 (.unk (next1 + 1))).add r2 (.unk (next1 + 1 + 1))) (next1 + 1 + 1) es1) (hp : (N1.add r1 (.unk (next1 + 1))).add r2 (.unk (next1 + 1 + 1)) p = none)
  (w4 : Wok G4 f m (twoN N1 next1 r1 r2 p) (next1 + 1 + 1) es2) (iff : ∀ θ, Sol (twoN N1 next1 r1 r2 p) es2 θ ↔ Sol (twoN N1 next1 r1 r2 p) es1 θ ∧ Eqv (twoN N1 next1 r1 r2 p) θ a p) :
  Infd f m N next es ctx [.mk 8 k t [x]] G G4 [r1] (twoN N1 next1 r1 r2 p) (next1 + 1 + 1) es2 ∧ Infd f m N next es ctx [.mk 9 k t [x]] G G4 [r2] (twoN N1 next1 r1 r2 p) (next1 + 1 + 1) es2 := by
 obtain ⟨le, k1, k2, k3⟩ := two_val h1 h2 hp
 have hi := h.hi
 simp only [sizeLs] at hi
 refine ⟨⟨w4, h.le.trans le, by have := h.lo; omega, by simp only [sizeLs, sizeL]; omega, fun j hj => by rw [List.mem_singleton.1 hj]; exact ⟨_, k1⟩, fun θ sol => ?_, fun θ Γ τs sol hΓ hl => ?_⟩,
  ⟨w4, h.le.trans le, by have := h.lo; omega, by simp only [sizeLs, sizeL]; omega, fun j hj => by rw [List.mem_singleton.1 hj]; exact ⟨_, k2⟩, fun θ sol => ?_, fun θ Γ τs sol hΓ hl => ?_⟩⟩
 ·obtain ⟨s1, he⟩ := (iff θ).1 sol
  obtain ⟨s0, k⟩ := two_sound h h1 w2 h2 w3 hp s1 he
  refine ⟨s0, fun Γ hΓ => ?_⟩
  obtain ⟨A, B, v1, v2, hx⟩ := k Γ hΓ
  exact ⟨[A], .cons v1 .nil, .cons (.fst hx) .nil⟩
 ·obtain ⟨τ, rfl, hh⟩ := hl.one
  cases hh with
  | fst hx =>
   obtain ⟨η, g, s, he, v1, v2⟩ := two_full h h1 w2 h2 w3 hp sol hΓ hx
   exact ⟨η, g, (iff η).2 ⟨s, he⟩, .cons v1 .nil⟩
 ·obtain ⟨s1, he⟩ := (iff θ).1 sol
  obtain ⟨s0, k⟩ := two_sound h h1 w2 h2 w3 hp s1 he
  refine ⟨s0, fun Γ hΓ => ?_⟩
  obtain ⟨A, B, v1, v2, hx⟩ := k Γ hΓ
  exact ⟨[B], .cons v2 .nil, .cons (.snd hx) .nil⟩
 ·obtain ⟨τ, rfl, hh⟩ := hl.one
  cases hh with
  | snd hx =>
   obtain ⟨η, g, s, he, v1, v2⟩ := two_full h h1 w2 h2 w3 hp sol hΓ hx
   exact ⟨η, g, (iff η).2 ⟨s, he⟩, .cons v2 .nil⟩
theorem Infd.fst_no {k : Int} (h : Infd f m N next es ctx [x] G G1 [a] N1 next1 es1) (h1 : N1 r1 = none) (w2 : Wok G2 f m (N1.add r1 (.unk (next1 + 1))) (next1 + 1) es1) (h2 : N1.add r1 (.unk (next1 + 1)) r2 = none)
  (w3 : Wok G3 f m ((N1.add r1 (.unk (next1 + 1))).add r2 (.unk (next1 + 1 + 1))) (next1 + 1 + 1) es1) (hp : (N1.add r1 (.unk (next1 + 1))).add r2 (.unk (next1 + 1 + 1)) p = none)
  (no : ∀ θ, Sol (twoN N1 next1 r1 r2 p) es1 θ → ¬ Eqv (twoN N1 next1 r1 r2 p) θ a p) : Non N es ctx [.mk 8 k t [x]] ∧ Non N es ctx [.mk 9 k t [x]] := by
 refine ⟨fun θ Γ τs sol hΓ hl => ?_, fun θ Γ τs sol hΓ hl => ?_⟩
 ·obtain ⟨τ, rfl, hh⟩ := hl.one
  cases hh with
  | fst hx =>
   obtain ⟨η, g, s, he, v1, v2⟩ := two_full h h1 w2 h2 w3 hp sol hΓ hx
   exact no η s he
 ·obtain ⟨τ, rfl, hh⟩ := hl.one
  cases hh with
  | snd hx =>
   obtain ⟨η, g, s, he, v1, v2⟩ := two_full h h1 w2 h2 w3 hp sol hΓ hx
   exact no η s he
end
end
end Go.Proofs.Cw.Si
end

/-
  THE INFERER'S WORLD 10: infer's loop over the parts of a term.
-/
section
namespace Go.Proofs.Cw.Si
open Go.Proofs
theorem wps_app (a b : List Nat) : wps (a ++ b) = wps a ++ wps b := by simp [wps]
theorem wps_len (a : List Nat) : (wps a).length = a.length := by simp [wps]
def M19 (row : Bool) (n q : Nat) (K : St → Option (Tree × World')) (f : Nat) (s1 ctx l : List Tree) (len i : Int) (G : World') (o u : Int) (tn : List UInt8) (tl ps : List Tree) (us : List Tree) : Option (Tree × World') :=
 match row, us with
 | false, [] => M19_0 n q K f s1 ctx l len i G o u tn tl ps
 | false, us => M19_0b n q K f s1 ctx l len i G o u tn tl ps us
 | true, [] => M19_0c n q K f s1 l len i G o u tn tl ps ctx
 | true, us => M19_0x3 n q K f s1 l len i G o u tn tl ps ctx us
def S19s (row : Bool) (f : Nat) (s1 ctx l : List Tree) (len i : Int) (G : World') (o u : Int) (tn : List UInt8) (tl ps : List Tree) (us : List Tree) : St :=
 match row, us with
 | false, [] => S19 f s1 ctx l len i false G o u tn tl ps
 | false, us => S19x1 f s1 ctx l len i false G o u tn tl ps us
 | true, [] => S19x2 f s1 l len i false G o u tn tl ps ctx
 | true, us => S19x3 f s1 l len i false G o u tn tl ps ctx us
theorem k19_ok {row : Bool} {n q f c : Nat} {K : St → Option (Tree × World')} {s1 ctx : List Tree} {l : List Lam} {i u : Nat} {G G1 : World'} {o k : Int} {tn : List UInt8} {tl ps us : List Tree} {t : Lam} (hl : l.length ≤ 100000) (hi : l[i]? = some t) (hu : us.length ≤ 100000)
  (h : EvW E c 19 [.wp f 0, .slc ctx, encL t] G (.tup [.wp u 0, .bool true]) G1) (hn : c ≤ n) :
  M19 row n (Nat.succ q) K f s1 ctx (encLs l) (l.length : Nat) (i : Nat) G o k tn tl ps us = M19 row n q K f s1 ctx (encLs l) (l.length : Nat) ((i + 1 : Nat) : Int) G1 o k tn tl ps (us ++ [.wp u 0]) := by
 have hlt : i < l.length := (List.getElem?_eq_some_iff.1 hi).1
 have hnth : nth (encLs l) (Int.toNat ((i : Nat) : Int)) = some (encL t) := by
  rw [Int.toNat_natCast, encLs_map, nth_map, nth_eq, hi]; rfl
 have h := h n hn
 have hw : IntKind.wrap .i64 (((i : Nat) : Int) + 1) = ((i + 1 : Nat) : Int) := by rw [w64 (by omega)]; omega
 have hb : Nat.ble ((us.length + 1) * 8) 140737488355328 = true := by rw [Nat.ble_eq]; omega
 rw [encL_eta] at h hnth
 cases row with
 | false =>
  cases us with
  | nil =>
   show M19_0 n (Nat.succ q) K f s1 ctx (encLs l) _ _ G o k tn tl ps = M19_0b n q K f s1 ctx (encLs l) _ _ G1 o k tn tl ps [.wp u 0]
   rw [k19_0]
   refine step_t (by simp; omega) (step_t (by simp) (step_b hnth (step_t rfl (step_b h (step_t rfl (step_f rfl (step_t rfl ?_)))))))
   rw [hw]; rfl
  | cons a us =>
   show M19_0b n (Nat.succ q) K f s1 ctx (encLs l) _ _ G o k tn tl ps (a :: us) = M19_0b n q K f s1 ctx (encLs l) _ _ G1 o k tn tl ps (a :: us ++ [.wp u 0])
   rw [k19_0b]
   refine step_t (by simp; omega) (step_t (by simp) (step_b hnth (step_t rfl (step_b h (step_t rfl (step_f rfl (step_t rfl (step_t (by rw [hb]; rfl) ?_))))))))
   rw [hw]; rfl
 | true =>
  cases us with
  | nil =>
   show M19_0c n (Nat.succ q) K f s1 (encLs l) _ _ G o k tn tl ps ctx = M19_0x3 n q K f s1 (encLs l) _ _ G1 o k tn tl ps ctx [.wp u 0]
   rw [k19_0c]
   refine step_t (by simp; omega) (step_t (by simp) (step_b hnth (step_t rfl (step_b h (step_t rfl (step_f rfl (step_t rfl ?_)))))))
   rw [hw]; rfl
  | cons a us =>
   show M19_0x3 n (Nat.succ q) K f s1 (encLs l) _ _ G o k tn tl ps ctx (a :: us) = M19_0x3 n q K f s1 (encLs l) _ _ G1 o k tn tl ps ctx (a :: us ++ [.wp u 0])
   rw [k19_0x3]
   refine step_t (by simp; omega) (step_t (by simp) (step_b hnth (step_t rfl (step_b h (step_t rfl (step_f rfl (step_t rfl (step_t (by rw [hb]; rfl) ?_))))))))
   rw [hw]; rfl
theorem k19_no {row : Bool} {n q f c : Nat} {K : St → Option (Tree × World')} {s1 ctx : List Tree} {l : List Lam} {i : Nat} {u : Tree} {G G1 : World'} {o k : Int} {tn : List UInt8} {tl ps us : List Tree} {t : Lam} (hl : l.length ≤ 100000) (hi : l[i]? = some t)
  (h : EvW E c 19 [.wp f 0, .slc ctx, encL t] G (.tup [u, .bool false]) G1) (hu : u.isSc = true) (hn : c ≤ n) :
  M19 row n (Nat.succ q) K f s1 ctx (encLs l) (l.length : Nat) (i : Nat) G o k tn tl ps us = some (.tup [.nilp, .bool false], G1) := by
 have hlt : i < l.length := (List.getElem?_eq_some_iff.1 hi).1
 have hnth : nth (encLs l) (Int.toNat ((i : Nat) : Int)) = some (encL t) := by
  rw [Int.toNat_natCast, encLs_map, nth_map, nth_eq, hi]; rfl
 have h := h n hn
 have ho : Sh.ok (Sh.tup [Sh.any, Sh.bool]) (.tup [u, .bool false]) = true := by simp [Sh.ok, Sh.oks, hu]
 rw [encL_eta] at h hnth
 cases row with
 | false =>
  cases us with
  | nil =>
   show M19_0 n (Nat.succ q) K f s1 ctx (encLs l) _ _ G o k tn tl ps = _
   rw [k19_0]
   exact step_t (by simp; omega) (step_t (by simp) (step_b hnth (step_t rfl (step_b h (step_t ho (step_t rfl rfl))))))
  | cons a us =>
   show M19_0b n (Nat.succ q) K f s1 ctx (encLs l) _ _ G o k tn tl ps (a :: us) = _
   rw [k19_0b]
   exact step_t (by simp; omega) (step_t (by simp) (step_b hnth (step_t rfl (step_b h (step_t ho (step_t rfl rfl))))))
 | true =>
  cases us with
  | nil =>
   show M19_0c n (Nat.succ q) K f s1 (encLs l) _ _ G o k tn tl ps ctx = _
   rw [k19_0c]
   exact step_t (by simp; omega) (step_t (by simp) (step_b hnth (step_t rfl (step_b h (step_t ho (step_t rfl rfl))))))
  | cons a us =>
   show M19_0x3 n (Nat.succ q) K f s1 (encLs l) _ _ G o k tn tl ps ctx (a :: us) = _
   rw [k19_0x3]
   exact step_t (by simp; omega) (step_t (by simp) (step_b hnth (step_t rfl (step_b h (step_t ho (step_t rfl rfl))))))
theorem k19_end {row : Bool} {n q f : Nat} {K : St → Option (Tree × World')} {s1 ctx l : List Tree} {i : Int} {G : World'} {o k : Int} {tn : List UInt8} {tl ps us : List Tree} :
  M19 row n (Nat.succ q) K f s1 ctx l i i G o k tn tl ps us = K (S19s row f s1 ctx l i i G o k tn tl ps us) := by
 cases row with
 | false =>
  cases us with
  | nil =>
   show M19_0 n (Nat.succ q) K f s1 ctx l _ _ G o k tn tl ps = K (S19 f s1 ctx l i i false G o k tn tl ps)
   rw [k19_0]; exact step_f (by simp) rfl
  | cons a us =>
   show M19_0b n (Nat.succ q) K f s1 ctx l _ _ G o k tn tl ps (a :: us) = K (S19x1 f s1 ctx l i i false G o k tn tl ps (a :: us))
   rw [k19_0b]; exact step_f (by simp) rfl
 | true =>
  cases us with
  | nil =>
   show M19_0c n (Nat.succ q) K f s1 l _ _ G o k tn tl ps ctx = K (S19x2 f s1 l i i false G o k tn tl ps ctx)
   rw [k19_0c]; exact step_f (by simp) rfl
  | cons a us =>
   show M19_0x3 n (Nat.succ q) K f s1 l _ _ G o k tn tl ps ctx (a :: us) = K (S19x3 f s1 l i i false G o k tn tl ps ctx (a :: us))
   rw [k19_0x3]; exact step_f (by simp) rfl
end Go.Proofs.Cw.Si
end

/-
  THE INFERER'S WORLD 11: infer's parts together.
-/
section
namespace Go.Proofs.Cw.Si
open Go.Proofs
def Spec19 (f m : Nat) (ctx : List Nat) (t : Lam) : Prop := ∀ (G : World') (N : NT) (next : Nat) (es : Bd), Wok G f m N next es → (∀ i, i ∈ ctx → ∃ nd, N i = some nd) → next + 2 * sizeL t ≤ 1000000 →
 ∃ c v u G', EvW E c 19 [.wp f 0, .slc (wps ctx), encL t] G (.tup [u, .bool v]) G' ∧ ((v = false ∧ u.isSc = true ∧ Non N es ctx [t]) ∨
  (v = true ∧ ∃ i N' next' es', u = .wp i 0 ∧ Infd f m N next es ctx [t] G G' [i] N' next' es'))
theorem l19 {row : Bool} {f m : Nat} {ctx : List Nat} {s1 : List Tree} {o k : Int} {tn : List UInt8} {tl ps : List Tree} {l : List Lam} (hl : l.length ≤ 100000) : ∀ (r : List Lam) (i : Nat), (∀ t, t ∈ r → Spec19 f m ctx t) → l.drop i = r →
  ∀ (us0 : List Nat) (G : World') (N : NT) (next : Nat) (es : Bd), us0.length ≤ i → i ≤ l.length → Wok G f m N next es → (∀ i, i ∈ ctx → ∃ nd, N i = some nd) → next + 2 * sizeLs r ≤ 1000000 →
  ∃ c, (Non N es ctx r ∧ ∃ G', ∀ n q K, c ≤ n → c ≤ q → M19 row n q K f s1 (wps ctx) (encLs l) (l.length : Nat) (i : Nat) G o k tn tl ps (wps us0) = some (.tup [.nilp, .bool false], G')) ∨
   ∃ us N' next' es' G', Infd f m N next es ctx r G G' us N' next' es' ∧ us.length = r.length ∧ ∀ n q K, c ≤ n → c ≤ q → M19 row n q K f s1 (wps ctx) (encLs l) (l.length : Nat) (i : Nat) G o k tn tl ps (wps us0) =
    K (S19s row f s1 (wps ctx) (encLs l) (l.length : Nat) (l.length : Nat) G' o k tn tl ps (wps (us0 ++ us)))
 | [], i, _, hd, us0, G, N, next, es, hu, hil, w, hctx, hn => by
  have e : i = l.length := by
   have := congrArg List.length hd
   simp at this; omega
  subst e
  refine ⟨1, .inr ⟨[], N, next, es, G, Infd.refl w, rfl, fun n q K h1 h2 => ?_⟩⟩
  obtain ⟨q, rfl⟩ : ∃ p, q = Nat.succ p := ⟨q - 1, by omega⟩
  rw [k19_end, List.append_nil]
 | t :: r, i, hs, hd, us0, G, N, next, es, hu, hil, w, hctx, hn => by
  have hi : l[i]? = some t := by
   have := congrArg (·[0]?) hd
   simpa using this
  have hd2 : l.drop (i + 1) = r := by
   rw [← List.tail_drop, hd]; rfl
  have hlt : i < l.length := (List.getElem?_eq_some_iff.1 hi).1
  simp only [sizeLs] at hn
  obtain ⟨c1, v, u, G1, e, ⟨rfl, hsc, no⟩ | ⟨rfl, j, N1, next1, es1, rfl, a⟩⟩ := hs t List.mem_cons_self G N next es w hctx (by omega)
  ·refine ⟨c1 + 1, .inl ⟨no.head, G1, fun n q K h1 h2 => ?_⟩⟩
   obtain ⟨q, rfl⟩ : ∃ p, q = Nat.succ p := ⟨q - 1, by omega⟩
   exact k19_no hl hi e hsc (by omega)
  ·have hhi := a.hi
   simp only [sizeLs] at hhi
   obtain ⟨c2, h⟩ := l19 (row := row) (s1 := s1) (o := o) (k := k) (tn := tn) (tl := tl) (ps := ps) hl r (i + 1) (fun t ht => hs t (List.mem_cons_of_mem _ ht)) hd2 (us0 ++ [j]) G1 N1 next1 es1 (by simp; omega) (by omega) a.w (fun x hx => by obtain ⟨nd, hn⟩ := hctx x hx; exact ⟨nd, a.le _ _ hn⟩) (by omega)
   have step : ∀ n q K, c1 + c2 + 1 ≤ n → c1 + c2 + 1 ≤ q → ∃ p, c2 ≤ p ∧ M19 row n q K f s1 (wps ctx) (encLs l) (l.length : Nat) (i : Nat) G o k tn tl ps (wps us0) = M19 row n p K f s1 (wps ctx) (encLs l) (l.length : Nat) ((i + 1 : Nat) : Int) G1 o k tn tl ps (wps (us0 ++ [j])) := by
    intro n q K h1 h2
    obtain ⟨q, rfl⟩ : ∃ p, q = Nat.succ p := ⟨q - 1, by omega⟩
    refine ⟨q, by omega, ?_⟩
    rw [k19_ok hl hi (by rw [wps_len]; omega) e (by omega), wps_app]
    rfl
   rcases h with ⟨no, G', h⟩ | ⟨us, N', next', es', G', b, hul, h⟩
   ·refine ⟨c1 + c2 + 1, .inl ⟨Non.tail w a no, G', fun n q K h1 h2 => ?_⟩⟩
    obtain ⟨p, hp, e⟩ := step n q K h1 h2
    rw [e]; exact h n p K (by omega) hp
   ·refine ⟨c1 + c2 + 1, .inr ⟨j :: us, N', next', es', G', a.cons w hctx b, by simp [hul], fun n q K h1 h2 => ?_⟩⟩
    obtain ⟨p, hp, e⟩ := step n q K h1 h2
    rw [e, h n p K (by omega) hp, List.append_assoc]
    rfl
end Go.Proofs.Cw.Si
end

/-
  EQUATIONS of the reckoned code: printed by program.
-/
section
set_option maxRecDepth 100000
namespace Go.Proofs.Cw.Si
open Go.Proofs


end Go.Proofs.Cw.Si
end

/-
  EQUATIONS behind the loops, where a node is a function: cut by program out of SiE1, SiE2 (gencut.py).
-/
section
set_option maxRecDepth 100000
namespace Go.Proofs.Cw.Si
open Go.Proofs

theorem y19x3 (n s0 : Nat) (s1 s28 : List Tree) (s29 s30 : Int) (s31 : Bool) (h0G : World') (h101 : Int) (h102 : List UInt8) (h103 h104 h2 h3 : List Tree) : evZW eQ n 19 5
 (S19x3 s0 s1 s28 s29 s30 s31 h0G 2 h101 h102 h103 h104 h2 h3) = bif decide (0 ≤ IntKind.wrap IntKind.i64 ((↑(List.length h2) : Int) - 1)) && (decide (IntKind.wrap
 IntKind.i64 ((↑(List.length h2) : Int) - 1) < (↑(List.length h2) : Int)) && true) then Option.bind (nth h2 (Int.toNat (IntKind.wrap IntKind.i64 ((↑(List.length h2) : Int)
 - 1)))) fun y => bif Sh.ok Sh.wp y then bif true && (decide (0 < (↑(List.length h3) : Int)) && true) then Option.bind (nth h3 0) fun y_1 => bif Sh.ok Sh.wp y_1 then
 Option.bind (evW eQ n 45 [Tree.str [84, 111], Tree.wp (Tree.wid y) 0, Tree.wp (Tree.wid y_1) 0] (h0G ++ [WObj.cells [Tree.str [78, 97, 116], q4 0, Tree.slc []]])) fun y
 => bif Sh.ok Sh.wp (Prod.fst y) then some (Tree.tup [Tree.wp (Tree.wid (Prod.fst y)) 0, Tree.bool true], Prod.snd y) else none else none else none else none else none :=
 by kernel_rfl


end Go.Proofs.Cw.Si
end

/-
  THE INFERER'S WORLD 12: behind infer's loop.
-/
section
namespace Go.Proofs.Cw.Si
open Go.Proofs
theorem rest_num {f : Nat} {s1 ctx l : List Tree} {len i k : Int} {G : World'} {tn : List UInt8} {tl ps : List Tree} (n : Nat) :
  evZW (Tab.env tab) n 19 5 (S19s false f s1 ctx l len i G 4 k tn tl ps []) = some (.tup [.wp G.length 0, .bool true], G ++ [Nd.nat.obj]) := by
 show evZW (Tab.env tab) n 19 5 (S19 f s1 ctx l len i false G 4 k tn tl ps) = _
 rw [z19]
 rfl
theorem nth_wps {l : List Nat} {i j : Nat} (h : l[i]? = some j) : nth (wps l) i = some (.wp j 0) := by
 rw [wps, nth_map, nth_eq, h]; rfl
theorem rest_var {f : Nat} {ctx : List Nat} {ctx2 l : List Tree} {len i k : Int} {G : World'} {tn : List UInt8} {tl ps : List Tree} {j : Nat} (n : Nat) (h0 : 0 ≤ k) (h1 : k < ctx.length) (hc : ctx.length ≤ 1000000) (hj : ctx[ctx.length - 1 - k.toNat]? = some j) :
  evZW (Tab.env tab) n 19 5 (S19s false f (wps ctx) ctx2 l len i G 1 k tn tl ps []) = some (.tup [.wp j 0, .bool true], G ++ [Nd.nat.obj]) := by
 show evZW (Tab.env tab) n 19 5 (S19 f (wps ctx) ctx2 l len i false G 1 k tn tl ps) = _
 rw [z19]
 rw [wps_len]
 have e : IntKind.wrap .i64 (IntKind.wrap .i64 (((ctx.length : Nat) : Int) - 1) - k) = ((ctx.length - 1 - k.toNat : Nat) : Int) := by
  rw [w64 (x := ((ctx.length : Nat) : Int) - 1) (by omega), w64 (by omega)]; omega
 rw [e]
 refine step_t rfl (step_t (by simp) (step_b (y := .wp j 0) ?_ ?_))
 ·rw [Int.toNat_natCast]; exact nth_wps hj
 ·exact step_t rfl rfl
theorem rest_suc {f a c : Nat} {s1 ctx l : List Tree} {len i k : Int} {G G2 : World'} {tn : List UInt8} {tl ps : List Tree} {v : Bool} (h : EvW E c 46 [.wp f 0, .wp a 0, .wp G.length 0] (G ++ [Nd.nat.obj]) (.bool v) G2) (n : Nat) (hn : c ≤ n) :
  evZW (Tab.env tab) n 19 5 (S19s false f s1 ctx l len i G 5 k tn tl ps (wps [a])) = some (.tup [.wp G.length 0, .bool v], G2) := by
 show evZW (Tab.env tab) n 19 5 (S19x1 f s1 ctx l len i false G 5 k tn tl ps [.wp a 0]) = _
 rw [z19x1]
 refine step_f rfl (step_f rfl (step_f rfl (step_t rfl (step_t rfl (step_b (y := .wp a 0) rfl (step_t rfl ?_))))))
 exact step_b (h n hn) (step_t rfl rfl)
theorem rest_pair {f a b : Nat} {s1 ctx l : List Tree} {len i k : Int} {G : World'} {tn : List UInt8} {tl ps : List Tree} (n : Nat) (hn : 1 ≤ n) :
  evZW (Tab.env tab) n 19 5 (S19s false f s1 ctx l len i G 7 k tn tl ps (wps [a, b])) = some (.tup [.wp (G ++ [Nd.nat.obj]).length 0, .bool true], (G ++ [Nd.nat.obj]) ++ [(Nd.bin false a b).obj]) := by
 show evZW (Tab.env tab) n 19 5 (S19x1 f s1 ctx l len i false G 7 k tn tl ps [.wp a 0, .wp b 0]) = _
 rw [z19x1]
 refine step_f rfl (step_f rfl (step_f rfl (step_f rfl (step_f rfl (step_t rfl (step_t rfl (step_b (y := .wp a 0) rfl (step_t rfl (step_t rfl (step_b (y := .wp b 0) rfl (step_t rfl ?_)))))))))))
 exact step_b (s45 false a b _ n hn) (step_t rfl rfl)
theorem rest_app {f a b r c : Nat} {s1 ctx l : List Tree} {len i k : Int} {G G1 G2 : World'} {tn : List UInt8} {tl ps : List Tree} {v : Bool} (h1 : EvW E 1 44 [.wp f 0] (G ++ [Nd.nat.obj]) (.wp r 0) G1)
  (h2 : EvW E c 46 [.wp f 0, .wp a 0, .wp G1.length 0] (G1 ++ [(Nd.bin true b r).obj]) (.bool v) G2) (n : Nat) (hn : c + 1 ≤ n) :
  evZW (Tab.env tab) n 19 5 (S19s false f s1 ctx l len i G 3 k tn tl ps (wps [a, b])) = some (.tup [.wp r 0, .bool v], G2) := by
 show evZW (Tab.env tab) n 19 5 (S19x1 f s1 ctx l len i false G 3 k tn tl ps [.wp a 0, .wp b 0]) = _
 rw [z19x1]
 refine step_f rfl (step_f rfl (step_t rfl (step_b (h1 n (by omega)) (step_t rfl (step_t rfl (step_b (y := .wp a 0) rfl (step_t rfl (step_t rfl (step_b (y := .wp b 0) rfl (step_t rfl ?_))))))))))
 exact step_b (s45 true b r _ n (by omega)) (step_t rfl (step_b (h2 n (by omega)) (step_t rfl rfl)))
theorem rest_fst {f a r1 r2 c : Nat} {s1 ctx l : List Tree} {len i k : Int} {G G1 G2 G3 : World'} {tn : List UInt8} {tl ps : List Tree} {v : Bool} (h1 : EvW E 1 44 [.wp f 0] (G ++ [Nd.nat.obj]) (.wp r1 0) G1) (h2 : EvW E 1 44 [.wp f 0] G1 (.wp r2 0) G2)
  (h3 : EvW E c 46 [.wp f 0, .wp a 0, .wp G2.length 0] (G2 ++ [(Nd.bin false r1 r2).obj]) (.bool v) G3) (n : Nat) (hn : c + 1 ≤ n) :
  evZW (Tab.env tab) n 19 5 (S19s false f s1 ctx l len i G 8 k tn tl ps (wps [a])) = some (.tup [.wp r1 0, .bool v], G3) := by
 show evZW (Tab.env tab) n 19 5 (S19x1 f s1 ctx l len i false G 8 k tn tl ps [.wp a 0]) = _
 rw [z19x1]
 refine step_f rfl (step_f rfl (step_f rfl (step_f rfl (step_f rfl (step_f rfl (step_t rfl (step_b (h1 n (by omega)) (step_t rfl (step_b (h2 n (by omega)) (step_t rfl (step_t rfl (step_b (y := .wp r1 0) rfl (step_t rfl (step_t rfl (step_b (y := .wp a 0) rfl (step_t rfl ?_))))))))))))))))
 exact step_b (s45 false r1 r2 _ n (by omega)) (step_t rfl (step_b (h3 n (by omega)) (step_t rfl rfl)))
theorem rest_snd {f a r1 r2 c : Nat} {s1 ctx l : List Tree} {len i k : Int} {G G1 G2 G3 : World'} {tn : List UInt8} {tl ps : List Tree} {v : Bool} (h1 : EvW E 1 44 [.wp f 0] (G ++ [Nd.nat.obj]) (.wp r1 0) G1) (h2 : EvW E 1 44 [.wp f 0] G1 (.wp r2 0) G2)
  (h3 : EvW E c 46 [.wp f 0, .wp a 0, .wp G2.length 0] (G2 ++ [(Nd.bin false r1 r2).obj]) (.bool v) G3) (n : Nat) (hn : c + 1 ≤ n) :
  evZW (Tab.env tab) n 19 5 (S19s false f s1 ctx l len i G 9 k tn tl ps (wps [a])) = some (.tup [.wp r2 0, .bool v], G3) := by
 show evZW (Tab.env tab) n 19 5 (S19x1 f s1 ctx l len i false G 9 k tn tl ps [.wp a 0]) = _
 rw [z19x1]
 refine step_f rfl (step_f rfl (step_f rfl (step_f rfl (step_f rfl (step_f rfl (step_f rfl (step_t rfl (step_b (h1 n (by omega)) (step_t rfl (step_b (h2 n (by omega)) (step_t rfl (step_t rfl (step_b (y := .wp r2 0) rfl (step_t rfl (step_t rfl (step_b (y := .wp a 0) rfl (step_t rfl ?_)))))))))))))))))
 exact step_b (s45 false r1 r2 _ n (by omega)) (step_t rfl (step_b (h3 n (by omega)) (step_t rfl rfl)))
theorem rest_iter_no {f a b d c : Nat} {s1 ctx l : List Tree} {len i k : Int} {G G2 : World'} {tn : List UInt8} {tl ps : List Tree} (h : EvW E c 46 [.wp f 0, .wp a 0, .wp G.length 0] (G ++ [Nd.nat.obj]) (.bool false) G2) (n : Nat) (hn : c ≤ n) :
  evZW (Tab.env tab) n 19 5 (S19s false f s1 ctx l len i G 6 k tn tl ps (wps [a, b, d])) = some (.tup [.wp d 0, .bool false], G2) := by
 show evZW (Tab.env tab) n 19 5 (S19x1 f s1 ctx l len i false G 6 k tn tl ps [.wp a 0, .wp b 0, .wp d 0]) = _
 rw [z19x1]
 refine step_f rfl (step_f rfl (step_f rfl (step_f rfl (step_t rfl (step_t rfl (step_b (y := .wp d 0) rfl (step_t rfl (step_t rfl (step_b (y := .wp a 0) rfl (step_t rfl ?_))))))))))
 exact step_b (h n hn) (step_t rfl (step_f rfl rfl))
theorem rest_iter {f a b d c : Nat} {s1 ctx l : List Tree} {len i k : Int} {G G2 G3 : World'} {tn : List UInt8} {tl ps : List Tree} {v : Bool} (h : EvW E c 46 [.wp f 0, .wp a 0, .wp G.length 0] (G ++ [Nd.nat.obj]) (.bool true) G2)
  (h2 : EvW E c 46 [.wp f 0, .wp b 0, .wp G2.length 0] (G2 ++ [(Nd.bin true d d).obj]) (.bool v) G3) (n : Nat) (hn : c + 1 ≤ n) :
  evZW (Tab.env tab) n 19 5 (S19s false f s1 ctx l len i G 6 k tn tl ps (wps [a, b, d])) = some (.tup [.wp d 0, .bool v], G3) := by
 show evZW (Tab.env tab) n 19 5 (S19x1 f s1 ctx l len i false G 6 k tn tl ps [.wp a 0, .wp b 0, .wp d 0]) = _
 rw [z19x1]
 refine step_f rfl (step_f rfl (step_f rfl (step_f rfl (step_t rfl (step_t rfl (step_b (y := .wp d 0) rfl (step_t rfl (step_t rfl (step_b (y := .wp a 0) rfl (step_t rfl ?_))))))))))
 refine step_b (h n (by omega)) (step_t rfl (step_t rfl (step_t rfl (step_b (y := .wp b 0) rfl (step_t rfl (step_t rfl (step_b (y := .wp d 0) rfl (step_t rfl (step_t rfl (step_b (y := .wp d 0) rfl (step_t rfl ?_)))))))))))
 exact step_b (s45 true d d _ n (by omega)) (step_t rfl (step_b (h2 n (by omega)) (step_t rfl rfl)))
theorem rest_lam {f a b : Nat} {ctx : List Nat} {s1 l : List Tree} {len i k : Int} {G : World'} {tn : List UInt8} {tl ps : List Tree} (n : Nat) (hn : 1 ≤ n) (hc : ctx.length ≤ 1000000) :
  evZW (Tab.env tab) n 19 5 (S19s true f s1 (wps (ctx ++ [a])) l len i G 2 k tn tl ps (wps [b])) = some (.tup [.wp (G ++ [Nd.nat.obj]).length 0, .bool true], (G ++ [Nd.nat.obj]) ++ [(Nd.bin true a b).obj]) := by
 show evZW (Tab.env tab) n 19 5 (S19x3 f s1 l len i false G 2 k tn tl ps (wps (ctx ++ [a])) [.wp b 0]) = _
 rw [y19x3, wps_len]
 have e : IntKind.wrap .i64 ((((ctx ++ [a]).length : Nat) : Int) - 1) = ((ctx.length : Nat) : Int) := by
  rw [w64 (by simp; omega)]; simp
 rw [e]
 have hx : nth (wps (ctx ++ [a])) (Int.toNat ((ctx.length : Nat) : Int)) = some (.wp a 0) := by
  rw [Int.toNat_natCast]; exact nth_wps (by simp)
 refine step_t (by simp; omega) (step_b (y := .wp a 0) hx (step_t rfl (step_t rfl (step_b (y := .wp b 0) rfl (step_t rfl ?_)))))
 exact step_b (s45 true a b _ n hn) (step_t rfl rfl)
end Go.Proofs.Cw.Si
end

/-
  THE INFERER'S WORLD 13: infer.
-/
section
namespace Go.Proofs.Cw.Si
open Go.Proofs
mutual
def esh (d : Nat) : Lam → Prop
 | .mk o m _ l => (l.length : Int) = partsN o ∧ (o = 1 → 0 ≤ m ∧ m < (d : Nat)) ∧ eshs (if o = 2 then d + 1 else d) l
def eshs (d : Nat) : List Lam → Prop
 | [] => True
 | t :: r => esh d t ∧ eshs d r
end
theorem eshs_mem {d : Nat} : ∀ {l : List Lam} {t : Lam}, t ∈ l → eshs d l → esh d t
 | x :: r, t, h, hs => by
  unfold eshs at hs
  rcases List.mem_cons.1 h with rfl | h
  ·exact hs.1
  ·exact eshs_mem h hs.2
theorem sizeLs_mem {l : List Lam} {t : Lam} (h : t ∈ l) : sizeL t ≤ sizeLs l := by
 induction l with
 | nil => cases h
 | cons x r ih =>
  simp only [sizeLs]
  rcases List.mem_cons.1 h with rfl | h
  ·omega
  ·have := ih h; omega
theorem ops_of {o : Int} {n : Nat} (h : (n : Int) = partsN o) : (o = 1 ∧ n = 0) ∨ (o = 4 ∧ n = 0) ∨ (o = 2 ∧ n = 1) ∨ (o = 5 ∧ n = 1) ∨ (o = 8 ∧ n = 1) ∨ (o = 9 ∧ n = 1) ∨ (o = 3 ∧ n = 2) ∨ (o = 7 ∧ n = 2) ∨ (o = 6 ∧ n = 3) := by
 unfold partsN at h
 split at h
 ·rename_i e; rcases e with e | e <;> omega
 ·split at h
  ·rename_i e; rcases e with e | e | e | e <;> omega
  ·split at h
   ·rename_i e; rcases e with e | e <;> omega
   ·split at h <;> omega
theorem firstAny (l : List Nat) : firstOk Sh.any (wps l) = true := by cases l <;> rfl
theorem s43r (l : List Nat) : ∀ n, 1 ≤ n → runFn E n 43 [.t (.slc (wps l))] [] = some (.clip (wps l), []) := by
 intro n hn
 obtain ⟨n, rfl⟩ : ∃ k, n = k + 1 := ⟨n - 1, by omega⟩
 have e : List.drop 0 (List.take (Int.toNat ((wps l).length : Nat)) (wps l)) = wps l := by
  rw [Int.toNat_natCast, List.take_length]; rfl
 rw [runFn_evR, r43r, e]
 exact step_t (by simp) (step_t (firstAny l) rfl)
theorem encLs_len (l : List Lam) : (encLs l).length = l.length := by rw [encLs_map, List.length_map]
theorem cast0 : ((0 : Nat) : Int) = 0 := rfl
theorem head19 {f n : Nat} {ctx : List Tree} {o k : Int} {ty : Ty} {l : List Lam} {G : World'} (ho : o ≠ 2) :
  evWQ (Tab.env tab) n 19 [.wp f 0, .slc ctx, encL (.mk o k ty l)] G = M19 false n n (evZW (Tab.env tab) n 19 5) f ctx ctx (encLs l) (l.length : Nat) ((0 : Nat) : Int) G o k ty.name (encTs ty.parts) (encLs l) (wps []) := by
 cases ty with
 | mk s u =>
 rw [cast0]
 show _ = M19_0 n n (evZW (Tab.env tab) n 19 5) f ctx ctx (encLs l) (l.length : Nat) 0 G o k s (encTs u) (encLs l)
 unfold M19_0
 rw [encL, w19, ← encLs_len l]
 refine step_f (by simpa using ho) ?_
 exact evLW_cut (j := 4) (p := [1, 0]) 5 (by decide)
theorem head19r {f n : Nat} {ctx : List Nat} {a : Nat} {k : Int} {ty : Ty} {l : List Lam} {G G1 : World'} (h : EvW E 1 44 [.wp f 0] G (.wp a 0) G1) (hn : 1 ≤ n) (hc : ctx.length ≤ 1000000) :
  evWQ (Tab.env tab) n 19 [.wp f 0, .slc (wps ctx), encL (.mk 2 k ty l)] G = M19 true n n (evZW (Tab.env tab) n 19 5) f (wps ctx) (wps (ctx ++ [a])) (encLs l) (l.length : Nat) ((0 : Nat) : Int) G1 2 k ty.name (encTs ty.parts) (encLs l) (wps []) := by
 cases ty with
 | mk s u =>
 rw [cast0]
 show _ = M19_0c n n (evZW (Tab.env tab) n 19 5) f (wps ctx) (encLs l) (l.length : Nat) 0 G1 2 k s (encTs u) (encLs l) (wps (ctx ++ [a]))
 unfold M19_0c
 rw [encL, w19, ← encLs_len l, wps_app]
 refine step_t rfl (step_b (s43r ctx n hn) (step_t rfl (step_b (h n hn) (step_t rfl (step_t ?_ ?_)))))
 ·show (firstOk Sh.any (wps ctx) && (true && Nat.ble (((wps ctx).length + 1) * 8) 140737488355328)) = true
  rw [firstAny, wps_len]
  simp only [Bool.true_and, Nat.ble_eq]
  omega
 ·exact evLW_cut (j := 4) (p := [1, 0]) 5 (by decide)
end Go.Proofs.Cw.Si
end

/-
  THE INFERER'S WORLD 14: infer: all cases.
-/
section
namespace Go.Proofs.Cw.Si
open Go.Proofs
theorem Has.parts {Γ : List FT} {o k : Int} {t : Ty} {l : List Lam} {τ : FT} (ho : o ≠ 2) (h : Has Γ (.mk o k t l) τ) : ∃ τs, HasL Γ l τs := by
 cases h with
 | var _ _ _ => exact ⟨_, .nil⟩
 | lam _ => exact absurd rfl ho
 | app h1 h2 => exact ⟨_, .cons h1 (.cons h2 .nil)⟩
 | num => exact ⟨_, .nil⟩
 | suc h => exact ⟨_, .cons h .nil⟩
 | iter h1 h2 h3 => exact ⟨_, .cons h1 (.cons h2 (.cons h3 .nil))⟩
 | pair h1 h2 => exact ⟨_, .cons h1 (.cons h2 .nil)⟩
 | fst h => exact ⟨_, .cons h .nil⟩
 | snd h => exact ⟨_, .cons h .nil⟩
def Fin19 (f m : Nat) (N : NT) (next : Nat) (es : Bd) (ctx : List Nat) (t : Lam) (G : World') (Z : Nat → Option (Tree × World')) : Prop :=
 ∃ c v u G', (∀ n, c ≤ n → Z n = some (.tup [u, .bool v], G')) ∧ ((v = false ∧ u.isSc = true ∧ Non N es ctx [t]) ∨
  (v = true ∧ ∃ i N' next' es', u = .wp i 0 ∧ Infd f m N next es ctx [t] G G' [i] N' next' es'))
section
variable {f m : Nat} {N : NT} {next : Nat} {es : Bd} {ctx : List Nat} {G : World'}
theorem frame19 {o k : Int} {ty : Ty} {l : List Lam} (ho : o ≠ 2) (hl : l.length ≤ 100000) (hs : ∀ t, t ∈ l → Spec19 f m ctx t) (w : Wok G f m N next es) (hctx : ∀ i, i ∈ ctx → ∃ nd, N i = some nd) (hn : next + 2 * sizeLs l ≤ 1000000) :
  ∃ c, (Non N es ctx l ∧ ∃ G', ∀ n, c ≤ n → evWQ (Tab.env tab) n 19 [.wp f 0, .slc (wps ctx), encL (.mk o k ty l)] G = some (.tup [.nilp, .bool false], G')) ∨
   ∃ us N' next' es' G', Infd f m N next es ctx l G G' us N' next' es' ∧ us.length = l.length ∧ ∀ n, c ≤ n → evWQ (Tab.env tab) n 19 [.wp f 0, .slc (wps ctx), encL (.mk o k ty l)] G =
    evZW (Tab.env tab) n 19 5 (S19s false f (wps ctx) (wps ctx) (encLs l) (l.length : Nat) (l.length : Nat) G' o k ty.name (encTs ty.parts) (encLs l) (wps us)) := by
 obtain ⟨c, h⟩ := l19 (row := false) (s1 := wps ctx) (o := o) (k := k) (tn := ty.name) (tl := encTs ty.parts) (ps := encLs l) hl l 0 hs rfl [] G N next es (by simp) (by omega) w hctx hn
 rcases h with ⟨no, G', h⟩ | ⟨us, N', next', es', G', a, hu, h⟩
 ·exact ⟨c, .inl ⟨no, G', fun n hc => by rw [head19 ho]; exact h n n _ hc hc⟩⟩
 ·exact ⟨c, .inr ⟨us, N', next', es', G', a, hu, fun n hc => by rw [head19 ho]; exact h n n _ hc hc⟩⟩
theorem fin_suc (fm : f ≠ m) {N1 : NT} {next1 : Nat} {es1 : Bd} {G1 : World'} {x : Lam} {k : Int} {t : Ty} {a : Nat} {s1 ctx2 l : List Tree} {len i : Int} {tn : List UInt8} {tl ps : List Tree} (h : Infd f m N next es ctx [x] G G1 [a] N1 next1 es1) :
  Fin19 f m N next es ctx (.mk 5 k t [x]) G fun n => evZW (Tab.env tab) n 19 5 (S19s false f s1 ctx2 l len i G1 5 k tn tl ps (wps [a])) := by
 have hnum := h.w.new.1
 have w1 := h.w.add (nd := .nat) (fun k e => by cases e) (fun p a b e => by cases e)
 obtain ⟨nd, hnd⟩ := h.kn a (by simp)
 obtain ⟨c, v, G2, e, hv⟩ := s46 w1 fm (a := a) (b := G1.length) ⟨nd, NT.le_add hnum _ _ hnd⟩ ⟨_, NT.add_self _ _ _⟩
 refine ⟨c, v, .wp G1.length 0, G2, fun n hn => rest_suc e n hn, ?_⟩
 rcases hv with ⟨rfl, no⟩ | ⟨rfl, es2, w2, _, iff⟩
 ·exact .inl ⟨rfl, rfl, h.suc_no hnum no⟩
 ·exact .inr ⟨rfl, _, _, _, _, rfl, h.suc hnum w2 iff⟩
theorem fin_pair {N1 : NT} {next1 : Nat} {es1 : Bd} {G1 : World'} {x y : Lam} {k : Int} {t : Ty} {a b : Nat} {s1 ctx2 l : List Tree} {len i : Int} {tn : List UInt8} {tl ps : List Tree} (h : Infd f m N next es ctx [x, y] G G1 [a, b] N1 next1 es1) :
  Fin19 f m N next es ctx (.mk 7 k t [x, y]) G fun n => evZW (Tab.env tab) n 19 5 (S19s false f s1 ctx2 l len i G1 7 k tn tl ps (wps [a, b])) :=
 ⟨1, true, _, _, fun n hn => rest_pair n hn, .inr ⟨rfl, _, _, _, _, rfl, h.pair (h.w.app [Nd.nat.obj])⟩⟩
theorem fin_app (fm : f ≠ m) {N1 : NT} {next1 : Nat} {es1 : Bd} {G1 : World'} {x y : Lam} {k : Int} {t : Ty} {a b : Nat} {s1 ctx2 l : List Tree} {len i : Int} {tn : List UInt8} {tl ps : List Tree} (h : Infd f m N next es ctx [x, y] G G1 [a, b] N1 next1 es1) (hn : next1 + 1 ≤ 1000000) :
  Fin19 f m N next es ctx (.mk 3 k t [x, y]) G fun n => evZW (Tab.env tab) n 19 5 (S19s false f s1 ctx2 l len i G1 3 k tn tl ps (wps [a, b])) := by
 have w1 := h.w.app [Nd.nat.obj]
 have e1 := s44 w1 hn
 have w2 := w1.fresh fm hn
 have hr := w1.new.1
 have hp := w2.new.1
 obtain ⟨na, hna⟩ := h.kn a (by simp)
 obtain ⟨nb, hnb⟩ := h.kn b (by simp)
 have w3 := w2.add (nd := .bin true b (G1 ++ [Nd.nat.obj]).length) (fun k e => by cases e) (fun p a' b' e => by
  cases e
  exact ⟨⟨nb, NT.le_add hr _ _ hnb⟩, ⟨_, NT.add_self _ _ _⟩⟩)
 obtain ⟨c, v, G4, e2, hv⟩ := s46 w3 fm (a := a) (b := (freshW (G1 ++ [Nd.nat.obj]) f m next1).length) ⟨na, NT.le_add hp _ _ (NT.le_add hr _ _ hna)⟩ ⟨_, NT.add_self _ _ _⟩
 refine ⟨c + 1, v, _, G4, fun n hn => rest_app e1 e2 n hn, ?_⟩
 rcases hv with ⟨rfl, no⟩ | ⟨rfl, es2, w4, _, iff⟩
 ·exact .inl ⟨rfl, rfl, h.app_no hr w2 hp no⟩
 ·exact .inr ⟨rfl, _, _, _, _, rfl, h.app hr w2 hp w4 iff⟩
theorem fin_iter (fm : f ≠ m) {N1 : NT} {next1 : Nat} {es1 : Bd} {G1 : World'} {x y z : Lam} {k : Int} {t : Ty} {a b d : Nat} {s1 ctx2 l : List Tree} {len i : Int} {tn : List UInt8} {tl ps : List Tree} (h : Infd f m N next es ctx [x, y, z] G G1 [a, b, d] N1 next1 es1) :
  Fin19 f m N next es ctx (.mk 6 k t [x, y, z]) G fun n => evZW (Tab.env tab) n 19 5 (S19s false f s1 ctx2 l len i G1 6 k tn tl ps (wps [a, b, d])) := by
 have hnum := h.w.new.1
 have w1 := h.w.add (nd := .nat) (fun k e => by cases e) (fun p a b e => by cases e)
 obtain ⟨na, hna⟩ := h.kn a (by simp)
 obtain ⟨nb, hnb⟩ := h.kn b (by simp)
 obtain ⟨ndd, hnd⟩ := h.kn d (by simp)
 obtain ⟨c, v, G2, e, hv⟩ := s46 w1 fm (a := a) (b := G1.length) ⟨na, NT.le_add hnum _ _ hna⟩ ⟨_, NT.add_self _ _ _⟩
 rcases hv with ⟨rfl, no⟩ | ⟨rfl, es2, w2, _, iff⟩
 ·exact ⟨c, false, _, G2, fun n hn => rest_iter_no e n hn, .inl ⟨rfl, rfl, h.iter_no1 hnum no⟩⟩
 ·have hp := w2.new.1
  have w3 := w2.add (nd := .bin true d d) (fun k e => by cases e) (fun p a' b' e => by
   cases e
   exact ⟨⟨ndd, NT.le_add hnum _ _ hnd⟩, ⟨ndd, NT.le_add hnum _ _ hnd⟩⟩)
  obtain ⟨c2, v, G4, e2, hv⟩ := s46 w3 fm (a := b) (b := G2.length) ⟨nb, NT.le_add hp _ _ (NT.le_add hnum _ _ hnb)⟩ ⟨_, NT.add_self _ _ _⟩
  refine ⟨c + c2 + 1, v, _, G4, fun n hn => rest_iter (e.mono (Nat.le_add_right c c2)) (e2.mono (Nat.le_add_left c2 c)) n hn, ?_⟩
  rcases hv with ⟨rfl, no⟩ | ⟨rfl, es3, w4, _, iff2⟩
  ·exact .inl ⟨rfl, rfl, h.iter_no2 hnum w2 iff hp no⟩
  ·exact .inr ⟨rfl, _, _, _, _, rfl, h.iter hnum w2 iff hp w4 iff2⟩
theorem fin_fst (fm : f ≠ m) {N1 : NT} {next1 : Nat} {es1 : Bd} {G1 : World'} {x : Lam} {k : Int} {t : Ty} {a : Nat} {s1 ctx2 l : List Tree} {len i : Int} {tn : List UInt8} {tl ps : List Tree} (h : Infd f m N next es ctx [x] G G1 [a] N1 next1 es1) (hn : next1 + 1 + 1 ≤ 1000000) :
  (Fin19 f m N next es ctx (.mk 8 k t [x]) G fun n => evZW (Tab.env tab) n 19 5 (S19s false f s1 ctx2 l len i G1 8 k tn tl ps (wps [a]))) ∧
  Fin19 f m N next es ctx (.mk 9 k t [x]) G fun n => evZW (Tab.env tab) n 19 5 (S19s false f s1 ctx2 l len i G1 9 k tn tl ps (wps [a])) := by
 have w1 := h.w.app [Nd.nat.obj]
 have e1 := s44 w1 (by omega)
 have w2 := w1.fresh fm (by omega)
 have hr := w1.new.1
 have e2 := s44 w2 hn
 have w3 := w2.fresh fm hn
 have hr2 := w2.new.1
 have hp := w3.new.1
 obtain ⟨na, hna⟩ := h.kn a (by simp)
 have l1 := NT.le_add (nd := .unk (next1 + 1)) hr
 have l2 := NT.le_add (nd := .unk (next1 + 1 + 1)) hr2
 have w4 := w3.add (nd := .bin false (G1 ++ [Nd.nat.obj]).length (freshW (G1 ++ [Nd.nat.obj]) f m next1).length) (fun k e => by cases e) (fun p a' b' e => by
  cases e
  exact ⟨⟨_, l2 _ _ (NT.add_self _ _ _)⟩, ⟨_, NT.add_self _ _ _⟩⟩)
 obtain ⟨c, v, G4, e3, hv⟩ := s46 w4 fm (a := a) (b := (freshW (freshW (G1 ++ [Nd.nat.obj]) f m next1) f m (next1 + 1)).length) ⟨na, NT.le_add hp _ _ (l2 _ _ (l1 _ _ hna))⟩ ⟨_, NT.add_self _ _ _⟩
 rcases hv with ⟨rfl, no⟩ | ⟨rfl, es2, w5, _, iff⟩
 ·obtain ⟨n1, n2⟩ := h.fst_no (k := k) (t := t) hr w2 hr2 w3 hp no
  exact ⟨⟨c + 1, false, _, G4, fun n hn => rest_fst e1 e2 e3 n hn, .inl ⟨rfl, rfl, n1⟩⟩, ⟨c + 1, false, _, G4, fun n hn => rest_snd e1 e2 e3 n hn, .inl ⟨rfl, rfl, n2⟩⟩⟩
 ·obtain ⟨i1, i2⟩ := h.fst (k := k) (t := t) hr w2 hr2 w3 hp w5 iff
  exact ⟨⟨c + 1, true, _, G4, fun n hn => rest_fst e1 e2 e3 n hn, .inr ⟨rfl, _, _, _, _, rfl, i1⟩⟩, ⟨c + 1, true, _, G4, fun n hn => rest_snd e1 e2 e3 n hn, .inr ⟨rfl, _, _, _, _, rfl, i2⟩⟩⟩
end
theorem len_two {α : Type} {l : List α} (h : l.length = 2) : ∃ a b, l = [a, b] := by
 match l, h with
 | [a, b], _ => exact ⟨a, b, rfl⟩
theorem len_three {α : Type} {l : List α} (h : l.length = 3) : ∃ a b c, l = [a, b, c] := by
 match l, h with
 | [a, b, c], _ => exact ⟨a, b, c, rfl⟩
theorem s19 {f m : Nat} (fm : f ≠ m) : ∀ (t : Lam) (ctx : List Nat), esh ctx.length t → ctx.length + sizeL t ≤ 1000000 → sizeL t ≤ 100000 → Spec19 f m ctx t
 | .mk o k ty l, ctx, hs, hc, hz => by
  intro G N next es w hctx hn
  unfold esh at hs
  obtain ⟨h1, h2, h3⟩ := hs
  rw [sizeL_mk] at hc hz hn
  have hl := len_sizeLs l
  by_cases ho : o = 2
  ·subst ho
   rw [if_pos rfl] at h3
   obtain ⟨x, rfl⟩ : ∃ x, l = [x] := by
    rcases ops_of h1 with ⟨e, _⟩ | ⟨e, _⟩ | ⟨_, e⟩ | ⟨e, _⟩ | ⟨e, _⟩ | ⟨e, _⟩ | ⟨e, _⟩ | ⟨e, _⟩ | ⟨e, _⟩ <;> first | (exfalso; omega) | exact List.length_eq_one_iff.1 e
   have hx : x ∈ [x] := List.mem_singleton.2 rfl
   have hsz := sizeLs_mem hx
   have e1 := s44 w (show next + 1 ≤ 1000000 by omega)
   have w1 := w.fresh fm (by omega)
   have ha := w.new.1
   have le1 := NT.le_add (nd := .unk (next + 1)) ha
   have ih : ∀ t, t ∈ [x] → Spec19 f m (ctx ++ [G.length]) t := fun t ht => by
    have : sizeL t < sizeL (.mk 2 k ty [x]) := by have := sizeLs_mem ht; rw [sizeL_mk]; omega
    have hsz := sizeLs_mem ht
    exact s19 fm t (ctx ++ [G.length]) (by
     have := eshs_mem ht h3
     simpa using this) (by simp; omega) (by omega)
   have hctx1 : ∀ i, i ∈ ctx ++ [G.length] → ∃ nd, N.add G.length (.unk (next + 1)) i = some nd := fun i hi => by
    rcases List.mem_append.1 hi with hi | hi
    ·obtain ⟨nd, hnd⟩ := hctx i hi
     exact ⟨nd, le1 _ _ hnd⟩
    ·rw [List.mem_singleton.1 hi]; exact ⟨_, NT.add_self _ _ _⟩
   obtain ⟨c, h⟩ := l19 (row := true) (s1 := wps ctx) (o := 2) (k := k) (tn := ty.name) (tl := encTs ty.parts) (ps := encLs [x]) (by simp) [x] 0 ih rfl [] (freshW G f m next) (N.add G.length (.unk (next + 1))) (next + 1) es (by simp) (by omega) w1 hctx1 (by omega)
   rcases h with ⟨no, G', h⟩ | ⟨us, N', next', es', G', a, hu, h⟩
   ·refine ⟨c + 1 + 1, false, .nilp, G', EvW.mk fun n hn => ?_, .inl ⟨rfl, rfl, Infd.lam_no (G1 := G') w ha rfl no⟩⟩
    rw [head19r e1 (by omega) (by omega)]
    exact h n n _ (by omega) (by omega)
   ·obtain ⟨b, rfl⟩ := List.length_eq_one_iff.1 (show us.length = 1 by simpa using hu)
    refine ⟨c + 1 + 1, true, _, _, EvW.mk fun n hn => ?_, .inr ⟨rfl, _, _, _, _, rfl, Infd.lam w ha hctx rfl w1 a (a.w.app [Nd.nat.obj])⟩⟩
    rw [head19r e1 (by omega) (by omega), h n n _ (by omega) (by omega)]
    exact rest_lam n (by omega) (by omega)
  ·rw [if_neg ho] at h3
   have ih : ∀ t, t ∈ l → Spec19 f m ctx t := fun t ht => by
    have : sizeL t < sizeL (.mk o k ty l) := by have := sizeLs_mem ht; rw [sizeL_mk]; omega
    have hsz := sizeLs_mem ht
    exact s19 fm t ctx (eshs_mem ht h3) (by omega) (by omega)
   have leaf : l = [] → ∀ n, evWQ (Tab.env tab) (n + 1) 19 [.wp f 0, .slc (wps ctx), encL (.mk o k ty l)] G = evZW (Tab.env tab) (n + 1) 19 5 (S19s false f (wps ctx) (wps ctx) (encLs l) (l.length : Nat) (l.length : Nat) G o k ty.name (encTs ty.parts) (encLs l) []) := by
    intro e n
    subst e
    rw [head19 ho]
    exact k19_end
   rcases ops_of h1 with ⟨rfl, e⟩ | ⟨rfl, e⟩ | hh
   ·have hle := List.length_eq_zero_iff.1 e
    obtain ⟨h0, hk⟩ := h2 rfl
    have hlt : ctx.length - 1 - k.toNat < ctx.length := by omega
    have hj : ctx[ctx.length - 1 - k.toNat]? = some ctx[ctx.length - 1 - k.toNat] := List.getElem?_eq_getElem hlt
    have inf : Infd f m N next es ctx [.mk 1 k ty l] G (G ++ [Nd.nat.obj]) [ctx[ctx.length - 1 - k.toNat]] N next es := by
     subst hle
     exact Infd.var w (w.app [Nd.nat.obj]) h0 hk hj (hctx _ (List.getElem_mem hlt))
    refine ⟨2, true, _, _, EvW.mk fun n hn => ?_, .inr ⟨rfl, _, _, _, _, rfl, inf⟩⟩
    obtain ⟨n, rfl⟩ : ∃ p, n = p + 1 := ⟨n - 1, by omega⟩
    rw [leaf hle]
    exact rest_var _ h0 hk (by omega) hj
   ·have hle := List.length_eq_zero_iff.1 e
    have inf : Infd f m N next es ctx [.mk 4 k ty l] G (G ++ [Nd.nat.obj]) [G.length] (N.add G.length .nat) next es := by
     subst hle
     exact Infd.num w
    refine ⟨2, true, _, _, EvW.mk fun n hn => ?_, .inr ⟨rfl, _, _, _, _, rfl, inf⟩⟩
    obtain ⟨n, rfl⟩ : ∃ p, n = p + 1 := ⟨n - 1, by omega⟩
    rw [leaf hle]
    exact rest_num _
   ·obtain ⟨c, ⟨no, G', h⟩ | ⟨us, N1, next1, es1, G1, a, hu, h⟩⟩ := frame19 (o := o) (k := k) (ty := ty) ho (by omega) ih w hctx (by omega)
    ·exact ⟨c + 1, false, .nilp, G', EvW.mk h, .inl ⟨rfl, rfl, no.parts fun Γ τ hh => hh.parts ho⟩⟩
    ·have hnext := a.hi
     have fin : Fin19 f m N next es ctx (.mk o k ty l) G (fun n => evZW (Tab.env tab) n 19 5 (S19s false f (wps ctx) (wps ctx) (encLs l) (l.length : Nat) (l.length : Nat) G1 o k ty.name (encTs ty.parts) (encLs l) (wps us))) := by
      rcases hh with ⟨e, _⟩ | ⟨rfl, e⟩ | ⟨rfl, e⟩ | ⟨rfl, e⟩ | ⟨rfl, e⟩ | ⟨rfl, e⟩ | ⟨rfl, e⟩
      ·exact absurd e ho
      ·obtain ⟨x, rfl⟩ := List.length_eq_one_iff.1 e
       obtain ⟨y, rfl⟩ := List.length_eq_one_iff.1 (hu.trans e)
       exact fin_suc fm a
      ·obtain ⟨x, rfl⟩ := List.length_eq_one_iff.1 e
       obtain ⟨y, rfl⟩ := List.length_eq_one_iff.1 (hu.trans e)
       exact (fin_fst fm a (by omega)).1
      ·obtain ⟨x, rfl⟩ := List.length_eq_one_iff.1 e
       obtain ⟨y, rfl⟩ := List.length_eq_one_iff.1 (hu.trans e)
       exact (fin_fst fm a (by omega)).2
      ·obtain ⟨x, x2, rfl⟩ := len_two e
       obtain ⟨y, y2, rfl⟩ := len_two (hu.trans e)
       exact fin_app fm a (by omega)
      ·obtain ⟨x, x2, rfl⟩ := len_two e
       obtain ⟨y, y2, rfl⟩ := len_two (hu.trans e)
       exact fin_pair a
      ·obtain ⟨x, x2, x3, rfl⟩ := len_three e
       obtain ⟨y, y2, y3, rfl⟩ := len_three (hu.trans e)
       exact fin_iter fm a
     obtain ⟨c2, v, u, G', hz, fin⟩ := fin
     refine ⟨c + c2 + 1, v, u, G', EvW.mk fun n hn => ?_, fin⟩
     rw [h n (by omega)]
     exact hz n (by omega)
termination_by t => sizeL t
end Go.Proofs.Cw.Si
end

/-
  NAMES: the digits of a number below 100.
-/
section
set_option maxRecDepth 100000
namespace Go.Proofs.Cw.Si
open Go.Proofs
def nmI (k : Nat) : List UInt8 := if k < 10 then [UInt8.ofNat (48 + k)] else [UInt8.ofNat (48 + k / 10), UInt8.ofNat (48 + k % 10)]
def unI : List UInt8 → Nat
 | [a] => a.toNat - 48
 | [a, b] => (a.toNat - 48) * 10 + (b.toNat - 48)
 | _ => 0
def unOk : Nat → Bool
 | 0 => true
 | k + 1 => decide (unI (nmI k) = k) && decide ((nmI k).length ≤ 2) && unOk k
theorem unOk_of : ∀ {n k : Nat}, unOk n = true → k < n → unI (nmI k) = k ∧ (nmI k).length ≤ 2
 | n + 1, k, h, hk => by
  unfold unOk at h
  simp only [Bool.and_eq_true, decide_eq_true_eq] at h
  by_cases e : k = n
  ·subst e; exact h.1
  ·exact unOk_of h.2 (by omega)
theorem unI_nmI {k : Nat} (h : k < 100) : unI (nmI k) = k := (unOk_of (n := 100) (by decide) h).1
theorem nmI_len {k : Nat} (h : k < 100) : (nmI k).length ≤ 2 := (unOk_of (n := 100) (by decide) h).2
theorem nmI_inj {j k : Nat} (hj : j < 100) (hk : k < 100) (h : nmI j = nmI k) : j = k := by rw [← unI_nmI hj, ← unI_nmI hk, h]
theorem q90 (n : Nat) : ∀ k : Nat, k < 100 → evQ (Tab.env tab) n 90 [I (k : Nat)] = some (.str (nmI k))
 | 0, _ => rfl
 | 1, _ => rfl
 | 2, _ => rfl
 | 3, _ => rfl
 | 4, _ => rfl
 | 5, _ => rfl
 | 6, _ => rfl
 | 7, _ => rfl
 | 8, _ => rfl
 | 9, _ => rfl
 | 10, _ => rfl
 | 11, _ => rfl
 | 12, _ => rfl
 | 13, _ => rfl
 | 14, _ => rfl
 | 15, _ => rfl
 | 16, _ => rfl
 | 17, _ => rfl
 | 18, _ => rfl
 | 19, _ => rfl
 | 20, _ => rfl
 | 21, _ => rfl
 | 22, _ => rfl
 | 23, _ => rfl
 | 24, _ => rfl
 | 25, _ => rfl
 | 26, _ => rfl
 | 27, _ => rfl
 | 28, _ => rfl
 | 29, _ => rfl
 | 30, _ => rfl
 | 31, _ => rfl
 | 32, _ => rfl
 | 33, _ => rfl
 | 34, _ => rfl
 | 35, _ => rfl
 | 36, _ => rfl
 | 37, _ => rfl
 | 38, _ => rfl
 | 39, _ => rfl
 | 40, _ => rfl
 | 41, _ => rfl
 | 42, _ => rfl
 | 43, _ => rfl
 | 44, _ => rfl
 | 45, _ => rfl
 | 46, _ => rfl
 | 47, _ => rfl
 | 48, _ => rfl
 | 49, _ => rfl
 | 50, _ => rfl
 | 51, _ => rfl
 | 52, _ => rfl
 | 53, _ => rfl
 | 54, _ => rfl
 | 55, _ => rfl
 | 56, _ => rfl
 | 57, _ => rfl
 | 58, _ => rfl
 | 59, _ => rfl
 | 60, _ => rfl
 | 61, _ => rfl
 | 62, _ => rfl
 | 63, _ => rfl
 | 64, _ => rfl
 | 65, _ => rfl
 | 66, _ => rfl
 | 67, _ => rfl
 | 68, _ => rfl
 | 69, _ => rfl
 | 70, _ => rfl
 | 71, _ => rfl
 | 72, _ => rfl
 | 73, _ => rfl
 | 74, _ => rfl
 | 75, _ => rfl
 | 76, _ => rfl
 | 77, _ => rfl
 | 78, _ => rfl
 | 79, _ => rfl
 | 80, _ => rfl
 | 81, _ => rfl
 | 82, _ => rfl
 | 83, _ => rfl
 | 84, _ => rfl
 | 85, _ => rfl
 | 86, _ => rfl
 | 87, _ => rfl
 | 88, _ => rfl
 | 89, _ => rfl
 | 90, _ => rfl
 | 91, _ => rfl
 | 92, _ => rfl
 | 93, _ => rfl
 | 94, _ => rfl
 | 95, _ => rfl
 | 96, _ => rfl
 | 97, _ => rfl
 | 98, _ => rfl
 | 99, _ => rfl
 | k + 100, h => by omega
theorem s48 {k : Nat} (h : k < 100) : Ev E 4 48 [I (k : Nat)] (.str (nmI k)) := by
 have h90 : Ev E 1 90 [I (k : Nat)] (.str (nmI k)) := Ev.mk fun n _ => q90 n k h
 have h82 : Ev E 2 82 [I (k : Nat), I 10] (.str (nmI k)) := Ev.mk fun n hn => by
  rw [e82]
  exact step_t rfl (step_t (by simp) (step_t (by simp; omega) (step_b (h90 n hn) rfl)))
 have h69 : Ev E 3 69 [I (k : Nat)] (.str (nmI k)) := Ev.mk fun n hn => by
  rw [e69]
  exact step_b (h82 n hn) rfl
 exact Ev.mk fun n hn => by
  rw [e48]
  exact step_b (h69 n hn) rfl
end Go.Proofs.Cw.Si
end

/-
  THE INFERER'S WORLD 15: told.
-/
section
namespace Go.Proofs.Cw.Si
open Go.Proofs
def nmM (i : Nat) : List Nat → List (Tree × Tree)
 | [] => []
 | k :: r => (I (k : Nat), .str (63 :: nmI i)) :: nmM (i + 1) r
theorem nmM_len (i : Nat) : ∀ ns : List Nat, (nmM i ns).length = ns.length
 | [] => rfl
 | _ :: r => by simp [nmM, nmM_len (i + 1) r]
theorem nmM_app (k : Nat) : ∀ (ns : List Nat) (i : Nat), nmM i (ns ++ [k]) = nmM i ns ++ [(I (k : Nat), .str (63 :: nmI (i + ns.length)))]
 | [], i => rfl
 | x :: r, i => by
  simp only [List.cons_append, nmM, nmM_app k r (i + 1), List.length_cons]
  rw [show i + 1 + r.length = i + (r.length + 1) by omega]
theorem mfind_nm (k : Nat) : ∀ (ns : List Nat) (i j : Nat), (idx ns k = none → mfind .int (I k) (nmM i ns) j = some none) ∧ ∀ p, idx ns k = some p → mfind .int (I k) (nmM i ns) j = some (some (j + p, .str (63 :: nmI (i + p))))
 | [], i, j => ⟨fun _ => rfl, fun p h => by cases h⟩
 | x :: r, i, j => by
  have e : keyEq .int (I k) (I x) = some (((k : Nat) : Int) == ((x : Nat) : Int)) := rfl
  obtain ⟨h1, h2⟩ := mfind_nm k r (i + 1) (j + 1)
  have hb : (((k : Nat) : Int) == ((x : Nat) : Int)) = decide (k = x) := by
   by_cases h : k = x
   ·simp [h]
   ·simp [h]; omega
  have step : mfind .int (I k) (nmM i (x :: r)) j = match decide (k = x) with
    | true => some (some (j, .str (63 :: nmI i)))
    | false => mfind .int (I k) (nmM (i + 1) r) (j + 1) := by
   show (match keyEq .int (I k) (I x) with | some true => _ | some false => _ | none => _) = _
   rw [e, hb]
   cases decide (k = x) <;> rfl
  rw [step]
  simp only [idx]
  by_cases h : x = k
  ·rw [if_pos h]
   simp only [h, decide_true]
   exact ⟨fun c => (by cases c), fun p hp => by cases hp; rfl⟩
  ·rw [if_neg h]
   simp only [show decide (k = x) = false from decide_eq_false fun c => h c.symm]
   refine ⟨fun c => h1 ?_, fun p hp => ?_⟩
   ·cases hi : idx r k with
    | none => rfl
    | some q => rw [hi] at c; cases c
   ·cases hi : idx r k with
    | none => rw [hi] at hp; cases hp
    | some q =>
     rw [hi] at hp
     cases hp
     rw [h2 q hi, show j + 1 + q = j + (q + 1) by omega, show i + 1 + q = i + (q + 1) by omega]
structure Tst (G : World') (f m : Nat) (N : NT) (next : Nat) (es : Bd) (mp lf : Nat) (ns : List Nat) (v : Nat) : Prop where
 w : Wok G f m N next es
 hm : nth G mp = some (.map (nmM 0 ns))
 hl : nth G lf = some (.cells [I (v : Nat)])
section
variable {G : World'} {f m : Nat} {N : NT} {next : Nat} {es : Bd} {mp lf : Nat}
theorem Tst.down {ns : List Nat} {v : Nat} (h : Tst G f m N next es mp lf ns (v + 1)) (l1 : lf ≠ f) (l2 : lf ≠ m) (l3 : N lf = none) (ml : mp ≠ lf) : Tst (setN G lf (.cells [I (v : Nat)])) f m N next es mp lf ns v where
 w := h.w.set _ l1 l2 l3
 hm := by rw [nth_set_ne _ _ fun e => ml e.symm]; exact h.hm
 hl := nth_set_same _ h.hl
theorem r20 {n q i c x t : Nat} {l : List Tree} {s1 s2 sy : List UInt8} {ly : List Ty} {G1 : World'} {us : List Tree} (hx : nth l i = some (.wp x 0)) (hi : i < l.length) (hl : l.length ≤ 1000) (hu : us.length ≤ 1000)
  (h : EvW E c 20 [.wp f 0, .wp x 0, .wm mp, .wp lf 0] G (.tup [encT (.mk sy ly), .bool true]) G1) (hn : c ≤ n) :
  (us = [] → L20_0 n (Nat.succ q) f mp lf l (l.length : Nat) (i : Nat) G s1 s2 = L20_0b n q f mp lf l (l.length : Nat) ((i + 1 : Nat) : Int) G1 s1 s2 [encT (.mk sy ly)]) ∧
  L20_0b n (Nat.succ q) f mp lf l (l.length : Nat) (i : Nat) G s1 s2 us = L20_0b n q f mp lf l (l.length : Nat) ((i + 1 : Nat) : Int) G1 s1 s2 (us ++ [encT (.mk sy ly)]) := by
 have h := h n hn
 have hw : IntKind.wrap .i64 (((i : Nat) : Int) + 1) = ((i + 1 : Nat) : Int) := by rw [w64 (by omega)]; omega
 have hb : Nat.ble ((us.length + 1) * 40) 140737488355328 = true := by rw [Nat.ble_eq]; omega
 have hx' : nth l (Int.toNat ((i : Nat) : Int)) = some (.wp x 0) := by rw [Int.toNat_natCast]; exact hx
 constructor
 ·intro _
  rw [v20_0]
  refine step_t (by simp; omega) (step_t (by simp) (step_b hx' (step_t rfl (step_b h (step_t rfl (step_f rfl ?_))))))
  rw [hw]; rfl
 ·rw [v20_0b]
  refine step_t (by simp; omega) (step_t (by simp) (step_b hx' (step_t rfl (step_b h (step_t rfl (step_f rfl (step_t (by rw [hb]; rfl) ?_)))))))
  rw [hw]; rfl
theorem r20_no {n q i c x t : Nat} {l : List Tree} {s1 s2 : List UInt8} {y : Ty} {G1 : World'} {us : List Tree} (hx : nth l i = some (.wp x 0)) (hi : i < l.length) (hl : l.length ≤ 1000)
  (h : EvW E c 20 [.wp f 0, .wp x 0, .wm mp, .wp lf 0] G (.tup [encT y, .bool false]) G1) (hn : c ≤ n) :
  L20_0 n (Nat.succ q) f mp lf l (l.length : Nat) (i : Nat) G s1 s2 = some (.tup [encT tyZero, .bool false], G1) ∧
  L20_0b n (Nat.succ q) f mp lf l (l.length : Nat) (i : Nat) G s1 s2 us = some (.tup [encT tyZero, .bool false], G1) := by
 have h := h n hn
 cases y with
 | mk sy ly =>
 have hx' : nth l (Int.toNat ((i : Nat) : Int)) = some (.wp x 0) := by rw [Int.toNat_natCast]; exact hx
 constructor
 ·rw [v20_0]
  exact step_t (by simp; omega) (step_t (by simp) (step_b hx' (step_t rfl (step_b h (step_t rfl (step_t rfl rfl))))))
 ·rw [v20_0b]
  exact step_t (by simp; omega) (step_t (by simp) (step_b hx' (step_t rfl (step_b h (step_t rfl (step_t rfl rfl))))))
theorem end20 {n q : Nat} {l : List Tree} {s1 s2 : List UInt8} {us : List Tree} {i : Int} : L20_0 n (Nat.succ q) f mp lf l i i G s1 s2 = some (.tup [.agg [.str s2, .slc []], .bool true], G) ∧
  L20_0b n (Nat.succ q) f mp lf l i i G s1 s2 us = some (.tup [.agg [.str s2, .slc us], .bool true], G) := by
 constructor
 ·rw [v20_0]; exact step_f (by simp) rfl
 ·rw [v20_0b]; exact step_f (by simp) rfl
theorem wlook_nm_none {k : Nat} {ns : List Nat} (hm : nth G mp = some (.map (nmM 0 ns))) (h : idx ns k = none) : wlook .int G mp (I k) (.str []) = some (false, .str []) := by
 unfold wlook; simp only [hm, (mfind_nm k ns 0 0).1 h]
theorem wlook_nm_some {k p : Nat} {ns : List Nat} (hm : nth G mp = some (.map (nmM 0 ns))) (h : idx ns k = some p) : wlook .int G mp (I k) (.str []) = some (true, .str (63 :: nmI p)) := by
 have := (mfind_nm k ns 0 0).2 p h
 unfold wlook; simp only [hm, this]
 rw [Nat.zero_add]
theorem idx_app (k : Nat) : ∀ (ns : List Nat), idx ns k = none → idx (ns ++ [k]) k = some ns.length
 | [], _ => by simp [idx]
 | x :: r, h => by
  simp only [idx] at h
  by_cases e : x = k
  ·rw [if_pos e] at h; cases h
  ·rw [if_neg e] at h
   have hr : idx r k = none := by
    cases hi : idx r k with
    | none => rfl
    | some q => rw [hi] at h; cases h
   simp only [List.cons_append, idx, if_neg e, idx_app k r hr, List.length_cons]
   rfl
theorem u20_no {t r : Nat} {ns : List Nat} (h : Tst G f m N next es mp lf ns 0) (hf : Find N es t r) : ∃ c G', EvW E c 20 [.wp f 0, .wp t 0, .wm mp, .wp lf 0] G (.tup [encT tyZero, .bool false]) G' := by
 obtain ⟨c, e⟩ := s47 h.w hf
 have hset : wset G lf 0 [I (-1)] = some (setN G lf (.cells [I (-1)])) := by unfold wset; simp only [h.hl]; rfl
 have hl1 : wcell (setN G lf (.cells [I (-1)])) lf 0 = some (I (-1)) := wcell_of (nth_set_same _ h.hl) 0
 refine ⟨c + 1, setN G lf (.cells [I (-1)]), EvW.mk fun n hn => ?_⟩
 rw [w20]
 refine step_b (e n hn) (step_t rfl (step_b (wcell_of h.hl 0) (step_t rfl (step_b hset (step_b hl1 (step_t rfl (step_t rfl rfl)))))))
theorem u20_old (l1 : lf ≠ f) (l2 : lf ≠ m) (l3 : N lf = none) (ml : mp ≠ lf) {t r k p v : Nat} {ns : List Nat} (h : Tst G f m N next es mp lf ns (v + 1)) (hv : v < 1000) (hf : Find N es t r) (hr : N r = some (.unk k)) (hp : idx ns k = some p) :
  ∃ c, EvW E c 20 [.wp f 0, .wp t 0, .wm mp, .wp lf 0] G (.tup [encT (.mk (63 :: nmI p) []), .bool true]) (setN G lf (.cells [I (v : Nat)])) := by
 obtain ⟨c, e⟩ := s47 h.w hf
 have h1 := h.down l1 l2 l3 ml
 obtain ⟨c0, c1, _⟩ := h1.w.cell hr
 have hset : wset G lf 0 [I (v : Nat)] = some (setN G lf (.cells [I (v : Nat)])) := by unfold wset; simp only [h.hl]; rfl
 have hw : IntKind.wrap .i64 (Tree.toInt (I ((v + 1 : Nat) : Int)) - 1) = ((v : Nat) : Int) := by
  show IntKind.wrap .i64 (((v + 1 : Nat) : Int) - 1) = _
  rw [w64 (by omega)]; omega
 have hk := wlook_nm_some h1.hm hp
 refine ⟨c + 1, EvW.mk fun n hn => ?_⟩
 rw [w20]
 refine step_b (e n hn) (step_t rfl (step_b (wcell_of h.hl 0) (step_t rfl ?_)))
 rw [hw]
 refine step_b hset (step_b (wcell_of h1.hl 0) (step_t rfl (step_f (show decide (((v : Nat) : Int) < 0) = false from decide_eq_false (by omega)) ?_)))
 exact step_b c0 (step_t rfl (step_t rfl (step_b c1 (step_t rfl (step_b hk (step_t rfl (step_t rfl (step_b c1 (step_t rfl (step_b hk (step_t rfl rfl)))))))))))
theorem u20_new (m1 : mp ≠ f) (m2 : mp ≠ m) (m3 : N mp = none) (l1 : lf ≠ f) (l2 : lf ≠ m) (l3 : N lf = none) (ml : mp ≠ lf) {t r k v : Nat} {ns : List Nat} (h : Tst G f m N next es mp lf ns (v + 1)) (hv : v < 1000) (hf : Find N es t r) (hr : N r = some (.unk k)) (hp : idx ns k = none) (hl : ns.length < 100) :
  ∃ c G', EvW E c 20 [.wp f 0, .wp t 0, .wm mp, .wp lf 0] G (.tup [encT (.mk (63 :: nmI ns.length) []), .bool true]) G' ∧ Tst G' f m N next es mp lf (ns ++ [k]) v := by
 obtain ⟨c, e⟩ := s47 h.w hf
 have h1 := h.down l1 l2 l3 ml
 have h2 : Tst (setN (setN G lf (.cells [I (v : Nat)])) mp (.map (nmM 0 (ns ++ [k])))) f m N next es mp lf (ns ++ [k]) v :=
  ⟨h1.w.set _ m1 m2 m3, nth_set_same _ h1.hm, by rw [nth_set_ne _ _ ml]; exact h1.hl⟩
 obtain ⟨c0, c1, _⟩ := h1.w.cell hr
 obtain ⟨_, d1, _⟩ := h2.w.cell hr
 have hset : wset G lf 0 [I (v : Nat)] = some (setN G lf (.cells [I (v : Nat)])) := by unfold wset; simp only [h.hl]; rfl
 have hw : IntKind.wrap .i64 (Tree.toInt (I ((v + 1 : Nat) : Int)) - 1) = ((v : Nat) : Int) := by
  show IntKind.wrap .i64 (((v + 1 : Nat) : Int) - 1) = _
  rw [w64 (by omega)]; omega
 have hk := wlook_nm_none h1.hm hp
 have hk2 := wlook_nm_some h2.hm (idx_app k ns hp)
 have hlen : wlenM (setN G lf (.cells [I (v : Nat)])) mp = some ns.length := by unfold wlenM; simp only [h1.hm, nmM_len]
 have hput : wput .int (setN G lf (.cells [I (v : Nat)])) mp (I k) (.str ([63] ++ Tree.toStr (.str (nmI ns.length)))) = some (setN (setN G lf (.cells [I (v : Nat)])) mp (.map (nmM 0 (ns ++ [k])))) := by
  unfold wput
  simp only [h1.hm, (mfind_nm k ns 0 0).1 hp, nmM_app, Nat.zero_add]
  rfl
 have h48 := s48 hl
 have h2l := nmI_len hl
 refine ⟨c + 4 + 1, _, EvW.mk fun n hn => ?_, h2⟩
 rw [w20]
 refine step_b (e n (by omega)) (step_t rfl (step_b (wcell_of h.hl 0) (step_t rfl ?_)))
 rw [hw]
 refine step_b hset (step_b (wcell_of h1.hl 0) (step_t rfl (step_f (show decide (((v : Nat) : Int) < 0) = false from decide_eq_false (by omega)) ?_)))
 refine step_b c0 (step_t rfl (step_t rfl (step_b c1 (step_t rfl (step_b hk (step_f rfl (step_b c1 (step_t rfl (step_b hlen (step_b (h48 n (by omega)) (step_t rfl (step_t ?_ ?_))))))))))))
 ·show decide (1 + (nmI ns.length).length ≤ 140737488355328) = true
  simp; omega
 ·exact step_b hput (step_b d1 (step_t rfl (step_b hk2 (step_t rfl rfl))))
theorem u20_nd (l1 : lf ≠ f) (l2 : lf ≠ m) (l3 : N lf = none) (ml : mp ≠ lf) {t r v : Nat} {nd : Nd} {ns : List Nat} (h : Tst G f m N next es mp lf ns (v + 1)) (hv : v < 1000) (hf : Find N es t r) (hr : N r = some nd) (hu : nd.name ≠ []) {R : Option (Tree × World')} {d : Nat}
  (hR : ∀ n, d ≤ n → L20_0 n n f mp lf nd.kids (nd.kids.length : Nat) ((0 : Nat) : Int) (setN G lf (.cells [I (v : Nat)])) [] nd.name = R) :
  ∃ c, ∀ n, c ≤ n → evWQ (Tab.env tab) n 20 [.wp f 0, .wp t 0, .wm mp, .wp lf 0] G = R := by
 obtain ⟨c, e⟩ := s47 h.w hf
 have h1 := h.down l1 l2 l3 ml
 obtain ⟨c0, c1, c2⟩ := h1.w.cell hr
 have hset : wset G lf 0 [I (v : Nat)] = some (setN G lf (.cells [I (v : Nat)])) := by unfold wset; simp only [h.hl]; rfl
 have hw : IntKind.wrap .i64 (Tree.toInt (I ((v + 1 : Nat) : Int)) - 1) = ((v : Nat) : Int) := by
  show IntKind.wrap .i64 (((v + 1 : Nat) : Int) - 1) = _
  rw [w64 (by omega)]; omega
 refine ⟨c + d, fun n hn => ?_⟩
 have hR := hR n (by omega)
 rw [z0] at hR
 rw [w20]
 refine step_b (e n (by omega)) (step_t rfl (step_b (wcell_of h.hl 0) (step_t rfl ?_)))
 rw [hw]
 refine step_b hset (step_b (wcell_of h1.hl 0) (step_t rfl (step_f (show decide (((v : Nat) : Int) < 0) = false from decide_eq_false (by omega)) ?_)))
 refine step_b c0 (step_t rfl (step_f ?_ (step_b c0 (step_t rfl (step_b c2 (step_t rfl hR))))))
 show (nd.name == []) = false
 cases h : nd.name with
 | nil => exact absurd h hu
 | cons a b => rfl
theorem bin_name (q : Bool) : (if q then sTo else sPair) ≠ [] := by cases q <;> exact fun h => by cases h
theorem s20 (m1 : mp ≠ f) (m2 : mp ≠ m) (m3 : N mp = none) (l1 : lf ≠ f) (l2 : lf ≠ m) (l3 : N lf = none) (ml : mp ≠ lf) : ∀ (τ : FT) {G : World'} {t : Nat} {ns : List Nat} {v p : Nat}, Tst G f m N next es mp lf ns v → Res N es t τ → 2 * ns.length + v + 1 + p ≤ 201 →
  ∃ c y u G', EvW E c 20 [.wp f 0, .wp t 0, .wm mp, .wp lf 0] G (.tup [encT y, .bool u]) G' ∧
   ((u = false ∧ v < τ.size) ∨ (u = true ∧ τ.size ≤ v ∧ y = (tell nmI τ ns).1 ∧ Tst G' f m N next es mp lf (tell nmI τ ns).2 (v - τ.size) ∧ 2 * (tell nmI τ ns).2.length + (v - τ.size) + p ≤ 201)) := by
 intro τ
 induction τ with
 | var k =>
  intro G t ns v p h hr hl
  obtain ⟨r, hf, _, hc⟩ := hr.find
  rcases hc with ⟨k', hn, hk, e⟩ | ⟨_, e⟩ | ⟨_, _, _, _, _, _, _, _, e⟩
  ·cases e
   cases v with
   | zero =>
    obtain ⟨c, G', e⟩ := u20_no h hf
    exact ⟨c, _, false, G', e, .inl ⟨rfl, by simp [FT.size]⟩⟩
   | succ v =>
    cases hi : idx ns k with
    | some j =>
     obtain ⟨c, e⟩ := u20_old l1 l2 l3 ml h (by omega) hf hn hi
     refine ⟨c, _, true, _, e, .inr ⟨rfl, by simp [FT.size], by simp only [tell, hi], ?_, ?_⟩⟩
     ·simp only [tell, hi, FT.size, Nat.add_sub_cancel]; exact h.down l1 l2 l3 ml
     ·simp only [tell, hi, FT.size]; omega
    | none =>
     obtain ⟨c, G', e, h2⟩ := u20_new m1 m2 m3 l1 l2 l3 ml h (by omega) hf hn hi (by omega)
     refine ⟨c, _, true, _, e, .inr ⟨rfl, by simp [FT.size], by simp only [tell, hi], ?_, ?_⟩⟩
     ·simp only [tell, hi, FT.size, Nat.add_sub_cancel]; exact h2
     ·simp only [tell, hi, FT.size, List.length_append, List.length_singleton]; omega
  ·cases e
  ·cases e
 | nat =>
  intro G t ns v p h hr hl
  obtain ⟨r, hf, _, hc⟩ := hr.find
  rcases hc with ⟨k', hn, hk, e⟩ | ⟨hn, _⟩ | ⟨_, _, _, _, _, _, _, _, e⟩
  ·cases e
  ·cases v with
   | zero =>
    obtain ⟨c, G', e⟩ := u20_no h hf
    exact ⟨c, _, false, G', e, .inl ⟨rfl, by simp [FT.size]⟩⟩
   | succ v =>
    obtain ⟨c, e⟩ := u20_nd l1 l2 l3 ml h (by omega) hf hn (fun h => by cases h) (d := 1) (R := some (.tup [encT (.mk sNat []), .bool true], setN G lf (.cells [I (v : Nat)]))) fun n hn => by
     obtain ⟨n, rfl⟩ : ∃ p, n = Nat.succ p := ⟨n - 1, by omega⟩
     exact (end20 (us := [])).1
    refine ⟨c + 1, _, true, _, EvW.mk e, .inr ⟨rfl, by simp [FT.size], by simp only [tell], ?_, ?_⟩⟩
    ·simp only [tell, FT.size, Nat.add_sub_cancel]; exact h.down l1 l2 l3 ml
    ·simp only [tell, FT.size]; omega
  ·cases e
 | bin q a b iha ihb =>
  intro G t ns v p h hr hl
  obtain ⟨r, hf, _, hc⟩ := hr.find
  rcases hc with ⟨k', hn, hk, e⟩ | ⟨hn, e⟩ | ⟨q', x1, x2, y1, y2, hn, hr1, hr2, e⟩
  ·cases e
  ·cases e
  ·cases e
   cases v with
   | zero =>
    obtain ⟨c, G', e⟩ := u20_no h hf
    exact ⟨c, _, false, G', e, .inl ⟨rfl, by simp [FT.size]⟩⟩
   | succ v =>
    have h1 := h.down l1 l2 l3 ml
    obtain ⟨ca, ya, ua, Ga, ea, ha⟩ := iha (p := p + 1) h1 hr1 (by omega)
    have hx1 : nth [Tree.wp x1 0, Tree.wp x2 0] 0 = some (.wp x1 0) := rfl
    have hx2 : nth [Tree.wp x1 0, Tree.wp x2 0] 1 = some (.wp x2 0) := rfl
    rcases ha with ⟨rfl, sa⟩ | ⟨rfl, sa, rfl, ta, na⟩
    ·obtain ⟨c, e⟩ := u20_nd l1 l2 l3 ml h (by omega) hf hn (bin_name q) (d := ca + 1) (R := some (.tup [encT tyZero, .bool false], Ga)) fun n hn => by
      obtain ⟨m', hm'⟩ : ∃ p, n = Nat.succ p := ⟨n - 1, by omega⟩
      have := (r20_no (n := n) (q := m') (s1 := []) (s2 := Nd.name (.bin q x1 x2)) (us := []) (t := 0) hx1 (by simp) (by simp) ea (by omega)).1
      rw [← hm'] at this
      exact this
     exact ⟨c + 1, _, false, _, EvW.mk e, .inl ⟨rfl, by simp only [FT.size]; omega⟩⟩
    ·obtain ⟨cb, yb, ub, Gb, eb, hb⟩ := ihb (p := p) ta hr2 (by omega)
     generalize hya : (tell nmI a ns).1 = ya at ea
     cases ya with
     | mk sy ly =>
     have stepA : ∀ n q', ca ≤ n → L20_0 n (Nat.succ q') f mp lf [.wp x1 0, .wp x2 0] (([Tree.wp x1 0, Tree.wp x2 0].length : Nat) : Int) ((0 : Nat) : Int) (setN G lf (.cells [I (v : Nat)])) [] (Nd.name (.bin q x1 x2)) =
       L20_0b n q' f mp lf [.wp x1 0, .wp x2 0] (([Tree.wp x1 0, Tree.wp x2 0].length : Nat) : Int) ((1 : Nat) : Int) Ga [] (Nd.name (.bin q x1 x2)) [encT (.mk sy ly)] := fun n q' hn =>
      (r20 (n := n) (q := q') (s1 := []) (s2 := Nd.name (.bin q x1 x2)) (us := []) (t := 0) hx1 (by simp) (by simp) (by simp) ea hn).1 rfl
     rcases hb with ⟨rfl, sb⟩ | ⟨rfl, sb, rfl, tb, nb⟩
     ·obtain ⟨c, e⟩ := u20_nd l1 l2 l3 ml h (by omega) hf hn (bin_name q) (d := ca + cb + 2) (R := some (.tup [encT tyZero, .bool false], Gb)) fun n hn => by
       obtain ⟨m', hm'⟩ : ∃ p, n = Nat.succ (Nat.succ p) := ⟨n - 2, by omega⟩
       have s1 := stepA n (Nat.succ m') (by omega)
       have s2 := (r20_no (n := n) (q := m') (s1 := []) (s2 := Nd.name (.bin q x1 x2)) (us := [encT (.mk sy ly)]) (t := 0) hx2 (by simp) (by simp) eb (by omega)).2
       rw [← hm'] at s1
       exact s1.trans s2
      exact ⟨c + 1, _, false, _, EvW.mk e, .inl ⟨rfl, by simp only [FT.size]; omega⟩⟩
     ·generalize hyb : (tell nmI b (tell nmI a ns).2).1 = yb at eb
      cases yb with
      | mk sz lz =>
      obtain ⟨c, e⟩ := u20_nd l1 l2 l3 ml h (by omega) hf hn (bin_name q) (d := ca + cb + 3) (R := some (.tup [encT (.mk (if q then sTo else sPair) [.mk sy ly, .mk sz lz]), .bool true], Gb)) fun n hn => by
       obtain ⟨m', hm'⟩ : ∃ p, n = Nat.succ (Nat.succ (Nat.succ p)) := ⟨n - 3, by omega⟩
       have s1 := stepA n (Nat.succ (Nat.succ m')) (by omega)
       have s2 := (r20 (n := n) (q := Nat.succ m') (s1 := []) (s2 := Nd.name (.bin q x1 x2)) (us := [encT (.mk sy ly)]) (t := 0) hx2 (by simp) (by simp) (by simp) eb (by omega)).2
       have s3 := (end20 (G := Gb) (f := f) (mp := mp) (lf := lf) (n := n) (q := m') (l := [.wp x1 0, .wp x2 0]) (s1 := []) (s2 := Nd.name (.bin q x1 x2)) (us := [encT (.mk sy ly), encT (.mk sz lz)]) (i := ((2 : Nat) : Int))).2
       rw [← hm'] at s1
       exact s1.trans (s2.trans s3)
      refine ⟨c + 1, _, true, _, EvW.mk e, .inr ⟨rfl, by simp only [FT.size]; omega, by simp only [tell, hya, hyb], ?_, ?_⟩⟩
      ·simp only [tell, FT.size]
       rw [show v + 1 - (a.size + b.size + 1) = v - a.size - b.size by omega]
       exact tb
      ·simp only [tell, FT.size]; omega
end
end Go.Proofs.Cw.Si
end

/-
  SIMPLE, specs 16: the type of a node whose parts have types.
-/
section
namespace Go.Proofs.Cw.Si
open Go.Proofs
theorem encT_eta (t : Ty) : encT t = .agg [.str t.name, .slc (encTs t.parts)] := by cases t; rfl
theorem lkT0 (y : Ty) (d : Tree) : Tree.toStr (List.headD (Tree.cs (encT y)) d) = y.name := by rw [encT_eta]; rfl
theorem lkT1 (y : Ty) (d : Tree) : Tree.elems (List.headD (List.tail (Tree.cs (encT y))) d) = encTs y.parts := by rw [encT_eta]; rfl
theorem s78 (a b : Ty) : Ev E 1 78 [encT a, encT b] (encT (tTo a b)) :=
 Ev.mk fun n _ => by rw [encT_eta a, encT_eta b, e78]; simp only [tTo, encT, encTs, encT_eta a, encT_eta b, sTo]
theorem s41 : Ev E 1 41 [] (encT tNat) := Ev.mk fun n _ => by rw [e41]; rfl
def outR (r : Option Ty) (j : Ty) : Tree :=
 match r with
 | some u => .tup [encT u, .bool true]
 | none => .tup [encT j, .bool false]
theorem tlen1 {l : List Ty} (h : (l.length : Int) = 1) : ∃ x, l = [x] := by
 rcases l with _ | ⟨x, _ | ⟨a, l⟩⟩
 ·simp at h
 ·exact ⟨x, rfl⟩
 ·simp at h; omega
theorem tlen2 {l : List Ty} (h : (l.length : Int) = 2) : ∃ x y, l = [x, y] := by
 rcases l with _ | ⟨x, _ | ⟨a, _ | ⟨b, l⟩⟩⟩
 ·simp at h
 ·simp at h
 ·exact ⟨x, a, rfl⟩
 ·simp at h; omega
theorem tlen3 {l : List Ty} (h : (l.length : Int) = 3) : ∃ x y z, l = [x, y, z] := by
 rcases l with _ | ⟨x, _ | ⟨a, _ | ⟨b, _ | ⟨c, l⟩⟩⟩⟩
 ·simp at h
 ·simp at h
 ·simp at h
 ·exact ⟨x, a, b, rfl⟩
 ·simp at h; omega
theorem formed_two {y : Ty} (h : formed y = true) (hn : y.name = sTo ∨ y.name = sPair) : ∃ a b, y.parts = [a, b] ∧ formed a = true ∧ formed b = true := by
 cases y with
 | mk s l =>
 simp only [Ty.name] at hn
 have hne : s ≠ sNat := by rcases hn with rfl | rfl <;> decide
 unfold formed at h
 rw [if_neg hne, if_pos hn] at h
 simp only [Bool.and_eq_true, beq_iff_eq] at h
 obtain ⟨a, b, rfl⟩ := tlen2 (by omega : (l.length : Int) = 2)
 simp only [formedTs, Bool.and_eq_true] at h
 exact ⟨a, b, rfl, h.2.1, h.2.2.1⟩
theorem nthE (ctx : List Ty) (k : Nat) : nth (encTs ctx) k = (ctx[k]?).map encT := by rw [encTs_map, nth_map, nth_eq]
theorem fromEnd_some {ctx : List Ty} {n : Int} (h0 : 0 ≤ n) (h : n < ctx.length) : ∃ u, ctx[(ctx.length - 1 - n.toNat)]? = some u ∧ fromEnd ctx n = some u := by
 have hk : ctx.length - 1 - n.toNat < ctx.length := by omega
 refine ⟨ctx[ctx.length - 1 - n.toNat], List.getElem?_eq_getElem hk, ?_⟩
 unfold fromEnd
 rw [if_pos ⟨h0, h⟩, List.getElem?_eq_getElem hk]
theorem eqT_dec (a b : Ty) : eqT a b = decide (a = b) := by
 cases h : eqT a b with
 | true => rw [(eqT_iff a b).1 h]; simp
 | false =>
  have : ¬ a = b := fun e => by rw [(eqT_iff a b).2 e] at h; cases h
  simp [this]
def TsOk (ts : List Ty) : Prop := ∀ x, x ∈ ts → formed x = true ∧ sizeT x ≤ 10000000
theorem s60 (ctx : List Ty) (o m : Int) (t : Ty) (l : List Lam) (ts : List Ty) (hc : ctx.length ≤ 1000000) (hlen : (ts.length : Int) = partsN o) (hm : 0 ≤ m ∧ m ≤ 1000000) (hts : TsOk ts) :
  ∃ c j, Ev E c 60 [.slc (encTs ctx), encL (.mk o m t l), .slc (encTs ts)] (outR (ruleT ctx o m t ts) j) := by
 have start : ∀ n r, evQ E n 60 [.slc (encTs ctx), .agg [I o, I m, .str t.name, .slc (encTs t.parts), .slc (encLs l)], .slc (encTs ts)] = r → evQ E n 60 [.slc (encTs ctx), encL (.mk o m t l), .slc (encTs ts)] = r := fun n r h => by rw [encL_eta (.mk o m t l)]; exact h
 by_cases c1 : o = 1
 ·subst c1
  refine ⟨5, tyZero, Ev.mk fun n hn => start n _ ?_⟩
  rw [e60]
  refine step_t rfl ?_
  rw [show ruleT ctx 1 m t ts = fromEnd ctx m from rfl]
  by_cases hlt : m < ctx.length
  ·obtain ⟨u, hu, hf⟩ := fromEnd_some hm.1 hlt
   rw [lenT, hf, w64 (x := (ctx.length : Int) - 1) (by omega), w64 (x := (ctx.length : Int) - 1 - m) (by omega)]
   refine step_t (decide_eq_true hlt) (step_t (decide_eq_true (by omega)) (step_b (y := encT u) ?_ (step_t (okT_sh u) ?_)))
   ·rw [show ((ctx.length : Int) - 1 - m).toNat = ctx.length - 1 - m.toNat by omega, nthE, hu]; rfl
   ·rw [lookT]; rfl
  ·have hf : fromEnd ctx m = none := by unfold fromEnd; rw [if_neg (fun q => hlt q.2)]
   rw [lenT, hf]
   exact step_f (decide_eq_false hlt) rfl
 have d1 : (o == 1) = false := by simp [c1]
 by_cases c2 : o = 2
 ·subst c2
  obtain ⟨b, rfl⟩ := tlen1 hlen
  refine ⟨5, tyZero, Ev.mk fun n hn => start n _ ?_⟩
  have h82 := s78 t b n (by omega)
  rw [encT_eta t] at h82
  rw [e60]
  simp only [encTs]
  refine step_f rfl (step_t rfl (step_b (y := encT b) rfl (step_t (okT_sh b) ?_)))
  rw [lookT]
  refine step_b h82 (step_t (okT_sh _) ?_)
  rw [lookT]
  rfl
 have d2 : (o == 2) = false := by simp [c2]
 by_cases c3 : o = 3
 ·subst c3
  obtain ⟨f, a, rfl⟩ := tlen2 hlen
  have hf := hts f (by simp)
  have ha := hts a (by simp)
  by_cases hn : f.name = sTo
  ·obtain ⟨x, y, hp, _, _⟩ := formed_two hf.1 (.inl hn)
   have hsx : sizeT x ≤ 10000000 := by
    have := hf.2
    cases f with
    | mk s l => simp only [Ty.parts] at hp; subst hp; simp only [sizeT, sizeTs] at this; omega
   have h56 := s79 x a (by omega)
   rw [eqT_dec] at h56
   refine ⟨2 * sizeT x + 10, tyZero, Ev.mk fun n hn2 => start n _ ?_⟩
   rw [e60]
   simp only [encTs]
   refine step_f rfl (step_f rfl (step_t rfl (step_b (y := encT f) rfl (step_t (okT_sh f) ?_))))
   rw [lkT0]
   refine step_t (by rw [hn]; rfl) (step_b (y := encT f) rfl (step_t (okT_sh f) ?_))
   rw [lkT1, hp]
   simp only [encTs]
   refine step_b (y := encT x) rfl (step_t (okT_sh x) (step_b (y := encT a) rfl (step_t (okT_sh a) ?_)))
   rw [lookT, lookT]
   refine step_b (h56 n (by omega)) (step_t rfl ?_)
   rw [show ruleT ctx 3 m t [f, a] = (match f.parts with | [x, y] => if f.name = sTo ∧ x = a then some y else none | _ => none) from rfl, hp]
   simp only
   by_cases hxa : x = a
   ·rw [if_pos ⟨hn, hxa⟩]
    refine step_t (decide_eq_true hxa) (step_b (y := encT f) rfl (step_t (okT_sh f) ?_))
    rw [lkT1, hp]
    simp only [encTs]
    refine step_b (y := encT y) rfl (step_t (okT_sh y) ?_)
    rw [lookT]
    rfl
   ·rw [if_neg (fun q => hxa q.2)]
    exact step_f (decide_eq_false hxa) rfl
  ·have hr : ruleT ctx 3 m t [f, a] = none := by
    show (match f.parts with | [x, y] => if f.name = sTo ∧ x = a then some y else none | _ => none) = none
    split
    ·rw [if_neg (fun q => hn q.1)]
    ·rfl
   refine ⟨10, tyZero, Ev.mk fun n hn2 => start n _ ?_⟩
   rw [e60, hr]
   simp only [encTs]
   refine step_f rfl (step_f rfl (step_t rfl (step_b (y := encT f) rfl (step_t (okT_sh f) ?_))))
   rw [lkT0]
   exact step_f (by simp; exact hn) rfl
 have d3 : (o == 3) = false := by simp [c3]
 by_cases c4 : o = 4
 ·subst c4
  refine ⟨5, tyZero, Ev.mk fun n hn => start n _ ?_⟩
  rw [e60]
  refine step_f rfl (step_f rfl (step_f rfl (step_t rfl (step_b (s41 n (by omega)) (step_t (okT_sh _) ?_)))))
  rw [lookT]
  rfl
 have d4 : (o == 4) = false := by simp [c4]
 by_cases c5 : o = 5
 ·subst c5
  obtain ⟨x, rfl⟩ := tlen1 hlen
  refine ⟨5, tNat, Ev.mk fun n hn => start n _ ?_⟩
  rw [e60]
  simp only [encTs]
  refine step_f rfl (step_f rfl (step_f rfl (step_f rfl (step_t rfl (step_b (s41 n (by omega)) (step_t (okT_sh _) (step_b (y := encT x) rfl (step_t (okT_sh x) ?_))))))))
  rw [lookT, lkT0]
  show some (Tree.tup [encT tNat, .bool (x.name == sNat)]) = some (outR (if x.name = sNat then some tNat else none) tNat)
  by_cases h : x.name = sNat
  ·rw [if_pos h, h]; rfl
  ·rw [if_neg h]
   have : (x.name == sNat) = false := by simp [h]
   rw [this]; rfl
 have d5 : (o == 5) = false := by simp [c5]
 by_cases c6 : o = 6
 ·subst c6
  obtain ⟨x, f, a, rfl⟩ := tlen3 hlen
  have hf := hts f (by simp)
  have h56 := s79 f (tTo a a) (by have := hf.2; omega)
  rw [eqT_dec] at h56
  refine ⟨2 * sizeT f + 10, a, Ev.mk fun n hn => start n _ ?_⟩
  rw [e60]
  simp only [encTs]
  refine step_f rfl (step_f rfl (step_f rfl (step_f rfl (step_f rfl (step_t rfl (step_b (y := encT a) rfl (step_t (okT_sh a) (step_b (y := encT x) rfl (step_t (okT_sh x) ?_)))))))))
  rw [lkT0]
  rw [show ruleT ctx 6 m t [x, f, a] = (if x.name = sNat ∧ f = tTo a a then some a else none) from rfl]
  by_cases h : x.name = sNat
  ·refine step_t (by rw [h]; rfl) (step_b (y := encT f) rfl (step_t (okT_sh f) (step_b (y := encT a) rfl (step_t (okT_sh a) (step_b (y := encT a) rfl (step_t (okT_sh a) ?_))))))
   rw [lookT, lookT]
   refine step_b (s78 a a n (by omega)) (step_t (okT_sh _) ?_)
   rw [lookT]
   refine step_b (h56 n (by omega)) (step_t rfl ?_)
   by_cases h2 : f = tTo a a
   ·rw [if_pos ⟨h, h2⟩]
    simp only [toBool_bool, decide_eq_true h2]
    rfl
   ·rw [if_neg (fun q => h2 q.2)]
    simp only [toBool_bool, decide_eq_false h2]
    rfl
  ·rw [if_neg (fun q => h q.1)]
   refine step_f (by simp; exact h) ?_
   rw [lookT]
   rfl
 have d6 : (o == 6) = false := by simp [c6]
 by_cases c7 : o = 7
 ·subst c7
  obtain ⟨a, b, rfl⟩ := tlen2 hlen
  refine ⟨5, tyZero, Ev.mk fun n hn => start n _ ?_⟩
  rw [e60]
  exact step_f rfl (step_f rfl (step_f rfl (step_f rfl (step_f rfl (step_f rfl (step_t rfl rfl))))))
 have d7 : (o == 7) = false := by simp [c7]
 by_cases c8 : o = 8
 ·subst c8
  obtain ⟨p, rfl⟩ := tlen1 hlen
  have hp := hts p (by simp)
  refine ⟨5, tyZero, Ev.mk fun n hn => start n _ ?_⟩
  rw [e60]
  simp only [encTs]
  refine step_f rfl (step_f rfl (step_f rfl (step_f rfl (step_f rfl (step_f rfl (step_f rfl (step_t rfl (step_b (y := encT p) rfl (step_t (okT_sh p) ?_)))))))))
  rw [lkT0]
  rw [show ruleT ctx 8 m t [p] = (match p.parts with | [a, _] => if p.name = sPair then some a else none | _ => none) from rfl]
  by_cases h : p.name = sPair
  ·obtain ⟨a, b, hab, _, _⟩ := formed_two hp.1 (.inr h)
   refine step_t (by rw [h]; rfl) (step_b (y := encT p) rfl (step_t (okT_sh p) (step_t rfl ?_)))
   rw [lkT1, hab]
   simp only [encTs]
   refine step_b (y := encT a) rfl (step_t (okT_sh a) ?_)
   rw [lookT, if_pos h]
   rfl
  ·refine step_f (by simp; exact h) ?_
   have : (match p.parts with | [a, _] => if p.name = sPair then some a else none | _ => none) = none := by
    split
    ·rw [if_neg h]
    ·rfl
   rw [this]
   rfl
 have d8 : (o == 8) = false := by simp [c8]
 by_cases c9 : o = 9
 ·subst c9
  obtain ⟨p, rfl⟩ := tlen1 hlen
  have hp := hts p (by simp)
  refine ⟨5, tyZero, Ev.mk fun n hn => start n _ ?_⟩
  rw [e60]
  simp only [encTs]
  refine step_f rfl (step_f rfl (step_f rfl (step_f rfl (step_f rfl (step_f rfl (step_f rfl (step_f rfl (step_t rfl (step_b (y := encT p) rfl (step_t (okT_sh p) ?_))))))))))
  rw [lkT0]
  rw [show ruleT ctx 9 m t [p] = (match p.parts with | [_, b] => if p.name = sPair then some b else none | _ => none) from rfl]
  by_cases h : p.name = sPair
  ·obtain ⟨a, b, hab, _, _⟩ := formed_two hp.1 (.inr h)
   refine step_t (by rw [h]; rfl) (step_b (y := encT p) rfl (step_t (okT_sh p) (step_t rfl ?_)))
   rw [lkT1, hab]
   simp only [encTs]
   refine step_b (y := encT b) rfl (step_t (okT_sh b) ?_)
   rw [lookT, if_pos h]
   rfl
  ·refine step_f (by simp; exact h) ?_
   have : (match p.parts with | [_, b] => if p.name = sPair then some b else none | _ => none) = none := by
    split
    ·rw [if_neg h]
    ·rfl
   rw [this]
   rfl
 exfalso
 unfold partsN at hlen
 rw [if_neg (by omega), if_neg (by omega), if_neg (by omega), if_neg (by omega)] at hlen
 omega
end Go.Proofs.Cw.Si
end

/-
  TERMS WITHOUT TYPES 1: erased, closed, plain.
-/
section
namespace Go.Proofs.Cw.Si
open Go.Proofs
mutual
def erL : Lam → Bool
 | .mk _ _ t l => zeroT t && erLs l
def erLs : List Lam → Bool
 | [] => true
 | t :: r => erL t && erLs r
end
mutual
def closL (d : Int) : Lam → Bool
 | .mk o n _ l => if o = 1 then decide (n < d) else closLs (if o = 2 then d + 1 else d) l
def closLs (d : Int) : List Lam → Bool
 | [] => true
 | t :: r => closL d t && closLs d r
end
mutual
def plainL : Lam → Lam
 | .mk o n t l => .mk o n (if o = 2 then tNat else t) (plainLs l)
def plainLs : List Lam → List Lam
 | [] => []
 | t :: r => plainL t :: plainLs r
end
def idxP (p : Lam → Bool) : Int → List Lam → Int
 | _, [] => -1
 | i, x :: r => bif p x then i else idxP p (i + 1) r
theorem idxP_ge (p : Lam → Bool) : ∀ (l : List Lam) (i : Int), 0 ≤ i → (idxP p i l ≥ 0 ↔ l.any p = true)
 | [], i, h => by simp [idxP]
 | x :: r, i, h => by
  simp only [idxP, List.any_cons]
  cases hx : p x with
  | true => simp [h]
  | false => simpa using idxP_ge p r (i + 1) (by omega)
theorem l65p {g c : Nat} {ps cap : List Tree} {p : Lam → Bool} : ∀ (r pre : List Lam) (n q : Nat), (∀ x, x ∈ r → Ev E c g (ps ++ [encL x] ++ cap) (.bool (p x))) → r.length < q → c ≤ n → (pre ++ r).length ≤ 1000000000000 →
  L65_0 n q (encLs (pre ++ r)) g ps cap ((pre ++ r).length : Nat) (pre.length : Nat) = some (I (idxP p pre.length r))
 | [], pre, n, q, h, hq, hn, hb => by
  obtain ⟨q, rfl⟩ : ∃ k, q = k + 1 := ⟨q - 1, by omega⟩
  rw [show q + 1 = Nat.succ q from rfl, l65_0, bif_neg (by simp)]
  rfl
 | x :: r, pre, n, q, h, hq, hn, hb => by
  obtain ⟨q, rfl⟩ : ∃ k, q = k + 1 := ⟨q - 1, by omega⟩
  simp only [List.length_cons] at hq
  have hpl : pre.length < (pre ++ x :: r).length := by simp
  have hx := h x List.mem_cons_self n hn
  rw [show q + 1 = Nat.succ q from rfl, l65_0, bif_pos (by exact decide_eq_true (by omega)), bif_pos (by exact decide_eq_true (by omega)), Int.toNat_natCast, nthL, Option.bind_some, okL_sh, cond_true, lookL, hx]
  simp only [Option.bind_some, ok_bool, cond_true, toBool_bool, idxP]
  cases hx2 : p x with
  | true => simp
  | false =>
   have ih := l65p r (pre ++ [x]) n q (fun y hy => h y (List.mem_cons_of_mem _ hy)) (by omega) (by omega) (by simp at hb ⊢; omega)
   simp only [List.append_assoc, List.singleton_append, List.length_append, List.length_singleton] at ih
   rw [w64 (by simp at hb; omega)]
   simpa using ih
theorem s37 {g c : Nat} {ps cap : List Tree} {p : Lam → Bool} (l : List Lam) (h : ∀ x, x ∈ l → Ev E c g (ps ++ [encL x] ++ cap) (.bool (p x))) (hc : l.length < c) (hl : l.length ≤ 1000000000000) : Ev E (c + 2) 37 [.slc (encLs l), .fn g ps cap] (.bool (l.any p)) := by
 have h65 : Ev E (c + 1) 65 [.slc (encLs l), .fn g ps cap] (I (idxP p 0 l)) := Ev.mk fun n hn => by
  rw [e65, lenL]
  have := l65p (p := p) l [] n n h (by omega) hn (by simpa using hl)
  simpa using this
 refine Ev.mk fun n hn => ?_
 rw [e37]
 refine step_b (h65 n hn) (step_t rfl ?_)
 have := idxP_ge p l 0 (by omega)
 show some (Tree.bool (decide (idxP p 0 l ≥ 0))) = _
 cases hs : l.any p with
 | true => rw [decide_eq_true (this.2 hs)]
 | false => rw [decide_eq_false fun q => by rw [this, hs] at q; cases q]
theorem erLs_any : ∀ l : List Lam, erLs l = !(l.any fun x => !erL x)
 | [] => rfl
 | x :: r => by simp only [erLs, List.any_cons, erLs_any r]; cases erL x <;> simp
theorem closLs_any (d : Int) : ∀ l : List Lam, closLs d l = !(l.any fun x => !closL d x)
 | [] => rfl
 | x :: r => by simp only [closLs, List.any_cons, closLs_any d r]; cases closL d x <;> simp
theorem wLs_mem {l : List Lam} {t : Lam} (h : t ∈ l) : wL t ≤ wLs l := by
 induction l with
 | nil => cases h
 | cons x r ih =>
  simp only [wLs]
  rcases List.mem_cons.1 h with rfl | h
  ·omega
  ·have := ih h; omega
theorem s15 : ∀ t : Lam, wL t ≤ 500000000000 → Ev E (8 * wL t) 15 [encL t] (.bool (erL t))
 | .mk o m (.mk s u) l, h => by
  have hw := wL_pos (.mk o m (.mk s u) l)
  obtain ⟨c, hc⟩ : ∃ c, 8 * wL (.mk o m (.mk s u) l) = c + 1 := ⟨8 * wL (.mk o m (.mk s u) l) - 1, by omega⟩
  rw [hc]
  have hl := len_wLs l
  unfold wL at h hc
  have h38 : ∀ x, x ∈ l → Ev E (8 * wLs l + 1) 38 ([] ++ [encL x] ++ []) (.bool (!erL x)) := fun x hx => by
   have hxl := wLs_mem hx
   have : wL x < wL (Lam.mk o m (.mk s u) l) := by
    rw [wL]; omega
   have ih := s15 x (by omega)
   refine Ev.mono (c := 8 * wL x + 1) (Ev.mk fun n hn => ?_) (by omega)
   have ih := ih n hn
   rw [encL_eta] at ih
   simp only [List.nil_append, List.append_nil]
   rw [encL_eta, e38]
   exact step_b ih (step_t rfl rfl)
  have h37 := s37 l h38 (by omega) (by omega)
  refine Ev.mk fun n hn => ?_
  have h36 := s36 (.mk s u) n (by omega)
  rw [encT] at h36
  rw [encL, e15]
  refine step_b h36 (step_t rfl ?_)
  show (bif zeroT (.mk s u) then _ else _) = _
  unfold erL
  cases zeroT (.mk s u) with
  | false => rfl
  | true =>
   rw [erLs_any]
   exact step_b (h37 n (by omega)) (step_t rfl rfl)
termination_by t => wL t
theorem s18 : ∀ (t : Lam) (d : Nat), wL t ≤ 500000000000 → d + wL t ≤ 1000000000000 → Ev E (8 * wL t) 18 [encL t, I (d : Nat)] (.bool (closL d t))
 | .mk o m (.mk s u) l, d, h, hd => by
  have hw := wL_pos (.mk o m (.mk s u) l)
  obtain ⟨c, hc⟩ : ∃ c, 8 * wL (.mk o m (.mk s u) l) = c + 1 := ⟨8 * wL (.mk o m (.mk s u) l) - 1, by omega⟩
  rw [hc]
  have hl := len_wLs l
  unfold wL at h hc hd
  have h42 : ∀ (d : Nat), d + wLs l ≤ 1000000000000 → ∀ x, x ∈ l → Ev E (8 * wLs l + 1) 42 ([] ++ [encL x] ++ [Tree.ptr (I (d : Nat)) 0]) (.bool (!closL d x)) := fun d hd x hx => by
   have hxl := wLs_mem hx
   have : wL x < wL (Lam.mk o m (.mk s u) l) := by
    rw [wL]; omega
   have ih := s18 x d (by omega) (by omega)
   refine Ev.mono (c := 8 * wL x + 1) (Ev.mk fun n hn => ?_) (by omega)
   have ih := ih n hn
   rw [encL_eta] at ih
   simp only [List.nil_append, List.cons_append]
   rw [encL_eta, e42]
   exact step_b ih (step_t rfl rfl)
  refine Ev.mk fun n hn => ?_
  rw [encL, e18]
  unfold closL
  by_cases c1 : o = 1
  ·rw [if_pos c1]
   exact step_t (by simp [c1]) rfl
  ·rw [if_neg c1]
   refine step_f (by simp [c1]) ?_
   rw [closLs_any]
   by_cases c2 : o = 2
   ·rw [if_pos c2]
    refine step_t (by simp [c2]) ?_
    have e : IntKind.wrap .i64 (((d : Nat) : Int) + 1) = ((d + 1 : Nat) : Int) := by rw [w64 (by omega)]; omega
    have h37 := s37 l (h42 (d + 1) (by have := sizeT_pos (.mk s u); omega)) (by omega) (by omega)
    rw [e]
    exact step_b (h37 n (by omega)) (step_t rfl rfl)
   ·rw [if_neg c2]
    refine step_f (by simp [c2]) ?_
    have h37 := s37 l (h42 d (by omega)) (by omega) (by omega)
    exact step_b (h37 n (by omega)) (step_t rfl rfl)
termination_by t => wL t
mutual
theorem s17 : ∀ t : Lam, wL t ≤ 500000000000 → Ev E (2 * wL t + 4) 17 [encL t] (encL (plainL t))
 | .mk o m (.mk s u) l, h => Ev.mk fun n hn => by
  have hl := len_wLs l
  unfold wL at h hn
  have hL := l17 l [] n n o m (by omega) (by omega) (by omega) (by simp; omega)
  simp only [List.nil_append, List.length_nil] at hL
  rw [show ((0 : Nat) : Int) = 0 from rfl] at hL
  rw [encL, e17]
  unfold plainL
  by_cases c : o = 2
  ·rw [if_pos c, tNat, encL]
   refine step_t (by simp [c]) (step_b (s41 n (by omega)) (step_t rfl (step_t (firstL l) (step_t (by rw [lenL, Nat.ble_eq]; omega) ?_))))
   rw [lenL]
   exact hL _ _ _ _ _
  ·rw [if_neg c, encL]
   refine step_f (by simp [c]) (step_t (firstL l) (step_t (by rw [lenL, Nat.ble_eq]; omega) ?_))
   rw [lenL]
   exact hL _ _ _ _ _
theorem l17 : ∀ (r pre : List Lam) (n q : Nat) (o m : Int), r.length < q → 2 * wLs r + 4 ≤ n → wLs r ≤ 500000000000 → (pre ++ r).length ≤ 1000000000000 →
  ∀ (s : List UInt8) (u : List Tree) (j1 j2 : Int) (j3 : List UInt8),
  L17_0 n q ((pre ++ r).length : Nat) (pre.length : Nat) o m s u (encLs (pre ++ r)) j1 j2 j3 = some (.agg [I o, I m, .str s, .slc u, .slc (encLs (pre ++ plainLs r))])
 | [], pre, n, q, o, m, hq, hn, hs, hb => fun s u j1 j2 j3 => by
  obtain ⟨q, rfl⟩ : ∃ k, q = k + 1 := ⟨q - 1, by omega⟩
  rw [show q + 1 = Nat.succ q from rfl, l17_0, bif_neg (by simp)]
  simp [plainLs]
 | x :: r, pre, n, q, o, m, hq, hn, hs, hb => fun s u j1 j2 j3 => by
  obtain ⟨q, rfl⟩ : ∃ k, q = k + 1 := ⟨q - 1, by omega⟩
  simp only [List.length_cons] at hq
  have hx := wL_pos x
  simp only [wLs] at hn hs
  have hpl : pre.length < (pre ++ x :: r).length := by simp
  have hc : (decide ((0 : Int) ≤ (pre.length : Nat)) && (decide (((pre.length : Nat) : Int) < ((encLs (pre ++ x :: r)).length : Nat)) && true)) = true := by
   rw [lenL, decide_eq_true (by omega), decide_eq_true (by omega)]; rfl
  rw [show q + 1 = Nat.succ q from rfl, l17_0, bif_pos (by exact decide_eq_true (by omega)), bif_pos hc, Int.toNat_natCast, nthL, Option.bind_some, okL_sh, cond_true, lookL, s17 x (by omega) n (by omega), Option.bind_some, okL_sh, cond_true, bif_pos hc, Option.bind_some, okL_sh, cond_true, lookL]
  have ih := l17 r (pre ++ [plainL x]) n q o m (by omega) (by omega) (by omega) (by simp at hb ⊢; omega) s u j1 j2 j3
  simp only [List.append_assoc, List.singleton_append, List.length_append, List.length_singleton] at ih
  have hset : setN (encLs (pre ++ x :: r)) pre.length (encL (plainL x)) = encLs (pre ++ plainL x :: r) := by
   have := setN_app (encL x) (encL (plainL x)) (encLs r) (encLs pre)
   rw [lenL] at this
   simpa [encLs_map] using this
  rw [hset, w64 (by simp at hb; omega)]
  simpa [plainLs] using ih
end
end Go.Proofs.Cw.Si
end

/-
  TERMS WITHOUT TYPES 2: the reference's erased, closed, dressed; what Infer is given.
-/
section
namespace Go.Proofs.Cw.Si
open Go.Proofs
mutual
def dressL : Lam → Lam
 | .mk o n _ l => .mk o n (if o = 2 then tNat else tyZero) (dressLs l)
def dressLs : List Lam → List Lam
 | [] => []
 | t :: r => dressL t :: dressLs r
end
end Go.Proofs.Cw.Si
end

/-
  SIMPLE, the plain part: types found are well formed and not too large.
-/
section
namespace Go.Proofs.Cw.Si
open Go.Proofs
def CtxOk (ctx : List Ty) : Prop := ∀ x, x ∈ ctx → formed x = true ∧ sizeT x ≤ 60
theorem sizeTs_mem {ts : List Ty} {x : Ty} (h : x ∈ ts) : sizeT x ≤ sizeTs ts := by
 induction ts with
 | nil => cases h
 | cons a r ih =>
  simp only [sizeTs]
  rcases List.mem_cons.1 h with rfl | h
  ·omega
  ·have := ih h; omega
theorem formed_to {a b : Ty} (ha : formed a = true) (hb : formed b = true) : formed (tTo a b) = true := by
 unfold tTo formed
 rw [if_neg (by decide), if_pos (.inl rfl)]
 simp [formedTs, ha, hb]
theorem formed_pair {a b : Ty} (ha : formed a = true) (hb : formed b = true) : formed (tPair a b) = true := by
 unfold tPair formed
 rw [if_neg (by decide), if_pos (.inr rfl)]
 simp [formedTs, ha, hb]
theorem fromEnd_mem {ctx : List Ty} {n : Int} {u : Ty} (h : fromEnd ctx n = some u) : u ∈ ctx := by
 unfold fromEnd at h
 split at h
 ·exact List.mem_of_getElem? h
 ·cases h
theorem sizeT_two {y a b : Ty} (h : y.parts = [a, b]) : sizeT y = 1 + (sizeT a + sizeT b) := by
 cases y with
 | mk s l => simp only [Ty.parts] at h; subst h; simp only [sizeT, sizeTs]; omega
theorem ruleT_ok {ctx : List Ty} {o n : Int} {t : Ty} {ts : List Ty} {u : Ty} (hr : ruleT ctx o n t ts = some u) (hc : CtxOk ctx) (ht : o = 2 → formed t = true ∧ sizeT t ≤ 60) (hts : ∀ x, x ∈ ts → formed x = true) :
  formed u = true ∧ sizeT u ≤ 61 + sizeTs ts := by
 unfold ruleT at hr
 split at hr
 ·have := hc u (fromEnd_mem hr)
  exact ⟨this.1, by omega⟩
 split at hr
 ·rename_i h2
  have ht := ht h2
  unfold rt2 at hr
  split at hr
  ·rename_i b
   cases hr
   exact ⟨formed_to ht.1 (hts b (by simp)), by simp only [tTo, sizeT, sizeTs]; omega⟩
  ·cases hr
 split at hr
 ·unfold rt3 at hr
  split at hr
  ·rename_i f a
   split at hr
   ·rename_i x y hp
    split at hr
    ·rename_i q
     cases hr
     obtain ⟨x', y', hp', hx, hy⟩ := formed_two (hts f (by simp)) (.inl q.1)
     rw [hp] at hp'
     cases hp'
     have := sizeT_two hp
     exact ⟨hy, by simp only [sizeTs]; omega⟩
    ·cases hr
   ·cases hr
  ·cases hr
 split at hr
 ·cases hr
  exact ⟨rfl, by simp [tNat, sizeT, sizeTs]; omega⟩
 split at hr
 ·unfold rt5 at hr
  split at hr
  ·split at hr
   ·cases hr; exact ⟨rfl, by simp [tNat, sizeT, sizeTs]; omega⟩
   ·cases hr
  ·cases hr
 split at hr
 ·unfold rt6 at hr
  split at hr
  ·split at hr
   ·cases hr; exact ⟨hts u (by simp), by simp only [sizeTs]; omega⟩
   ·cases hr
  ·cases hr
 split at hr
 ·unfold rt7 at hr
  split at hr
  ·rename_i a b
   cases hr
   exact ⟨formed_pair (hts a (by simp)) (hts b (by simp)), by simp only [tPair, sizeT, sizeTs]; omega⟩
  ·cases hr
 split at hr
 ·unfold rt8 at hr
  split at hr
  ·rename_i p
   split at hr
   ·rename_i a b hp
    split at hr
    ·rename_i q
     cases hr
     obtain ⟨x', y', hp', hx, hy⟩ := formed_two (hts p (by simp)) (.inr q)
     rw [hp] at hp'
     cases hp'
     have := sizeT_two hp
     exact ⟨hx, by simp only [sizeTs]; omega⟩
    ·cases hr
   ·cases hr
  ·cases hr
 split at hr
 ·unfold rt9 at hr
  split at hr
  ·rename_i p
   split at hr
   ·rename_i a b hp
    split at hr
    ·rename_i q
     cases hr
     obtain ⟨x', y', hp', hx, hy⟩ := formed_two (hts p (by simp)) (.inr q)
     rw [hp] at hp'
     cases hp'
     have := sizeT_two hp
     exact ⟨hy, by simp only [sizeTs]; omega⟩
    ·cases hr
   ·cases hr
  ·cases hr
 ·cases hr
structure Sh1 (o n : Int) (t : Ty) (l : List Lam) : Prop where
 len : (l.length : Int) = partsN o
 lo : 0 ≤ n
 hi : n ≤ topN o
 lam : o = 2 → formed t = true ∧ sizeT t ≤ 60
 zero : o ≠ 2 → t = tyZero
 parts : shapeds l = true
theorem zeroT_eq {t : Ty} (h : zeroT t = true) : t = tyZero := by
 cases t with
 | mk s l =>
 unfold zeroT at h
 simp only [Bool.and_eq_true, Ty.name, Ty.parts, List.isEmpty_iff] at h
 rw [h.1, h.2]; rfl
theorem shaped_eq {o n : Int} {t : Ty} {l : List Lam} (h : shaped (.mk o n t l) = true) : Sh1 o n t l := by
 unfold shaped at h
 simp only [Bool.and_eq_true, beq_iff_eq, decide_eq_true_eq] at h
 obtain ⟨⟨⟨⟨h1, h2⟩, h3⟩, h4⟩, h5⟩ := h
 refine ⟨h1, h2, h3, fun e => ?_, fun e => ?_, h5⟩
 ·rw [if_pos e] at h4
  unfold validT at h4
  simp only [Bool.and_eq_true, decide_eq_true_eq] at h4
  exact ⟨h4.2, h4.1.1⟩
 ·rw [if_neg e] at h4
  exact zeroT_eq h4
theorem CtxOk.push {ctx : List Ty} {t : Ty} (h : CtxOk ctx) (ht : formed t = true ∧ sizeT t ≤ 60) : CtxOk (ctx ++ [t]) := by
 intro x hx
 rcases List.mem_append.1 hx with hx | hx
 ·exact h x hx
 ·simp at hx; subst hx; exact ht
mutual
theorem typed_ok : ∀ (t : Lam) (ctx : List Ty) {u : Ty}, shaped t = true → CtxOk ctx → typed ctx t = .inl u → formed u = true ∧ sizeT u ≤ 61 * sizeL t
 | .mk o n t l, ctx, u, hs, hc, h => by
  have q := shaped_eq hs
  unfold typed at h
  split at h
  ·cases h
  ·rename_i ts hts
   have hc' : CtxOk (if o = 2 then ctx ++ [t] else ctx) := by
    split
    ·rename_i e; exact hc.push (q.lam e)
    ·exact hc
   obtain ⟨k1, k2, k3⟩ := typeds_ok l _ 0 q.parts hc' hts
   split at h
   ·rename_i u' hr
    cases h
    obtain ⟨r1, r2⟩ := ruleT_ok hr hc q.lam k1
    exact ⟨r1, by rw [sizeL_mk]; omega⟩
   ·cases h
theorem typeds_ok : ∀ (l : List Lam) (ctx : List Ty) (i : Nat) {us : List Ty}, shapeds l = true → CtxOk ctx → typeds ctx i l = .inl us → (∀ x, x ∈ us → formed x = true) ∧ sizeTs us ≤ 61 * sizeLs l ∧ us.length = l.length
 | [], ctx, i, us, hs, hc, h => by
  unfold typeds at h
  cases h
  exact ⟨fun x hx => (by cases hx), by simp [sizeTs], rfl⟩
 | x :: r, ctx, i, us, hs, hc, h => by
  unfold shapeds at hs
  simp only [Bool.and_eq_true] at hs
  unfold typeds at h
  split at h
  ·cases h
  ·rename_i u hu
   obtain ⟨a1, a2⟩ := typed_ok x ctx hs.1 hc hu
   split at h
   ·cases h
   ·rename_i us' hus
    cases h
    obtain ⟨b1, b2, b3⟩ := typeds_ok r ctx (i + 1) hs.2 hc hus
    refine ⟨fun y hy => ?_, by simp only [sizeTs, sizeLs]; omega, by simp [b3]⟩
    rcases List.mem_cons.1 hy with rfl | hy
    ·exact a1
    ·exact b1 y hy
end
mutual
theorem typed_path : ∀ (t : Lam) (ctx : List Ty) {p : List Nat}, typed ctx t = .inr p → p.length ≤ sizeL t
 | .mk o n t l, ctx, p, h => by
  unfold typed at h
  rw [sizeL_mk]
  split at h
  ·rename_i p' hp
   cases h
   have := typeds_path l _ 0 hp
   omega
  ·split at h
   ·cases h
   ·cases h; simp
theorem typeds_path : ∀ (l : List Lam) (ctx : List Ty) (i : Nat) {p : List Nat}, typeds ctx i l = .inr p → p.length ≤ sizeLs l + 1
 | [], ctx, i, p, h => by unfold typeds at h; cases h
 | x :: r, ctx, i, p, h => by
  unfold typeds at h
  unfold sizeLs
  split at h
  ·rename_i p' hp
   cases h
   have := typed_path x ctx hp
   simp; omega
  ·split at h
   ·rename_i p' hp
    cases h
    have := typeds_path r ctx (i + 1) hp
    omega
   ·cases h
end
end Go.Proofs.Cw.Si
end

/-
  TERMS WITHOUT TYPES 3: what Infer is given; what it is to say.
-/
section
namespace Go.Proofs.Cw.Si
open Go.Proofs
mutual
theorem plain_dress : ∀ t : Lam, erL t = true → plainL t = dressL t
 | .mk o n t l, h => by
  unfold erL at h
  simp only [Bool.and_eq_true] at h
  unfold plainL dressL
  rw [plains_dress l h.2, zeroT_eq h.1]
theorem plains_dress : ∀ l : List Lam, erLs l = true → plainLs l = dressLs l
 | [], _ => rfl
 | t :: r, h => by
  unfold erLs at h
  simp only [Bool.and_eq_true] at h
  unfold plainLs dressLs
  rw [plain_dress t h.1, plains_dress r h.2]
end
theorem dressLs_len : ∀ l : List Lam, (dressLs l).length = l.length
 | [] => rfl
 | _ :: r => by simp [dressLs, dressLs_len r]
mutual
theorem wL_dress : ∀ t : Lam, wL (dressL t) ≤ wL t
 | .mk o n t l => by
  have h1 := wLs_dress l
  have h2 := sizeT_pos t
  unfold dressL wL
  have : sizeT (if o = 2 then tNat else tyZero) = 1 := by split <;> rfl
  omega
theorem wLs_dress : ∀ l : List Lam, wLs (dressLs l) ≤ wLs l
 | [] => Nat.le_refl _
 | t :: r => by
  have h1 := wL_dress t
  have h2 := wLs_dress r
  unfold dressLs wLs
  omega
end
mutual
theorem sizeL_dress : ∀ t : Lam, sizeL (dressL t) = sizeL t
 | .mk o n t l => by unfold dressL sizeL; rw [sizeLs_dress l]
theorem sizeLs_dress : ∀ l : List Lam, sizeLs (dressLs l) = sizeLs l
 | [] => rfl
 | t :: r => by unfold dressLs sizeLs; rw [sizeL_dress t, sizeLs_dress r]
end
mutual
theorem esh_of : ∀ (t : Lam) (d : Nat), shaped (dressL t) = true → closL d t = true → esh d t
 | .mk o n t l, d, h, hc => by
  unfold dressL at h
  have q := shaped_eq h
  have hl : (l.length : Int) = partsN o := by rw [← dressLs_len l]; exact q.len
  unfold closL at hc
  unfold esh
  by_cases c : o = 1
  ·subst c
   have e : l = [] := List.length_eq_zero_iff.1 (by have : partsN 1 = 0 := rfl; omega)
   subst e
   rw [if_pos rfl] at hc
   exact ⟨hl, fun _ => ⟨q.lo, of_decide_eq_true hc⟩, trivial⟩
  ·rw [if_neg c] at hc
   refine ⟨hl, fun x => absurd x c, ?_⟩
   by_cases c2 : o = 2
   ·rw [if_pos c2] at hc ⊢
    exact eshs_of l (d + 1) q.parts (by rw [show (((d + 1 : Nat)) : Int) = (d : Int) + 1 by omega]; exact hc)
   ·rw [if_neg c2] at hc ⊢
    exact eshs_of l d q.parts hc
theorem eshs_of : ∀ (l : List Lam) (d : Nat), shapeds (dressLs l) = true → closLs d l = true → eshs d l
 | [], _, _, _ => trivial
 | t :: r, d, h, hc => by
  unfold dressLs shapeds at h
  unfold closLs at hc
  simp only [Bool.and_eq_true] at h hc
  exact ⟨esh_of t d h.1 hc.1, eshs_of r d h.2 hc.2⟩
end
def inOk (t : Lam) : Bool := erL t && (validL (dressL t) && closL 0 t)
theorem inOk_iff {t : Lam} (h : inOk t = true) : esh 0 t ∧ sizeL t ≤ 300 := by
 unfold inOk validL at h
 simp only [Bool.and_eq_true, decide_eq_true_eq] at h
 exact ⟨esh_of t 0 h.2.1.2 h.2.2, by rw [← sizeL_dress t]; exact h.2.1.1.1⟩
def Most (t : Lam) : Option FT → Prop
 | none => ∀ τ, ¬ Has [] t τ
 | some τ => ∀ σ, Has [] t σ ↔ ∃ ρ, σ = τ.sub ρ
def outI : Option FT → Ty × Int
 | none => (tyZero, 250)
 | some τ => if τ.size ≤ 200 then ((tell nmI τ []).1, 0) else (tyZero, 2)
theorem Most.same {t : Lam} {r s : Option FT} (h : Most t r) (k : Most t s) : outI r = outI s := by
 cases r with
 | none =>
  cases s with
  | none => rfl
  | some τ => exact absurd ((k (τ.sub .var)).2 ⟨_, rfl⟩) (h _)
 | some σ =>
  cases s with
  | none => exact absurd ((h (σ.sub .var)).2 ⟨_, rfl⟩) (k _)
  | some τ =>
   have a := (h (σ.sub .var)).2 ⟨_, rfl⟩
   have b := (k (τ.sub .var)).2 ⟨_, rfl⟩
   rw [FT.sub_var] at a b
   obtain ⟨ρ, e1⟩ := (k σ).1 a
   obtain ⟨η, e2⟩ := (h τ).1 b
   obtain ⟨q1, q2⟩ := tell_same nmI e1.symm e2.symm
   simp only [outI, q1, q2]
end Go.Proofs.Cw.Si
end

/-
  THE INFERER'S WORLD 16: Infer.
-/
section
namespace Go.Proofs.Cw.Si
open Go.Proofs
def noN : NT := fun _ => none
theorem Wok.first : Wok [.map [], .cells [I 0, .wm 0]] 1 0 noN 0 [] where
 hf := rfl
 hm := rfl
 hN i nd h := by cases h
 le i k h := by cases h
 tot i nd h := by cases h
 tg k j h := by cases h
 src k j h := by cases h
 kid i p a b h := by cases h
 nx := by omega
theorem most_of {f m : Nat} {t : Lam} {G G' : World'} {i : Nat} {N' : NT} {next' : Nat} {es' : Bd} {τ : FT} (h : Infd f m noN 0 [] [] [t] G G' [i] N' next' es') (hr : Res N' es' i τ) : Most t (some τ) := by
 intro σ
 constructor
 ·intro ht
  obtain ⟨θ', _, s, v⟩ := h.full .var [] [σ] (fun k j hk => by cases hk) .nil (.cons ht .nil)
  exact ⟨θ', v.one_of.det (hr.val s)⟩
 ·rintro ⟨ρ, rfl⟩
  obtain ⟨θ, s, _, hv⟩ := Sol.of h.w.tot h.w.tg h.w.src ρ
  obtain ⟨_, k⟩ := h.sound θ s
  obtain ⟨τs, v, hl⟩ := k [] .nil
  obtain ⟨τ', rfl, ht⟩ := hl.one
  rw [v.one_of.det (hv i τ hr)] at ht
  exact ht
theorem most_no {t : Lam} (h : Non noN [] [] [t]) : Most t none := fun τ ht => h .var [] [τ] (fun k j hk => by cases hk) .nil (.cons ht .nil)
theorem s6_no {t : Lam} (ht : wL t ≤ 500000000000) (h : inOk t = false) : ∃ c, EvW E c 6 [encL t] [] (.tup [encT tyZero, I 4]) [] := by
 refine ⟨8 * wL t + 6 + 1, EvW.mk fun n hn => ?_⟩
 have hw := wL_dress t
 have h15 := s15 t ht n (by omega)
 have h17 := s17 t ht n (by omega)
 have h18 := s18 t 0 ht (by omega) n (by omega)
 rw [encL_eta] at h15 h17 h18 ⊢
 rw [w6]
 refine step_b h15 (step_t rfl ?_)
 unfold inOk at h
 cases he : erL t with
 | false => exact step_t rfl rfl
 | true =>
  rw [he, Bool.true_and] at h
  have h16 := s16 (dressL t) (by omega) n (by omega)
  rw [plain_dress t he] at h17
  rw [encL_eta] at h16 h17
  refine step_f rfl (step_b h17 (step_t rfl (step_b h16 (step_t rfl ?_))))
  cases hv : validL (dressL t) with
  | false => exact step_t rfl rfl
  | true =>
   rw [hv, Bool.true_and] at h
   refine step_f rfl (step_b h18 (step_t rfl ?_))
   show (bif !closL ((0 : Nat) : Int) t then _ else _) = _
   rw [show closL ((0 : Nat) : Int) t = false from h]
   rfl
theorem s6 {t : Lam} (ht : wL t ≤ 500000000000) (h : inOk t = true) : ∃ r, Most t r ∧ ∃ c G', EvW E c 6 [encL t] [] (.tup [encT (outI r).1, I (outI r).2]) G' := by
 obtain ⟨hsh, hsz⟩ := inOk_iff h
 obtain ⟨c, v, u, G1, e, hc⟩ := s19 (f := 1) (m := 0) (by omega) t [] hsh (by simp; omega) (by omega) _ _ _ _ Wok.first (fun i hi => by simp at hi) (by omega)
 have hw := wL_dress t
 unfold inOk at h
 simp only [Bool.and_eq_true] at h
 have step : ∀ n, 8 * wL t + 6 ≤ n → ∀ R, Option.bind (evW (Tab.env tab) n 19 [.wp 1 0, .slc [], encL t] [.map [], .cells [I 0, .wm 0]]) (fun y =>
   bif Sh.ok (Sh.tup [Sh.any, Sh.bool]) (Prod.fst y) then
    bif !Tree.toBool (List.headD (List.tail (Tree.tupl (Prod.fst y))) (Tree.bool false)) then
     some (Tree.tup [Tree.agg [Tree.str [], Tree.slc []], Tree.int IntKind.i64 250], Prod.snd y)
    else
     Option.bind (wset (Prod.snd y ++ [WObj.cells [Tree.int IntKind.i64 0]]) (List.length (Prod.snd y)) 0 [Tree.int IntKind.i64 200])
      fun y_1 =>
      Option.bind
       (evW (Tab.env tab) n 20
        [Tree.wp 1 0, List.headD (Tree.tupl (Prod.fst y)) (Tree.bool false),
         Tree.wm (List.length y_1), Tree.wp (List.length (Prod.snd y)) 0]
        (y_1 ++ [WObj.map []]))
       fun y =>
       bif Sh.ok (Sh.tup [Sh.agg [Sh.str, Sh.slc], Sh.bool]) (Prod.fst y) then
        bif !Tree.toBool (List.headD (List.tail (Tree.tupl (Prod.fst y))) (Tree.bool false)) then
         some (Tree.tup [Tree.agg [Tree.str [], Tree.slc []], Tree.int IntKind.i64 2], Prod.snd y)
        else
         some
          (Tree.tup
            [Tree.agg
              [Tree.str
                (Tree.toStr (List.headD (Tree.cs (List.headD (Tree.tupl (Prod.fst y)) (Tree.bool false))) (Tree.bool false))),
               Tree.slc
                (Tree.elems
                 (List.headD (List.tail (Tree.cs (List.headD (Tree.tupl (Prod.fst y)) (Tree.bool false))))
                  (Tree.bool false)))],
             Tree.int IntKind.i64 0],
           Prod.snd y)
       else none
   else none) = R → evWQ (Tab.env tab) n 6 [encL t] [] = R := by
  intro n hn R hR
  have h15 := s15 t ht n (by omega)
  have h17 := s17 t ht n (by omega)
  have h18 := s18 t 0 ht (by omega) n (by omega)
  have h16 := s16 (dressL t) (by omega) n (by omega)
  rw [plain_dress t h.1] at h17
  rw [h.1] at h15
  rw [show closL ((0 : Nat) : Int) t = true from h.2.2] at h18
  rw [h.2.1] at h16
  rw [encL_eta] at h15 h17 h18 h16 hR ⊢
  rw [encL_eta (dressL t)] at h17
  rw [w6]
  exact step_b h15 (step_t rfl (step_f rfl (step_b h17 (step_t rfl (step_b h16 (step_t rfl (step_f rfl (step_b h18 (step_t rfl (step_f rfl hR))))))))))
 rcases hc with ⟨rfl, hu, no⟩ | ⟨rfl, i, N', next', es', rfl, a⟩
 ·refine ⟨none, most_no no, c + (8 * wL t + 6) + 1, G1, EvW.mk fun n hn => step n (by omega) _ ?_⟩
  exact step_b (e n (by omega)) (step_t (by simp [Sh.ok, Sh.oks, hu]) (step_t rfl rfl))
 ·obtain ⟨nd, hnd⟩ := a.kn i (by simp)
  obtain ⟨τ, hr⟩ := a.w.tot i nd hnd
  refine ⟨some τ, most_of a hr, ?_⟩
  have hlen := a.w.new
  have hset : wset (G1 ++ [WObj.cells [I 0]]) G1.length 0 [I 200] = some (G1 ++ [WObj.cells [I 200]]) := by
   unfold wset
   simp only [nth_app_new]
   show some (setN (G1 ++ [WObj.cells [I 0]]) G1.length (.cells [I 200])) = _
   rw [setN_app]
  have w2 := (a.w.app [WObj.cells [I 200]]).app [WObj.map []]
  have hl2 : (G1 ++ [WObj.cells [I 200]]).length = G1.length + 1 := by simp
  have hnew := (a.w.app [WObj.cells [I 200]]).new
  have ts : Tst (G1 ++ [WObj.cells [I 200]] ++ [WObj.map []]) 1 0 N' next' es' (G1 ++ [WObj.cells [I 200]]).length G1.length [] 200 :=
   ⟨w2, nth_app_new _ _, nth_app_left _ (nth_app_new _ _)⟩
  obtain ⟨c2, y, u, G3, e2, ho⟩ := s20 hnew.2.1 hnew.2.2 hnew.1 hlen.2.1 hlen.2.2 hlen.1 (by omega) τ (p := 0) ts hr (by simp)
  refine ⟨c + c2 + (8 * wL t + 6) + 1, G3, EvW.mk fun n hn => step n (by omega) _ ?_⟩
  refine step_b (e n (by omega)) (step_t rfl (step_f rfl (step_b hset (step_b (e2 n (by omega)) ?_))))
  cases y with
  | mk sy ly =>
  rcases ho with ⟨rfl, hs⟩ | ⟨rfl, hs, hy, _, _⟩
  ·refine step_t rfl (step_t rfl ?_)
   simp only [outI]
   rw [if_neg (by omega)]
   rfl
  ·refine step_t rfl (step_f rfl ?_)
   simp only [outI]
   rw [if_pos hs, ← hy]
   rfl
mutual
theorem noWT : ∀ t : Ty, noW (encT t) = true
 | .mk s l => by
  unfold encT
  simp only [noW, noWs, noWTs l]; rfl
theorem noWTs : ∀ l : List Ty, noWs (encTs l) = true
 | [] => rfl
 | t :: r => by
  unfold encTs
  simp only [noWs, noWT t, noWTs r]; rfl
end
mutual
theorem noWL : ∀ t : Lam, noW (encL t) = true
 | .mk o n (.mk s u) l => by
  unfold encL
  simp only [noW, noWs, noWTs u, noWLs l]; rfl
theorem noWLs : ∀ l : List Lam, noWs (encLs l) = true
 | [] => rfl
 | t :: r => by
  unfold encLs
  simp only [noWs, noWL t, noWLs r]; rfl
end
def InferSays (t : Lam) (r : Ty × Int) : Prop := (inOk t = false ∧ r = (tyZero, 4)) ∨ (inOk t = true ∧ ∃ o, Most t o ∧ r = outI o)
theorem InferSays.same {t : Lam} {r s : Ty × Int} (h : InferSays t r) (k : InferSays t s) : r = s := by
 rcases h with ⟨h1, h2⟩ | ⟨h1, o, h2, h3⟩
 ·rcases k with ⟨k1, k2⟩ | ⟨k1, _⟩
  ·rw [h2, k2]
  ·rw [h1] at k1; cases k1
 ·rcases k with ⟨k1, k2⟩ | ⟨k1, o', k2, k3⟩
  ·rw [h1] at k1; cases k1
  ·rw [h3, k3, h2.same k2]
theorem i6 {t : Lam} (ht : wL t ≤ 500000000000) : ∃ c r, InferSays t r ∧ Ev E c 6 [encL t] (.tup [encT r.1, I r.2]) := by
 have hr : E.root 6 = true := rfl
 have hx : noWs [encL t] = true := by simp only [noWs, noWL]; rfl
 have hy : ∀ r : Ty × Int, noW (.tup [encT r.1, I r.2]) = true := fun r => by simp only [noW, noWs, noWT]; rfl
 cases h : inOk t with
 | false =>
  obtain ⟨c, e⟩ := s6_no ht h
  exact ⟨c, (tyZero, 4), .inl ⟨h, rfl⟩, Ev.root hr hx e (hy (tyZero, 4))⟩
 | true =>
  obtain ⟨o, mo, c, G', e⟩ := s6 ht h
  exact ⟨c, outI o, .inr ⟨h, o, mo, rfl⟩, Ev.root hr hx e (hy (outI o))⟩
end Go.Proofs.Cw.Si
end

/-
  EQUATIONS of the reckoned code: printed by program.
-/
section
set_option maxRecDepth 100000
namespace Go.Proofs.Cw.Si
open Go.Proofs

def L80_0 (n q : Nat) (s6 : Int) (h000 : List UInt8) (h001 : List Tree) (h100 : List UInt8) (h101 : List Tree) : Option Tree := evL eQ n 80 [1, 1, 1, 0, 1, 0] [q]
 ⟨[AV.any, AV.any, AV.href 0 0 0, AV.href 1 0 0, AV.any, AV.any, AV.t (q4 s6)] ++ anyL 44, [HObj.tre q2 [Tree.agg [Tree.str h000, Tree.slc h001]], HObj.tre q2 [Tree.agg
 [Tree.str h100, Tree.slc h101]]]⟩

theorem e80 (n : Nat) (a00 : List UInt8) (a01 : List Tree) (a10 : List UInt8) (a11 : List Tree) : evQ eQ n 80 [Tree.agg [Tree.str a00, Tree.slc a01], Tree.agg [Tree.str
 a10, Tree.slc a11]] = Option.bind (evP eQ n 87 [Tree.str a00, Tree.str a10]) fun y => bif Sh.ok (Sh.int IntKind.i64) y then bif Tree.toInt y != 0 then some (q4
 (Tree.toInt y)) else bif (↑(List.length a01) : Int) != (↑(List.length a11) : Int) then bif decide ((↑(List.length a01) : Int) < (↑(List.length a11) : Int)) then some (q4
 (-1)) else some (q4 1) else L80_0 n n 0 a00 a01 a10 a11 else none := by kernel_rfl

theorem l80_0 (n q : Nat) (s6 : Int) (h000 : List UInt8) (h001 : List Tree) (h100 : List UInt8) (h101 : List Tree) : L80_0 n (Nat.succ q) s6 h000 h001 h100 h101 = bif
 decide (s6 < (↑(List.length h001) : Int)) then bif decide (0 ≤ s6) then Option.bind (nth h001 (Int.toNat s6)) fun y => bif Sh.ok q2 y then bif decide (0 ≤ s6) then
 Option.bind (nth h101 (Int.toNat s6)) fun y_1 => bif Sh.ok q2 y_1 then Option.bind (evP eQ n 80 [Tree.agg [Tree.str (Tree.toStr (List.headD (Tree.cs y) (Tree.bool
 false))), Tree.slc (Tree.elems (List.headD (List.tail (Tree.cs y)) (Tree.bool false)))], Tree.agg [Tree.str (Tree.toStr (List.headD (Tree.cs y_1) (Tree.bool false))),
 Tree.slc (Tree.elems (List.headD (List.tail (Tree.cs y_1)) (Tree.bool false)))]]) fun y => bif Sh.ok (Sh.int IntKind.i64) y then bif Tree.toInt y != 0 then some (q4
 (Tree.toInt y)) else L80_0 n q (IntKind.wrap IntKind.i64 (s6 + 1)) h000 h001 h100 h101 else none else none else none else none else none else some (q4 0) := by kernel_rfl


end Go.Proofs.Cw.Si
end

/-
  SIMPLE, specs 17: the type of a term, the program's.
-/
section
namespace Go.Proofs.Cw.Si
open Go.Proofs
theorem s59r (l : List Ty) : ∀ n, 1 ≤ n → runFn E n 59 [.t (.slc (encTs l))] [] = some (.clip (encTs l), []) := by
 intro n hn
 obtain ⟨n, rfl⟩ : ∃ k, n = k + 1 := ⟨n - 1, by omega⟩
 have e : List.drop 0 (List.take (Int.toNat ((encTs l).length : Nat)) (encTs l)) = encTs l := by
  rw [Int.toNat_natCast, List.take_length]; rfl
 rw [runFn_evR, r59r, e]
 refine step_t (by simp) (step_t (firstT l) rfl)
def outTy (r : Ty ⊕ List Nat) (j : Ty) : Tree :=
 match r with
 | .inl u => .tup [encT u, .slc [], .bool true]
 | .inr p => .tup [encT j, .slc (pathT p), .bool false]
def toSum (r : Option Ty) : Ty ⊕ List Nat :=
 match r with
 | some v => .inl v
 | none => .inr []
theorem tup3Ok (u : Ty) (p : List Tree) (b : Bool) : Sh.ok (Sh.tup [shT, Sh.slc, Sh.bool]) (.tup [encT u, .slc p, .bool b]) = true := by
 simp [okT_sh]
def fin62 (n : Nat) (ctx : List Ty) (o m : Int) (s : List UInt8) (u : List Ty) (l : List Lam) (ts : List Ty) : Option Tree :=
 Option.bind
  (evP (Tab.env tab) n 60 [Tree.slc (encTs ctx), Tree.agg [Tree.int IntKind.i64 o, Tree.int IntKind.i64 m, Tree.str s, Tree.slc (encTs u), Tree.slc (encLs l)], Tree.slc (encTs ts)])
  fun y =>
  bif Sh.ok (Sh.tup [Sh.agg [Sh.str, Sh.slc], Sh.bool]) y then
   some
    (Tree.tup
     [Tree.agg
       [Tree.str (Tree.toStr (List.headD (Tree.cs (List.headD (Tree.tupl y) (Tree.bool false))) (Tree.bool false))),
        Tree.slc (Tree.elems (List.headD (List.tail (Tree.cs (List.headD (Tree.tupl y) (Tree.bool false)))) (Tree.bool false)))],
      Tree.slc [], Tree.bool (Tree.toBool (List.headD (List.tail (Tree.tupl y)) (Tree.bool false)))])
  else none
theorem fin62_eq {n : Nat} {ctx : List Ty} {o m : Int} {s : List UInt8} {u : List Ty} {l : List Lam} {ts : List Ty} {r : Option Ty} {j : Ty}
  (h : evP E n 60 [.slc (encTs ctx), encL (.mk o m (.mk s u) l), .slc (encTs ts)] = some (outR r j)) :
  fin62 n ctx o m s u l ts = some (outTy (toSum r) j) := by
 rw [encL] at h
 unfold fin62
 cases r with
 | some v =>
  refine step_b h (step_t (by simp [outR, okT_sh]) ?_)
  simp only [outR, tupl_tup, List.headD_cons, List.tail_cons, toBool_bool]
  rw [lookT]
  rfl
 | none =>
  refine step_b h (step_t (by simp [outR, okT_sh]) ?_)
  simp only [outR, tupl_tup, List.headD_cons, List.tail_cons, toBool_bool]
  rw [lookT]
  rfl
def outTs (F : List Ty → Option Tree) (us : List Ty) (r : List Ty ⊕ List Nat) : Option Tree :=
 match r with
 | .inl vs => F (us ++ vs)
 | .inr p => some (.tup [encT tyZero, .slc (pathT p), .bool false])
theorem encTs_app (a b : List Ty) : encTs (a ++ b) = encTs a ++ encTs b := by simp [encTs_map]
mutual
theorem s31 : ∀ (t : Lam) (ctx : List Ty), shaped t = true → CtxOk ctx → ctx.length + sizeL t ≤ 1000000 → sizeL t ≤ 100000 →
  ∃ c j, Ev E c 31 [.slc (encTs ctx), encL t] (outTy (typed ctx t) j)
 | .mk o m (.mk s u) l, ctx, hs, hc, hcl, hz => by
  have q := shaped_eq hs
  rw [sizeL_mk] at hcl hz
  have hll := len_sizeLs l
  have htop : m ≤ 1000000 := by
   have := q.hi
   unfold topN at this
   split at this
   ·omega
   ·split at this <;> omega
  -- the last step
  have last : ∀ ts, typeds (if o = 2 then ctx ++ [.mk s u] else ctx) 0 l = .inl ts → ∃ c j, ∀ n, c ≤ n → fin62 n ctx o m s u l ts = some (outTy (toSum (ruleT ctx o m (.mk s u) ts)) j) := by
   intro ts hts
   have hc' : CtxOk (if o = 2 then ctx ++ [.mk s u] else ctx) := by
    split
    ·rename_i e; exact hc.push (q.lam e)
    ·exact hc
   obtain ⟨k1, k2, k3⟩ := typeds_ok l _ 0 q.parts hc' hts
   obtain ⟨c, j, h62⟩ := s60 ctx o m (.mk s u) l ts (by omega) (by rw [k3]; exact q.len) ⟨q.lo, htop⟩ (fun x hx => ⟨k1 x hx, by have := sizeTs_mem hx; omega⟩)
   exact ⟨c, j, fun n hn => fin62_eq (h62 n hn)⟩
  have tail : ∃ c j, ∀ n, c ≤ n → outTs (fin62 n ctx o m s u l) [] (typeds (if o = 2 then ctx ++ [.mk s u] else ctx) 0 l) = some (outTy (typed ctx (.mk o m (.mk s u) l)) j) := by
   unfold typed
   cases hts : typeds (if o = 2 then ctx ++ [.mk s u] else ctx) 0 l with
   | inl ts =>
    obtain ⟨c, j, h⟩ := last ts hts
    refine ⟨c, j, fun n hn => ?_⟩
    simp only [outTs, List.nil_append]
    rw [h n hn]
    cases ruleT ctx o m (.mk s u) ts <;> rfl
   | inr p => exact ⟨0, tyZero, fun n hn => rfl⟩
  obtain ⟨ct, j, tail⟩ := tail
  by_cases c2 : o = 2
  ·obtain ⟨c1, h1⟩ := l31b l ctx (ctx ++ [.mk s u]) q.parts (hc.push (q.lam c2)) (by simp; omega) (by omega)
   refine ⟨c1 + ct + l.length + 5, j, Ev.mk fun n hn => ?_⟩
   have e := h1 n (by omega) n (by omega) [] [] o m s u l (by simp) (by simp; omega) rfl
   have k := tail n (by omega)
   rw [if_pos c2] at k
   have e := Eq.trans e k
   rw [encL, e31, lenL]
   refine step_t (by simp [c2]) (step_b (s59r ctx n (by omega)) (step_t rfl ?_))
   simp only [clipOf]
   refine step_t ?_ ?_
   ·rw [lenT]
    have : Nat.ble ((ctx.length + 1) * 40) 140737488355328 = true := by rw [Nat.ble_eq]; omega
    rw [this, firstT]
    rfl
   ·have e2 : encTs ctx ++ [Tree.agg [Tree.str s, Tree.slc (encTs u)]] = encTs (ctx ++ [.mk s u]) := by rw [encTs_app]; simp [encTs, encT]
    rw [e2]
    exact e
  ·obtain ⟨c1, h1⟩ := l31a l ctx q.parts hc (by omega) (by omega)
   refine ⟨c1 + ct + l.length + 5, j, Ev.mk fun n hn => ?_⟩
   have e := h1 n (by omega) n (by omega) [] [] o m s u l (by simp) (by simp; omega) rfl
   have k := tail n (by omega)
   rw [if_neg c2] at k
   have e := Eq.trans e k
   rw [encL, e31, lenL]
   refine step_f (by simp [c2]) ?_
   exact e
theorem l31a : ∀ (r : List Lam) (ctx : List Ty), shapeds r = true → CtxOk ctx → ctx.length + sizeLs r ≤ 1000000 → sizeLs r ≤ 100000 →
  ∃ c, ∀ n, c ≤ n → ∀ q, r.length < q → ∀ (pre : List Lam) (us : List Ty) (o m : Int) (s : List UInt8) (u : List Ty) (l : List Lam), us.length = pre.length → (pre ++ r).length ≤ 100000 → l = pre ++ r →
  (match us with
   | [] => L31_0 n q (encTs ctx) (encTs ctx) (encLs l) (l.length : Nat) (pre.length : Nat) o m s (encTs u) (encLs l) []
   | _ => L31_0b n q (encTs ctx) (encTs ctx) (encLs l) (l.length : Nat) (pre.length : Nat) o m s (encTs u) (encLs l) [] (encTs us)) = outTs (fin62 n ctx o m s u l) us (typeds ctx pre.length r)
 | [], ctx, hs, hc, hcl, hz => ⟨0, fun n hn q hq pre us o m s u l hu hb hl => by
  obtain ⟨q, rfl⟩ : ∃ k, q = k + 1 := ⟨q - 1, by omega⟩
  have hlen : l.length = pre.length := by rw [hl]; simp
  cases us with
  | nil =>
   simp only [show q + 1 = Nat.succ q from rfl]
   rw [l31_0, bif_neg (by simp [hlen])]
   rfl
  | cons a ac =>
   simp only [show q + 1 = Nat.succ q from rfl]
   rw [l31_0b, bif_neg (by simp [hlen])]
   unfold typeds
   simp only [outTs, List.append_nil]
   rfl⟩
 | x :: r, ctx, hs, hc, hcl, hz => by
  unfold shapeds at hs
  simp only [Bool.and_eq_true] at hs
  simp only [sizeLs] at hcl hz
  obtain ⟨c1, j, h1⟩ := s31 x ctx hs.1 hc (by omega) (by omega)
  obtain ⟨c2, h2⟩ := l31a r ctx hs.2 hc (by omega) (by omega)
  refine ⟨c1 + c2, fun n hn q hq pre us o m s u l hu hb hl => ?_⟩
  obtain ⟨q, rfl⟩ : ∃ k, q = k + 1 := ⟨q - 1, by omega⟩
  simp only [List.length_cons] at hq
  have hpl : pre.length < l.length := by rw [hl]; simp
  have hlb : l.length ≤ 100000 := by rw [hl]; exact hb
  have h1 := h1 n (by omega)
  have hnth : nth (encLs l) pre.length = some (encL x) := by rw [hl]; exact nthL pre x r
  have ih := h2 n (by omega) q (by omega) (pre ++ [x])
  have path : ∀ {p}, typed ctx x = .inr p → p.length ≤ sizeL x := typed_path x ctx
  cases us with
  | nil =>
   simp only [show q + 1 = Nat.succ q from rfl]
   rw [l31_0]
   refine step_t (decide_eq_true (by omega)) (step_t (decide_eq_true (by omega)) (step_b (y := encL x) (by rw [Int.toNat_natCast]; exact hnth) (step_t (okL_sh x) ?_)))
   rw [lookL]
   unfold typeds
   cases ht : typed ctx x with
   | inr p =>
    rw [ht] at h1
    have hp := path ht
    refine step_b h1 (step_t (tup3Ok _ _ _) (step_t rfl ?_))
    simp only [outTy, tupl_tup, List.headD_cons, List.tail_cons, elems_slc]
    refine step_t (pathT_first p) (step_t (by rw [pathT_len]; simp; omega) ?_)
    rfl
   | inl v =>
    rw [ht] at h1
    refine step_b h1 (step_t (tup3Ok _ _ _) (step_f rfl ?_))
    simp only [outTy, tupl_tup, List.headD_cons, List.tail_cons, elems_slc]
    rw [lookT, w64 (by omega)]
    have e := ih [v] o m s u l (by simp only [List.length_append, List.length_singleton, List.length_nil] at hu ⊢; omega) (by simpa using hb) (by simp [hl])
    simp only [encTs, List.length_append, List.length_singleton] at e
    rw [show (((pre.length : Nat) : Int) + 1) = ((pre.length + 1 : Nat) : Int) by omega, e]
    cases typeds ctx (pre.length + 1) r <;> rfl
  | cons a ac =>
   simp only [show q + 1 = Nat.succ q from rfl]
   rw [l31_0b]
   refine step_t (decide_eq_true (by omega)) (step_t (decide_eq_true (by omega)) (step_b (y := encL x) (by rw [Int.toNat_natCast]; exact hnth) (step_t (okL_sh x) ?_)))
   rw [lookL]
   unfold typeds
   cases ht : typed ctx x with
   | inr p =>
    rw [ht] at h1
    have hp := path ht
    refine step_b h1 (step_t (tup3Ok _ _ _) (step_t rfl ?_))
    simp only [outTy, tupl_tup, List.headD_cons, List.tail_cons, elems_slc]
    refine step_t (pathT_first p) (step_t (by rw [pathT_len]; simp; omega) ?_)
    rfl
   | inl v =>
    rw [ht] at h1
    refine step_b h1 (step_t (tup3Ok _ _ _) (step_f rfl ?_))
    simp only [outTy, tupl_tup, List.headD_cons, List.tail_cons, elems_slc]
    rw [lookT, w64 (by omega)]
    have e := ih (a :: ac ++ [v]) o m s u l (by simp at hu ⊢; omega) (by simpa using hb) (by simp [hl])
    have e2 : encTs (a :: ac ++ [v]) = encTs (a :: ac) ++ [encT v] := by rw [encTs_app]; rfl
    simp only [List.length_append, List.length_singleton] at e
    refine step_t ?_ ?_
    ·have : Nat.ble (((encTs (a :: ac)).length + 1) * 40) 140737488355328 = true := by rw [Nat.ble_eq, lenT]; simp at hu ⊢; omega
     rw [this]
     rfl
    ·rw [← e2, show (((pre.length : Nat) : Int) + 1) = ((pre.length + 1 : Nat) : Int) by omega]
     refine Eq.trans e ?_
     cases typeds ctx (pre.length + 1) r with
     | inl vs => simp [outTs]
     | inr p => rfl
theorem l31b : ∀ (r : List Lam) (ctx inn : List Ty), shapeds r = true → CtxOk inn → inn.length + sizeLs r ≤ 1000000 → sizeLs r ≤ 100000 →
  ∃ c, ∀ n, c ≤ n → ∀ q, r.length < q → ∀ (pre : List Lam) (us : List Ty) (o m : Int) (s : List UInt8) (u : List Ty) (l : List Lam), us.length = pre.length → (pre ++ r).length ≤ 100000 → l = pre ++ r →
  (match us with
   | [] => L31_0c n q (encTs ctx) (encLs l) (l.length : Nat) (pre.length : Nat) o m s (encTs u) (encLs l) [] (encTs inn)
   | _ => L31_0x3 n q (encTs ctx) (encLs l) (l.length : Nat) (pre.length : Nat) o m s (encTs u) (encLs l) [] (encTs inn) (encTs us)) = outTs (fin62 n ctx o m s u l) us (typeds inn pre.length r)
 | [], ctx, inn, hs, hc, hcl, hz => ⟨0, fun n hn q hq pre us o m s u l hu hb hl => by
  obtain ⟨q, rfl⟩ : ∃ k, q = k + 1 := ⟨q - 1, by omega⟩
  have hlen : l.length = pre.length := by rw [hl]; simp
  cases us with
  | nil =>
   simp only [show q + 1 = Nat.succ q from rfl]
   rw [l31_0c, bif_neg (by simp [hlen])]
   rfl
  | cons a ac =>
   simp only [show q + 1 = Nat.succ q from rfl]
   rw [l31_0x3, bif_neg (by simp [hlen])]
   unfold typeds
   simp only [outTs, List.append_nil]
   rfl⟩
 | x :: r, ctx, inn, hs, hc, hcl, hz => by
  unfold shapeds at hs
  simp only [Bool.and_eq_true] at hs
  simp only [sizeLs] at hcl hz
  obtain ⟨c1, j, h1⟩ := s31 x inn hs.1 hc (by omega) (by omega)
  obtain ⟨c2, h2⟩ := l31b r ctx inn hs.2 hc (by omega) (by omega)
  refine ⟨c1 + c2, fun n hn q hq pre us o m s u l hu hb hl => ?_⟩
  obtain ⟨q, rfl⟩ : ∃ k, q = k + 1 := ⟨q - 1, by omega⟩
  simp only [List.length_cons] at hq
  have hpl : pre.length < l.length := by rw [hl]; simp
  have hlb : l.length ≤ 100000 := by rw [hl]; exact hb
  have h1 := h1 n (by omega)
  have hnth : nth (encLs l) pre.length = some (encL x) := by rw [hl]; exact nthL pre x r
  have ih := h2 n (by omega) q (by omega) (pre ++ [x])
  have path : ∀ {p}, typed inn x = .inr p → p.length ≤ sizeL x := typed_path x inn
  cases us with
  | nil =>
   simp only [show q + 1 = Nat.succ q from rfl]
   rw [l31_0c]
   refine step_t (decide_eq_true (by omega)) (step_t (decide_eq_true (by omega)) (step_b (y := encL x) (by rw [Int.toNat_natCast]; exact hnth) (step_t (okL_sh x) ?_)))
   rw [lookL]
   unfold typeds
   cases ht : typed inn x with
   | inr p =>
    rw [ht] at h1
    have hp := path ht
    refine step_b h1 (step_t (tup3Ok _ _ _) (step_t rfl ?_))
    simp only [outTy, tupl_tup, List.headD_cons, List.tail_cons, elems_slc]
    refine step_t (pathT_first p) (step_t (by rw [pathT_len]; simp; omega) ?_)
    rfl
   | inl v =>
    rw [ht] at h1
    refine step_b h1 (step_t (tup3Ok _ _ _) (step_f rfl ?_))
    simp only [outTy, tupl_tup, List.headD_cons, List.tail_cons, elems_slc]
    rw [lookT, w64 (by omega)]
    have e := ih [v] o m s u l (by simp only [List.length_append, List.length_singleton, List.length_nil] at hu ⊢; omega) (by simpa using hb) (by simp [hl])
    simp only [encTs, List.length_append, List.length_singleton] at e
    rw [show (((pre.length : Nat) : Int) + 1) = ((pre.length + 1 : Nat) : Int) by omega, e]
    cases typeds inn (pre.length + 1) r <;> rfl
  | cons a ac =>
   simp only [show q + 1 = Nat.succ q from rfl]
   rw [l31_0x3]
   refine step_t (decide_eq_true (by omega)) (step_t (decide_eq_true (by omega)) (step_b (y := encL x) (by rw [Int.toNat_natCast]; exact hnth) (step_t (okL_sh x) ?_)))
   rw [lookL]
   unfold typeds
   cases ht : typed inn x with
   | inr p =>
    rw [ht] at h1
    have hp := path ht
    refine step_b h1 (step_t (tup3Ok _ _ _) (step_t rfl ?_))
    simp only [outTy, tupl_tup, List.headD_cons, List.tail_cons, elems_slc]
    refine step_t (pathT_first p) (step_t (by rw [pathT_len]; simp; omega) ?_)
    rfl
   | inl v =>
    rw [ht] at h1
    refine step_b h1 (step_t (tup3Ok _ _ _) (step_f rfl ?_))
    simp only [outTy, tupl_tup, List.headD_cons, List.tail_cons, elems_slc]
    rw [lookT, w64 (by omega)]
    have e := ih (a :: ac ++ [v]) o m s u l (by simp at hu ⊢; omega) (by simpa using hb) (by simp [hl])
    have e2 : encTs (a :: ac ++ [v]) = encTs (a :: ac) ++ [encT v] := by rw [encTs_app]; rfl
    simp only [List.length_append, List.length_singleton] at e
    refine step_t ?_ ?_
    ·have : Nat.ble (((encTs (a :: ac)).length + 1) * 40) 140737488355328 = true := by rw [Nat.ble_eq, lenT]; simp at hu ⊢; omega
     rw [this]
     rfl
    ·rw [← e2, show (((pre.length : Nat) : Int) + 1) = ((pre.length + 1 : Nat) : Int) by omega]
     refine Eq.trans e ?_
     cases typeds inn (pre.length + 1) r with
     | inl vs => simp [outTs]
     | inr p => rfl
end
end Go.Proofs.Cw.Si
end

/-
  MATCHING 1: types that are the same; names.
-/
section
namespace Go.Proofs.Cw.Si
open Go.Proofs
theorem bytesLess_self : ∀ l : List UInt8, Op.bytesLess l l = false
 | [] => rfl
 | x :: r => by
  unfold Op.bytesLess
  simp [bytesLess_self r]
theorem s87 (s : List UInt8) : Ev E 1 87 [.str s, .str s] (I 0) := Ev.mk fun n _ => by
 rw [e87, bytesLess_self]
 refine step_f rfl (step_f ?_ rfl)
 simp
mutual
theorem s80 : ∀ t : Ty, sizeT t ≤ 1000000 → Ev E (2 * sizeT t + 2) 80 [encT t, encT t] (I 0)
 | .mk s l, h => Ev.mk fun n hn => by
  have hl := len_sizeTs l
  unfold sizeT at h hn
  have hL := l80 l [] n n s (by omega) (by omega) (by omega) (by simp; omega)
  simp only [List.nil_append, List.length_nil] at hL
  rw [show ((0 : Nat) : Int) = 0 from rfl] at hL
  rw [encT, e80]
  exact step_b (s87 s n (by omega)) (step_t rfl (step_f rfl (step_f (by simp) hL)))
theorem l80 : ∀ (r pre : List Ty) (n q : Nat) (s : List UInt8), r.length < q → 2 * sizeTs r + 3 ≤ n → sizeTs r ≤ 1000000 → (pre ++ r).length ≤ 1000000 →
  L80_0 n q (pre.length : Nat) s (encTs (pre ++ r)) s (encTs (pre ++ r)) = some (I 0)
 | [], pre, n, q, s, hq, hn, hs, hb => by
  obtain ⟨q, rfl⟩ : ∃ k, q = k + 1 := ⟨q - 1, by omega⟩
  rw [show q + 1 = Nat.succ q from rfl, l80_0, bif_neg (by rw [lenT]; simp)]
 | x :: r, pre, n, q, s, hq, hn, hs, hb => by
  obtain ⟨q, rfl⟩ : ∃ k, q = k + 1 := ⟨q - 1, by omega⟩
  simp only [List.length_cons] at hq
  have hx := sizeT_pos x
  simp only [sizeTs] at hn hs
  have hpl : pre.length < (pre ++ x :: r).length := by simp
  have hnt : nth (encTs (pre ++ x :: r)) (Int.toNat ((pre.length : Nat) : Int)) = some (encT x) := by rw [Int.toNat_natCast, nthT]
  have hc := s80 x (by omega) n (by omega)
  have ih := l80 r (pre ++ [x]) n q s (by omega) (by omega) (by omega) (by simp at hb ⊢; omega)
  simp only [List.append_assoc, List.singleton_append, List.length_append, List.length_singleton] at ih
  have hw : IntKind.wrap .i64 (((pre.length : Nat) : Int) + 1) = ((pre.length + 1 : Nat) : Int) := by simp at hb; rw [w64 (by omega)]; omega
  rw [show q + 1 = Nat.succ q from rfl, l80_0]
  refine step_t (by rw [lenT]; simp; omega) (step_t (by simp) (step_b hnt (step_t (okT_sh x) (step_t (by simp) (step_b hnt (step_t (okT_sh x) ?_))))))
  rw [lookT x]
  refine step_b hc (step_t rfl (step_f rfl ?_))
  rw [hw]; exact ih
end
end Go.Proofs.Cw.Si
end

/-
  EQUATIONS of the reckoned code: printed by program.
-/
section
set_option maxRecDepth 100000
namespace Go.Proofs.Cw.Si
open Go.Proofs

def L34_0 (n q : Nat) (s9 : Bool) (s10 : Int) (h0 h1 : List Tree) (h200 : List UInt8) (h201 : List Tree) (h300 : List UInt8) (h301 : List Tree) : Option (AV × Heap) :=
 evLH eQ 2 n 34 [1, 1, 1, 1, 0, 1, 0] [q] ⟨[AV.any, AV.any, AV.any, AV.href 2 0 0, AV.href 3 0 0, AV.href 4 0 0, AV.href 5 0 0, AV.any, AV.any, AV.t (Tree.bool s9), AV.t
 (q4 s10)] ++ anyL 71, [HObj.tre Sh.str h0, HObj.tre q2 h1, HObj.tre q2 [Tree.agg [Tree.str h200, Tree.slc h201]], HObj.tre q2 [Tree.agg [Tree.str h300, Tree.slc h301]],
 HObj.mix (Sh.agg [Sh.slc, Sh.slc]) [AV.agg [AV.hsl 0 none, AV.hsl 1 none]], HObj.mix (Sh.agg [Sh.slc, Sh.slc]) [AV.agg [AV.nilS, AV.nilS]]]⟩

def L34_0b (n q : Nat) (s9 : Bool) (s10 : Int) (h200 : List UInt8) (h201 : List Tree) (h300 : List UInt8) (h301 h5 h6 : List Tree) : Option (AV × Heap) := evLH eQ 2 n 34
 [1, 1, 1, 1, 0, 1, 0] [q] ⟨[AV.any, AV.any, AV.any, AV.href 2 0 0, AV.href 3 0 0, AV.href 4 0 0, AV.href 7 0 0, AV.any, AV.any, AV.t (Tree.bool s9), AV.t (q4 s10)] ++
 anyL 71, [HObj.dead, HObj.dead, HObj.tre q2 [Tree.agg [Tree.str h200, Tree.slc h201]], HObj.tre q2 [Tree.agg [Tree.str h300, Tree.slc h301]], HObj.mix (Sh.agg [Sh.slc,
 Sh.slc]) [AV.agg [AV.hsl 5 none, AV.hsl 6 none]], HObj.tre Sh.str h5, HObj.tre q2 h6, HObj.mix (Sh.agg [Sh.slc, Sh.slc]) [AV.agg [AV.nilS, AV.nilS]]]⟩

def L34_0z (n q : Nat) (s9 : Bool) (s10 : Int) (h000 : List UInt8) (h001 : List Tree) (h100 : List UInt8) (h101 : List Tree) : Option (AV × Heap) := evLH eQ 0 n 34 [1, 1,
 1, 1, 0, 1, 0] [q] ⟨[AV.any, AV.any, AV.any, AV.href 0 0 0, AV.href 1 0 0, AV.href 2 0 0, AV.href 3 0 0, AV.any, AV.any, AV.t (Tree.bool s9), AV.t (q4 s10)] ++ anyL 71,
 [HObj.tre q2 [Tree.agg [Tree.str h000, Tree.slc h001]], HObj.tre q2 [Tree.agg [Tree.str h100, Tree.slc h101]], HObj.mix (Sh.agg [Sh.slc, Sh.slc]) [AV.agg [AV.nilS,
 AV.nilS]], HObj.mix (Sh.agg [Sh.slc, Sh.slc]) [AV.agg [AV.nilS, AV.nilS]]]⟩

def L34_0zb (n q : Nat) (s9 : Bool) (s10 : Int) (h000 : List UInt8) (h001 : List Tree) (h100 : List UInt8) (h101 h3 h4 : List Tree) : Option (AV × Heap) := evLH eQ 0 n 34
 [1, 1, 1, 1, 0, 1, 0] [q] ⟨[AV.any, AV.any, AV.any, AV.href 0 0 0, AV.href 1 0 0, AV.href 2 0 0, AV.href 5 0 0, AV.any, AV.any, AV.t (Tree.bool s9), AV.t (q4 s10)] ++
 anyL 71, [HObj.tre q2 [Tree.agg [Tree.str h000, Tree.slc h001]], HObj.tre q2 [Tree.agg [Tree.str h100, Tree.slc h101]], HObj.mix (Sh.agg [Sh.slc, Sh.slc]) [AV.agg [AV.hsl
 3 none, AV.hsl 4 none]], HObj.tre Sh.str h3, HObj.tre q2 h4, HObj.mix (Sh.agg [Sh.slc, Sh.slc]) [AV.agg [AV.nilS, AV.nilS]]]⟩

theorem r34 (n : Nat) (ps : List UInt8) (pl : List Tree) (ts : List UInt8) (tl names tys : List Tree) : evR eQ n 34 [AV.t (Tree.agg [Tree.str ps, Tree.slc pl]), AV.t
 (Tree.agg [Tree.str ts, Tree.slc tl]), AV.agg [AV.hsl 0 none, AV.hsl 1 none]] [HObj.tre Sh.str names, HObj.tre q2 tys] = Option.bind (evP eQ n 62 [Tree.agg [Tree.str ps,
 Tree.slc pl]]) fun y => bif Sh.ok Sh.bool y then bif Tree.toBool y then Option.bind (evP eQ n 63 [Tree.slc names, Tree.str ps]) fun y => bif Sh.ok (Sh.int IntKind.i64) y
 then bif decide (Tree.toInt y ≥ 0) then bif decide (0 ≤ Tree.toInt y) && (decide (Tree.toInt y < (↑(List.length tys) : Int)) && true) then Option.bind (nth tys (Int.toNat
 (Tree.toInt y))) fun y => bif Sh.ok q2 y then Option.bind (evP eQ n 64 [Tree.agg [Tree.str (Tree.toStr (List.headD (Tree.cs y) (Tree.bool false))), Tree.slc (Tree.elems
 (List.headD (List.tail (Tree.cs y)) (Tree.bool false)))], Tree.agg [Tree.str ts, Tree.slc tl]]) fun y => bif Sh.ok Sh.bool y then some (AV.tup [AV.agg [AV.hsl 0 none,
 AV.hsl 1 none], AV.t (Tree.bool (Tree.toBool y))], [HObj.tre Sh.str names, HObj.tre q2 tys, HObj.tre q2 [Tree.agg [Tree.str ps, Tree.slc pl]], HObj.tre q2 [Tree.agg
 [Tree.str ts, Tree.slc tl]], HObj.mix (Sh.agg [Sh.slc, Sh.slc]) [AV.agg [AV.hsl 0 none, AV.hsl 1 none]], HObj.mix (Sh.agg [Sh.slc, Sh.slc]) [AV.agg [AV.hsl 0 none, AV.hsl
 1 none]]]) else none else none else none else bif true && Nat.ble ((List.length names + 1) * 16) 140737488355328 then bif true && Nat.ble ((List.length tys + 1) * 40)
 140737488355328 then some (AV.tup [AV.agg [AV.hsl 7 none, AV.hsl 9 none], AV.t (Tree.bool true)], [HObj.dead, HObj.dead, HObj.tre q2 [Tree.agg [Tree.str ps, Tree.slc
 pl]], HObj.tre q2 [Tree.agg [Tree.str ts, Tree.slc tl]], HObj.mix (Sh.agg [Sh.slc, Sh.slc]) [AV.agg [AV.hsl 0 none, AV.hsl 1 none]], HObj.mix (Sh.agg [Sh.slc, Sh.slc])
 [AV.agg [AV.hsl 7 none, AV.hsl 9 none]], HObj.tre Sh.str [Tree.str ps], HObj.tre Sh.str (names ++ [Tree.str ps]), HObj.tre q2 [Tree.agg [Tree.str ts, Tree.slc tl]],
 HObj.tre q2 (tys ++ [Tree.agg [Tree.str ts, Tree.slc tl]])]) else none else none else none else bif !ps == ts then some (AV.tup [AV.agg [AV.hsl 0 none, AV.hsl 1 none],
 AV.t (Tree.bool false)], [HObj.tre Sh.str names, HObj.tre q2 tys, HObj.tre q2 [Tree.agg [Tree.str ps, Tree.slc pl]], HObj.tre q2 [Tree.agg [Tree.str ts, Tree.slc tl]],
 HObj.mix (Sh.agg [Sh.slc, Sh.slc]) [AV.agg [AV.hsl 0 none, AV.hsl 1 none]], HObj.mix (Sh.agg [Sh.slc, Sh.slc]) [AV.agg [AV.hsl 0 none, AV.hsl 1 none]]]) else bif
 (↑(List.length pl) : Int) != (↑(List.length tl) : Int) then some (AV.tup [AV.agg [AV.hsl 0 none, AV.hsl 1 none], AV.t (Tree.bool false)], [HObj.tre Sh.str names, HObj.tre
 q2 tys, HObj.tre q2 [Tree.agg [Tree.str ps, Tree.slc pl]], HObj.tre q2 [Tree.agg [Tree.str ts, Tree.slc tl]], HObj.mix (Sh.agg [Sh.slc, Sh.slc]) [AV.agg [AV.hsl 0 none,
 AV.hsl 1 none]], HObj.mix (Sh.agg [Sh.slc, Sh.slc]) [AV.agg [AV.hsl 0 none, AV.hsl 1 none]]]) else L34_0 n n true 0 names tys ps pl ts tl else none := by kernel_rfl

theorem m34_0 (n q : Nat) (s9 : Bool) (s10 : Int) (h0 h1 : List Tree) (h200 : List UInt8) (h201 : List Tree) (h300 : List UInt8) (h301 : List Tree) : L34_0 n (Nat.succ q)
 s9 s10 h0 h1 h200 h201 h300 h301 = bif decide (s10 < (↑(List.length h201) : Int)) then bif s9 then bif decide (0 ≤ s10) then Option.bind (nth h201 (Int.toNat s10)) fun y
 => bif Sh.ok q2 y then bif decide (0 ≤ s10) then Option.bind (nth h301 (Int.toNat s10)) fun y_1 => bif Sh.ok q2 y_1 then Option.bind (runFn eQ n 34 [AV.t (Tree.agg
 [Tree.str (Tree.toStr (List.headD (Tree.cs y) (Tree.bool false))), Tree.slc (Tree.elems (List.headD (List.tail (Tree.cs y)) (Tree.bool false)))]), AV.t (Tree.agg
 [Tree.str (Tree.toStr (List.headD (Tree.cs y_1) (Tree.bool false))), Tree.slc (Tree.elems (List.headD (List.tail (Tree.cs y_1)) (Tree.bool false)))]), AV.agg [AV.hsl 0
 none, AV.hsl 1 none]] [HObj.tre Sh.str h0, HObj.tre q2 h1]) fun y => bif bForm Sh.str q2 (Prod.fst y) (Prod.snd y) then L34_0b n q (Tree.toBool (bVal (Prod.fst y)))
 (IntKind.wrap IntKind.i64 (s10 + 1)) h200 h201 h300 h301 (bRow1 (Prod.fst y) (Prod.snd y)) (bRow2 (Prod.fst y) (Prod.snd y)) else bif bNil (Prod.fst y) && false then none
 else none else none else none else none else none else some (AV.tup [AV.agg [AV.hsl 0 none, AV.hsl 1 none], AV.t (Tree.bool s9)], [HObj.tre Sh.str h0, HObj.tre q2 h1,
 HObj.tre q2 [Tree.agg [Tree.str h200, Tree.slc h201]], HObj.tre q2 [Tree.agg [Tree.str h300, Tree.slc h301]], HObj.mix (Sh.agg [Sh.slc, Sh.slc]) [AV.agg [AV.hsl 0 none,
 AV.hsl 1 none]], HObj.mix (Sh.agg [Sh.slc, Sh.slc]) [AV.agg [AV.hsl 0 none, AV.hsl 1 none]]]) else some (AV.tup [AV.agg [AV.hsl 0 none, AV.hsl 1 none], AV.t (Tree.bool
 s9)], [HObj.tre Sh.str h0, HObj.tre q2 h1, HObj.tre q2 [Tree.agg [Tree.str h200, Tree.slc h201]], HObj.tre q2 [Tree.agg [Tree.str h300, Tree.slc h301]], HObj.mix (Sh.agg
 [Sh.slc, Sh.slc]) [AV.agg [AV.hsl 0 none, AV.hsl 1 none]], HObj.mix (Sh.agg [Sh.slc, Sh.slc]) [AV.agg [AV.hsl 0 none, AV.hsl 1 none]]]) := by kernel_rfl

theorem m34_0b (n q : Nat) (s9 : Bool) (s10 : Int) (h200 : List UInt8) (h201 : List Tree) (h300 : List UInt8) (h301 h5 h6 : List Tree) : L34_0b n (Nat.succ q) s9 s10 h200
 h201 h300 h301 h5 h6 = bif decide (s10 < (↑(List.length h201) : Int)) then bif s9 then bif decide (0 ≤ s10) then Option.bind (nth h201 (Int.toNat s10)) fun y => bif Sh.ok
 q2 y then bif decide (0 ≤ s10) then Option.bind (nth h301 (Int.toNat s10)) fun y_1 => bif Sh.ok q2 y_1 then Option.bind (runFn eQ n 34 [AV.t (Tree.agg [Tree.str
 (Tree.toStr (List.headD (Tree.cs y) (Tree.bool false))), Tree.slc (Tree.elems (List.headD (List.tail (Tree.cs y)) (Tree.bool false)))]), AV.t (Tree.agg [Tree.str
 (Tree.toStr (List.headD (Tree.cs y_1) (Tree.bool false))), Tree.slc (Tree.elems (List.headD (List.tail (Tree.cs y_1)) (Tree.bool false)))]), AV.agg [AV.hsl 0 none, AV.hsl
 1 none]] [HObj.tre Sh.str h5, HObj.tre q2 h6]) fun y => bif bForm Sh.str q2 (Prod.fst y) (Prod.snd y) then L34_0b n q (Tree.toBool (bVal (Prod.fst y))) (IntKind.wrap
 IntKind.i64 (s10 + 1)) h200 h201 h300 h301 (bRow1 (Prod.fst y) (Prod.snd y)) (bRow2 (Prod.fst y) (Prod.snd y)) else bif bNil (Prod.fst y) && false then none else none
 else none else none else none else none else some (AV.tup [AV.agg [AV.hsl 5 none, AV.hsl 6 none], AV.t (Tree.bool s9)], [HObj.dead, HObj.dead, HObj.tre q2 [Tree.agg
 [Tree.str h200, Tree.slc h201]], HObj.tre q2 [Tree.agg [Tree.str h300, Tree.slc h301]], HObj.mix (Sh.agg [Sh.slc, Sh.slc]) [AV.agg [AV.hsl 5 none, AV.hsl 6 none]],
 HObj.tre Sh.str h5, HObj.tre q2 h6, HObj.mix (Sh.agg [Sh.slc, Sh.slc]) [AV.agg [AV.hsl 5 none, AV.hsl 6 none]]]) else some (AV.tup [AV.agg [AV.hsl 5 none, AV.hsl 6 none],
 AV.t (Tree.bool s9)], [HObj.dead, HObj.dead, HObj.tre q2 [Tree.agg [Tree.str h200, Tree.slc h201]], HObj.tre q2 [Tree.agg [Tree.str h300, Tree.slc h301]], HObj.mix
 (Sh.agg [Sh.slc, Sh.slc]) [AV.agg [AV.hsl 5 none, AV.hsl 6 none]], HObj.tre Sh.str h5, HObj.tre q2 h6, HObj.mix (Sh.agg [Sh.slc, Sh.slc]) [AV.agg [AV.hsl 5 none, AV.hsl 6
 none]]]) := by kernel_rfl

theorem r34z (n : Nat) (ps : List UInt8) (pl : List Tree) (ts : List UInt8) (tl : List Tree) : evR eQ n 34 [AV.t (Tree.agg [Tree.str ps, Tree.slc pl]), AV.t (Tree.agg
 [Tree.str ts, Tree.slc tl]), AV.agg [AV.nilS, AV.nilS]] [] = Option.bind (evP eQ n 62 [Tree.agg [Tree.str ps, Tree.slc pl]]) fun y => bif Sh.ok Sh.bool y then bif
 Tree.toBool y then Option.bind (evP eQ n 63 [Tree.slc [], Tree.str ps]) fun y => bif Sh.ok (Sh.int IntKind.i64) y then bif decide (Tree.toInt y ≥ 0) then none else some
 (AV.tup [AV.agg [AV.hsl 5 none, AV.hsl 7 none], AV.t (Tree.bool true)], [HObj.tre q2 [Tree.agg [Tree.str ps, Tree.slc pl]], HObj.tre q2 [Tree.agg [Tree.str ts, Tree.slc
 tl]], HObj.mix (Sh.agg [Sh.slc, Sh.slc]) [AV.agg [AV.nilS, AV.nilS]], HObj.mix (Sh.agg [Sh.slc, Sh.slc]) [AV.agg [AV.hsl 5 none, AV.hsl 7 none]], HObj.tre Sh.str
 [Tree.str ps], HObj.tre Sh.str [Tree.str ps], HObj.tre q2 [Tree.agg [Tree.str ts, Tree.slc tl]], HObj.tre q2 [Tree.agg [Tree.str ts, Tree.slc tl]]]) else none else bif
 !ps == ts then some (AV.tup [AV.agg [AV.nilS, AV.nilS], AV.t (Tree.bool false)], [HObj.tre q2 [Tree.agg [Tree.str ps, Tree.slc pl]], HObj.tre q2 [Tree.agg [Tree.str ts,
 Tree.slc tl]], HObj.mix (Sh.agg [Sh.slc, Sh.slc]) [AV.agg [AV.nilS, AV.nilS]], HObj.mix (Sh.agg [Sh.slc, Sh.slc]) [AV.agg [AV.nilS, AV.nilS]]]) else bif (↑(List.length
 pl) : Int) != (↑(List.length tl) : Int) then some (AV.tup [AV.agg [AV.nilS, AV.nilS], AV.t (Tree.bool false)], [HObj.tre q2 [Tree.agg [Tree.str ps, Tree.slc pl]],
 HObj.tre q2 [Tree.agg [Tree.str ts, Tree.slc tl]], HObj.mix (Sh.agg [Sh.slc, Sh.slc]) [AV.agg [AV.nilS, AV.nilS]], HObj.mix (Sh.agg [Sh.slc, Sh.slc]) [AV.agg [AV.nilS,
 AV.nilS]]]) else L34_0z n n true 0 ps pl ts tl else none := by kernel_rfl

theorem m34_0z (n q : Nat) (s9 : Bool) (s10 : Int) (h000 : List UInt8) (h001 : List Tree) (h100 : List UInt8) (h101 : List Tree) : L34_0z n (Nat.succ q) s9 s10 h000 h001
 h100 h101 = bif decide (s10 < (↑(List.length h001) : Int)) then bif s9 then bif decide (0 ≤ s10) then Option.bind (nth h001 (Int.toNat s10)) fun y => bif Sh.ok q2 y then
 bif decide (0 ≤ s10) then Option.bind (nth h101 (Int.toNat s10)) fun y_1 => bif Sh.ok q2 y_1 then Option.bind (runFn eQ n 34 [AV.t (Tree.agg [Tree.str (Tree.toStr
 (List.headD (Tree.cs y) (Tree.bool false))), Tree.slc (Tree.elems (List.headD (List.tail (Tree.cs y)) (Tree.bool false)))]), AV.t (Tree.agg [Tree.str (Tree.toStr
 (List.headD (Tree.cs y_1) (Tree.bool false))), Tree.slc (Tree.elems (List.headD (List.tail (Tree.cs y_1)) (Tree.bool false)))]), AV.agg [AV.nilS, AV.nilS]] []) fun y =>
 bif bForm Sh.str q2 (Prod.fst y) (Prod.snd y) then L34_0zb n q (Tree.toBool (bVal (Prod.fst y))) (IntKind.wrap IntKind.i64 (s10 + 1)) h000 h001 h100 h101 (bRow1 (Prod.fst
 y) (Prod.snd y)) (bRow2 (Prod.fst y) (Prod.snd y)) else bif bNil (Prod.fst y) && true then L34_0z n q (Tree.toBool (bVal (Prod.fst y))) (IntKind.wrap IntKind.i64 (s10 +
 1)) h000 h001 h100 h101 else none else none else none else none else none else some (AV.tup [AV.agg [AV.nilS, AV.nilS], AV.t (Tree.bool s9)], [HObj.tre q2 [Tree.agg
 [Tree.str h000, Tree.slc h001]], HObj.tre q2 [Tree.agg [Tree.str h100, Tree.slc h101]], HObj.mix (Sh.agg [Sh.slc, Sh.slc]) [AV.agg [AV.nilS, AV.nilS]], HObj.mix (Sh.agg
 [Sh.slc, Sh.slc]) [AV.agg [AV.nilS, AV.nilS]]]) else some (AV.tup [AV.agg [AV.nilS, AV.nilS], AV.t (Tree.bool s9)], [HObj.tre q2 [Tree.agg [Tree.str h000, Tree.slc
 h001]], HObj.tre q2 [Tree.agg [Tree.str h100, Tree.slc h101]], HObj.mix (Sh.agg [Sh.slc, Sh.slc]) [AV.agg [AV.nilS, AV.nilS]], HObj.mix (Sh.agg [Sh.slc, Sh.slc]) [AV.agg
 [AV.nilS, AV.nilS]]]) := by kernel_rfl

theorem m34_0zb (n q : Nat) (s9 : Bool) (s10 : Int) (h000 : List UInt8) (h001 : List Tree) (h100 : List UInt8) (h101 h3 h4 : List Tree) : L34_0zb n (Nat.succ q) s9 s10
 h000 h001 h100 h101 h3 h4 = bif decide (s10 < (↑(List.length h001) : Int)) then bif s9 then bif decide (0 ≤ s10) then Option.bind (nth h001 (Int.toNat s10)) fun y => bif
 Sh.ok q2 y then bif decide (0 ≤ s10) then Option.bind (nth h101 (Int.toNat s10)) fun y_1 => bif Sh.ok q2 y_1 then Option.bind (runFn eQ n 34 [AV.t (Tree.agg [Tree.str
 (Tree.toStr (List.headD (Tree.cs y) (Tree.bool false))), Tree.slc (Tree.elems (List.headD (List.tail (Tree.cs y)) (Tree.bool false)))]), AV.t (Tree.agg [Tree.str
 (Tree.toStr (List.headD (Tree.cs y_1) (Tree.bool false))), Tree.slc (Tree.elems (List.headD (List.tail (Tree.cs y_1)) (Tree.bool false)))]), AV.agg [AV.hsl 0 none, AV.hsl
 1 none]] [HObj.tre Sh.str h3, HObj.tre q2 h4]) fun y => bif bForm Sh.str q2 (Prod.fst y) (Prod.snd y) then L34_0zb n q (Tree.toBool (bVal (Prod.fst y))) (IntKind.wrap
 IntKind.i64 (s10 + 1)) h000 h001 h100 h101 (bRow1 (Prod.fst y) (Prod.snd y)) (bRow2 (Prod.fst y) (Prod.snd y)) else bif bNil (Prod.fst y) && false then none else none
 else none else none else none else none else some (AV.tup [AV.agg [AV.hsl 3 none, AV.hsl 4 none], AV.t (Tree.bool s9)], [HObj.tre q2 [Tree.agg [Tree.str h000, Tree.slc
 h001]], HObj.tre q2 [Tree.agg [Tree.str h100, Tree.slc h101]], HObj.mix (Sh.agg [Sh.slc, Sh.slc]) [AV.agg [AV.hsl 3 none, AV.hsl 4 none]], HObj.tre Sh.str h3, HObj.tre q2
 h4, HObj.mix (Sh.agg [Sh.slc, Sh.slc]) [AV.agg [AV.hsl 3 none, AV.hsl 4 none]]]) else some (AV.tup [AV.agg [AV.hsl 3 none, AV.hsl 4 none], AV.t (Tree.bool s9)], [HObj.tre
 q2 [Tree.agg [Tree.str h000, Tree.slc h001]], HObj.tre q2 [Tree.agg [Tree.str h100, Tree.slc h101]], HObj.mix (Sh.agg [Sh.slc, Sh.slc]) [AV.agg [AV.hsl 3 none, AV.hsl 4
 none]], HObj.tre Sh.str h3, HObj.tre q2 h4, HObj.mix (Sh.agg [Sh.slc, Sh.slc]) [AV.agg [AV.hsl 3 none, AV.hsl 4 none]]]) := by kernel_rfl

theorem e12 (n : Nat) (a00 : List UInt8) (a01 : List Tree) (a10 : List UInt8) (a11 : List Tree) : evQ eQ n 12 [Tree.agg [Tree.str a00, Tree.slc a01], Tree.agg [Tree.str
 a10, Tree.slc a11]] = Option.bind (runFn eQ n 34 [AV.t (Tree.agg [Tree.str a00, Tree.slc a01]), AV.t (Tree.agg [Tree.str a10, Tree.slc a11]), AV.agg [AV.nilS, AV.nilS]]
 []) fun y => bif bForm Sh.str q2 (Prod.fst y) (Prod.snd y) then bif !Tree.toBool (bVal (Prod.fst y)) then some (Tree.tup [Tree.slc [], Tree.slc [], Tree.bool false]) else
 some (Tree.tup [Tree.slc (bRow1 (Prod.fst y) (Prod.snd y)), Tree.slc (bRow2 (Prod.fst y) (Prod.snd y)), Tree.bool true]) else bif bNil (Prod.fst y) && true then bif
 !Tree.toBool (bVal (Prod.fst y)) then some (Tree.tup [Tree.slc [], Tree.slc [], Tree.bool false]) else some (Tree.tup [Tree.slc [], Tree.slc [], Tree.bool true]) else
 none := by kernel_rfl


end Go.Proofs.Cw.Si
end
