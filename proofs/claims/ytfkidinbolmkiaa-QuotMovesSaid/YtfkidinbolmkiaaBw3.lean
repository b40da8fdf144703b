/- THE ABSTRACT WALK: a reckoning of the code on trees, and why it is right. -/
import Derived.Test.YtfkidinbolmkiaaBw2
set_option linter.unusedSimpArgs false
set_option linter.unusedVariables false

/-
  THE ABSTRACT WALK, 17: blocks under other numbers.
-/
section
namespace Go.Proofs.Bw

theorem renL_map (ρ : Nat → Option Nat) : ∀ l : List AV, AV.renL ρ l = l.map (AV.ren ρ)
  | [] => rfl
  | x :: r => by simp only [AV.renL, List.map_cons, renL_map ρ r]

theorem AV.isSc_ren (ρ : Nat → Option Nat) {x : AV} (h : x.isSc = true) : (x.ren ρ).isSc = true := by
  cases x <;> simp only [AV.ren] <;> first | exact h | (split <;> rfl) | rfl

theorem map_ren_t (ρ : Nat → Option Nat) (l : List Tree) : (l.map AV.t).map (AV.ren ρ) = l.map .t := by
  rw [List.map_map]; rfl

theorem AV.cells_ren (ρ : Nat → Option Nat) (x : AV) : (x.ren ρ).cells = x.cells.map (AV.ren ρ) := by
  cases x with
  | t y =>
    show (AV.t y).cells = _
    rw [AV.cells_t, map_ren_t]
  | agg cs => simp only [AV.ren, AV.cells, renL_map]
  | href b i j => simp only [AV.ren]; split <;> simp_all [AV.cells, AV.ren]
  | hsl b k => simp only [AV.ren]; split <;> simp_all [AV.cells, AV.ren]
  | hsub b i j => simp only [AV.ren]; split <;> simp_all [AV.cells, AV.ren]
  | _ => rfl

theorem AV.fl_ren (ρ : Nat → Option Nat) {x : AV} (h : x.fl = true) : (x.ren ρ).fl = true := by
  unfold AV.fl at *
  rw [AV.cells_ren]
  rw [List.all_eq_true] at *
  intro y hy
  obtain ⟨z, hz, rfl⟩ := List.mem_map.1 hy
  exact AV.isSc_ren ρ (h z hz)

theorem HObj.ren_facts (ρ : Nat → Option Nat) (o : HObj) : (o.ren ρ).alive = o.alive ∧ (o.ren ρ).mut = o.mut ∧ (o.ren ρ).isFroz = o.isFroz ∧ (o.ren ρ).sh = o.sh ∧ (o.ren ρ).els = o.els.map (AV.ren ρ) := by
  cases o with
  | mix s es => exact ⟨rfl, rfl, rfl, rfl, renL_map ρ es⟩
  | tre s es => exact ⟨rfl, rfl, rfl, rfl, (map_ren_t ρ es).symm⟩
  | froz s es => exact ⟨rfl, rfl, rfl, rfl, (map_ren_t ρ es).symm⟩
  | _ => exact ⟨rfl, rfl, rfl, rfl, rfl⟩

theorem HObj.ren_width (ρ : Nat → Option Nat) (o : HObj) : (o.ren ρ).width = o.width := by unfold HObj.width; rw [(o.ren_facts ρ).2.2.2.1]

structure Ren (φ : Phi) (rd : Rd) (φ1 : Phi) (rd1 : Rd) (ρ : Nat → Option Nat) : Prop where
  obj : ∀ b c, ρ b = some c → rd1 c = (rd b).ren ρ
  phi : ∀ b c, ρ b = some c → φ1 c = φ b

section
variable {φ φ1 : Phi} {rd rd1 : Rd} {w : World} {I : Nat → Prop} {ρ : Nat → Option Nat}

theorem RepA.ren (R : Ren φ rd φ1 rd1 ρ) {x : AV} {v : Value} (h : RepA φ rd w I x v) : RepA φ1 rd1 w I (x.ren ρ) v := by
  induction h with
  | t x v hx => exact .t x v hx
  | any v => exact .any v
  | sc v h => exact .sc v h
  | undef => exact .undef
  | nilS => exact .nilS
  | clip es a hx => exact .clip es a hx
  | hrefD b i j A hd =>
    simp only [AV.ren]
    split
    · rename_i c hc; exact .hrefD c i j A (by rw [R.obj b c hc, hd]; rfl)
    · exact .sc _ rfl
  | hslD b k A n c hd =>
    simp only [AV.ren]
    split
    · rename_i c' hc; exact .hslD c' k A n c (by rw [R.obj b c' hc, hd]; rfl)
    · exact .sc _ rfl
  | hsubD b off len A n c hd =>
    simp only [AV.ren]
    split
    · rename_i c' hc; exact .hsubD c' off len A n c (by rw [R.obj b c' hc, hd]; rfl)
    · exact .sc _ rfl
  | href b i j g C ha hφ =>
    simp only [AV.ren]
    split
    · rename_i c hc
      have e := R.obj b c hc
      rw [← HObj.ren_width ρ (rd b), ← e]
      exact .href c i j g C (by rw [e, (HObj.ren_facts ρ _).1]; exact ha) ((R.phi b c hc).trans hφ)
    · exact .sc _ rfl
  | hsl b k g C c ha hφ h1 h2 hk =>
    simp only [AV.ren]
    split
    · rename_i c' hc
      have e := R.obj b c' hc
      have el : (rd1 c').els.length = (rd b).els.length := by rw [e, (HObj.ren_facts ρ _).2.2.2.2, List.length_map]
      rw [← el]
      exact .hsl c' k g C c (by rw [e, (HObj.ren_facts ρ _).1]; exact ha) ((R.phi b c' hc).trans hφ) (el ▸ h1) h2 hk
    · exact .sc _ rfl
  | hsl0 b k a ha h0 hk =>
    simp only [AV.ren]
    split
    · rename_i c' hc
      have e := R.obj b c' hc
      have el : (rd1 c').els.length = (rd b).els.length := by rw [e, (HObj.ren_facts ρ _).2.2.2.2, List.length_map]
      exact .hsl0 c' k a (by rw [e, (HObj.ren_facts ρ _).1]; exact ha) (el.trans h0) hk
    · exact .sc _ rfl
  | hsub b off len g C c ha hφ h1 h2 =>
    simp only [AV.ren]
    split
    · rename_i c' hc
      have e := R.obj b c' hc
      rw [← HObj.ren_width ρ (rd b), ← e]
      exact .hsub c' off len g C c (by rw [e, (HObj.ren_facts ρ _).1]; exact ha) ((R.phi b c' hc).trans hφ) h1 h2
    · exact .sc _ rfl
  | hsub0 b off a ha =>
    simp only [AV.ren]
    split
    · rename_i c' hc
      exact .hsub0 c' off a (by rw [R.obj b c' hc, (HObj.ren_facts ρ _).1]; exact ha)
    · exact .sc _ rfl
  | agg cs vs hl hf _ ih =>
    simp only [AV.ren, renL_map]
    refine .agg _ vs (by rw [List.length_map]; exact hl) (fun x hx => ?_) fun i x v hx hv => ?_
    · obtain ⟨y, hy, rfl⟩ := List.mem_map.1 hx
      exact AV.isSc_ren ρ (hf y hy)
    · rw [List.getElem?_map] at hx
      cases hq : cs[i]? with
      | none => simp [hq] at hx
      | some y => simp [hq] at hx; subst hx; exact ih i y v hq hv
  | fn f a c va vc h1 h2 _ _ ih1 ih2 =>
    simp only [AV.ren, renL_map]
    refine .fn f _ _ va vc (by rw [List.length_map]; exact h1) (by rw [List.length_map]; exact h2) (fun i x v hx hv => ?_) fun i x v hx hv => ?_
    · rw [List.getElem?_map] at hx
      cases hq : a[i]? with
      | none => simp [hq] at hx
      | some y => simp [hq] at hx; subst hx; exact ih1 i y v hq hv
    · rw [List.getElem?_map] at hx
      cases hq : c[i]? with
      | none => simp [hq] at hx
      | some y => simp [hq] at hx; subst hx; exact ih2 i y v hq hv
  | tup cs vs hl _ ih =>
    simp only [AV.ren, renL_map]
    refine .tup _ vs (by rw [List.length_map]; exact hl) fun i x v hx hv => ?_
    rw [List.getElem?_map] at hx
    cases hq : cs[i]? with
    | none => simp [hq] at hx
    | some y => simp [hq] at hx; subst hx; exact ih i y v hq hv

theorem RepL.ren (R : Ren φ rd φ1 rd1 ρ) {xs : List AV} {vs : List Value} (h : RepL φ rd w I xs vs) : RepL φ1 rd1 w I (AV.renL ρ xs) vs := by
  rw [renL_map]
  refine ⟨by rw [List.length_map]; exact h.1, fun i x v hx hv => ?_⟩
  rw [List.getElem?_map] at hx
  cases hq : xs[i]? with
  | none => simp [hq] at hx
  | some y => simp [hq] at hx; subst hx; exact (h.2 i y v hq hv).ren R

theorem Row.ren (R : Ren φ rd φ1 rd1 ρ) {g C : Nat} {s : Sh} {es : List AV} (h : Row φ rd w I g C s es) : Row φ1 rd1 w I g C s (es.map (AV.ren ρ)) := by
  obtain ⟨arr, T, h1, h2, h3, h4⟩ := h.lies
  refine ⟨arr, T, h1, h2, by rw [List.length_map]; exact h3, fun i x hx => ?_⟩
  rw [List.getElem?_map] at hx
  cases hq : es[i]? with
  | none => simp [hq] at hx
  | some z =>
    simp [hq] at hx; subst hx
    obtain ⟨⟨k1, k2⟩, k3⟩ := h4 i z hq
    refine ⟨⟨by rw [AV.cells_ren, List.length_map]; exact k1, AV.fl_ren ρ k2⟩, fun j y hy => ?_⟩
    rw [AV.cells_ren, List.getElem?_map] at hy
    cases hp : z.cells[j]? with
    | none => simp [hp] at hy
    | some u =>
      simp [hp] at hy; subst hy
      obtain ⟨v, hv, hr⟩ := k3 j u hp
      exact ⟨v, hv, hr.ren R⟩

theorem BlkOk.ren (R : Ren φ rd φ1 rd1 ρ) {b c : Nat} (hc : ρ b = some c) (h : BlkOk φ rd w I b) : BlkOk φ1 rd1 w I c := by
  obtain ⟨f1, f2, f3, f4, f5⟩ := HObj.ren_facts ρ (rd b)
  unfold BlkOk
  rw [R.obj b c hc, R.phi b c hc, f2, f3, f4, f5]
  rcases h with ⟨h0, h1⟩ | ⟨g, C, h1, h2, h3, h4⟩
  · exact .inl ⟨by rw [h0]; rfl, h1⟩
  · exact .inr ⟨g, C, h1, h2, h3, h4.ren R⟩

theorem Sim.ren (sm : Sim φ I rd w) (R : Ren φ rd φ1 rd1 ρ) (sur : ∀ c, (rd1 c).alive = true → ∃ b, ρ b = some c) : Sim φ1 I rd1 w where
  blk c hc := by
    obtain ⟨b, hb⟩ := sur c hc
    rw [R.obj b c hb, (HObj.ren_facts ρ _).1] at hc
    exact BlkOk.ren R hb (show BlkOk φ rd w I b from sm.blk b hc)
  inj c c' g C C' hc hc' hφ hφ' := by
    obtain ⟨b, hb⟩ := sur c (HObj.mut_alive hc)
    obtain ⟨b', hb'⟩ := sur c' (HObj.mut_alive hc')
    rw [R.obj b c hb, (HObj.ren_facts ρ _).2.1] at hc
    rw [R.obj b' c' hb', (HObj.ren_facts ρ _).2.1] at hc'
    rw [R.phi b c hb] at hφ
    rw [R.phi b' c' hb'] at hφ'
    have := sm.inj b b' g C C' hc hc' hφ hφ'
    subst this
    rw [hb] at hb'; cases hb'; rfl
  old := sm.old

theorem Ext.ren {φ0 : Phi} {I0 : Nat → Prop} {rd0 : Rd} {w0 : World} (E : Ext φ0 I0 rd0 w0 φ I rd w) (R : Ren φ rd φ1 rd1 ρ) (hm : ∀ b, rd0 b ≠ .unborn → ρ b = some b) (sur : ∀ c, (rd1 c).alive = true → ∃ b, ρ b = some c) :
    Ext φ0 I0 rd0 w0 φ1 I rd1 w where
  dead b hb := by rw [R.obj b b (hm b (by rw [hb]; intro h; cases h)), E.dead b hb]; rfl
  keep b hb := by
    have hρ := hm b (by intro h; rw [h] at hb; cases hb)
    obtain ⟨f1, _, _, f4, f5⟩ := HObj.ren_facts ρ (rd b)
    rcases E.keep b hb with h | ⟨h1, h2, h3, h4⟩
    · exact .inl (by rw [R.obj b b hρ, h]; rfl)
    · exact .inr ⟨by rw [R.obj b b hρ, f1]; exact h1, (R.phi b b hρ).trans h2, by rw [R.obj b b hρ, f4]; exact h3, by rw [R.obj b b hρ, f5, List.length_map]; exact h4⟩
  sub := E.sub
  inew := E.inew
  mnew c g C hc hφ := by
    obtain ⟨b, hb⟩ := sur c (HObj.mut_alive hc)
    rw [R.obj b c hb, (HObj.ren_facts ρ _).2.1] at hc
    rw [R.phi b c hb] at hφ
    exact E.mnew b g C hc hφ
  frame := E.frame
  size := E.size
  os := E.os
  tape := E.tape
  output := E.output

/-! ### a heap of some blocks -/
theorem idxN_nodup : ∀ {l : List Nat} {i b : Nat}, l.Nodup → l[i]? = some b → idxN l b = some i
  | [], i, b, _, h => by simp at h
  | x :: l, 0, b, _, h => by simp at h; subst h; simp [idxN]
  | x :: l, i + 1, b, hn, h => by
    rw [List.nodup_cons] at hn
    have h' : l[i]? = some b := by simpa using h
    have hne : x ≠ b := fun e => hn.1 (e ▸ List.mem_of_getElem? h')
    simp only [idxN, idxN_nodup hn.2 h']
    cases hb : Nat.beq x b with
    | true => exact absurd (Nat.eq_of_beq_eq_true hb) hne
    | false => rfl

theorem objs_get (rd : Rd) (ρ : Nat → Option Nat) : ∀ (l : List Nat) (i : Nat), (objs rd ρ l)[i]? = (l[i]?).map fun b => (rd b).ren ρ
  | [], i => by simp [objs]
  | b :: l, 0 => by simp [objs]
  | b :: l, i + 1 => by simp [objs, objs_get rd ρ l i]

theorem rdH_objs (rd : Rd) (ρ : Nat → Option Nat) (l : List Nat) (i : Nat) : rdH (objs rd ρ l) i = match l[i]? with | some b => (rd b).ren ρ | none => .unborn := by
  simp only [rdH, nth_eq, objs_get]
  cases l[i]? <;> rfl

def phiOf (φ : Phi) (l : List Nat) : Phi := fun i => (l[i]?).bind φ

theorem ren_objs (φ : Phi) (rd : Rd) {seen : List Nat} (hn : seen.Nodup) :
    Ren φ rd (phiOf φ seen) (rdH (objs rd (idxN seen) seen)) (idxN seen) ∧ ∀ c, (rdH (objs rd (idxN seen) seen) c).alive = true → ∃ b, idxN seen b = some c := by
  refine ⟨⟨fun b c h => ?_, fun b c h => ?_⟩, fun c hc => ?_⟩
  · rw [rdH_objs, idxN_some h]
  · simp only [phiOf, idxN_some h, Option.bind_some]
  · rw [rdH_objs] at hc
    cases hq : seen[c]? with
    | none => rw [hq] at hc; cases hc
    | some b => exact ⟨b, idxN_nodup hn hq⟩

theorem discover_prefix (rd : Rd) : ∀ (n : Nat) (l seen : List Nat), ∃ t, discover rd n l seen = seen ++ t
  | 0, l, seen => ⟨[], by simp [discover]⟩
  | n + 1, [], seen => ⟨[], by simp [discover]⟩
  | n + 1, b :: r, seen => by
    simp only [discover]
    cases memN seen b with
    | true => simp only [cond_true]; exact discover_prefix rd n r seen
    | false =>
      simp only [cond_false]
      split
      · obtain ⟨t, ht⟩ := discover_prefix rd n (AV.refsL _ ++ r) (seen ++ [b])
        exact ⟨b :: t, by rw [ht]; simp⟩
      · obtain ⟨t, ht⟩ := discover_prefix rd n r (seen ++ [b])
        exact ⟨b :: t, by rw [ht]; simp⟩

theorem upTo_length : ∀ n, (upTo n).length = n
  | 0 => rfl
  | n + 1 => by simp [upTo, upTo_length n]

theorem upTo_get : ∀ (n i : Nat), i < n → (upTo n)[i]? = some i
  | 0, i, h => by omega
  | n + 1, i, h => by
    simp only [upTo]
    rcases Nat.lt_or_ge i n with h1 | h1
    · rw [List.getElem?_append_left (by rw [upTo_length]; exact h1)]; exact upTo_get n i h1
    · have : i = n := by omega
      subst this
      rw [List.getElem?_append_right (by rw [upTo_length]; exact Nat.le_refl _), upTo_length]; simp

theorem keepSlots_rep {ts : List AV} {live : List Nat} (R : Ren φ rd φ1 rd1 ρ) : ∀ (xs : List AV) (vs : List Value) (i : Nat), RepL φ rd w I xs vs → RepL φ1 rd1 w I (keepSlots ρ ts live i xs) vs
  | [], [], _, _ => .nil
  | [], v :: vs, _, h => by have := h.1; simp at this
  | x :: xs, [], _, h => by have := h.1; simp at this
  | x :: xs, v :: vs, i, h => by
    simp only [keepSlots]
    refine .cons ?_ (keepSlots_rep R xs vs (i + 1) ⟨by have := h.1; simpa using this, fun j y u hy hu => h.2 (j + 1) y u (by simpa using hy) (by simpa using hu)⟩)
    have hx := h.2 0 x v rfl rfl
    cases memN live i with
    | true => exact hx.ren R
    | false => exact .any v

/-- What a loop's head keeps. -/
theorem norm_sound {α : Type} {m : Nat} {live : List Nat} {st : St} {K : St → Option α} {r : α} {φ0 : Phi} {I0 : Nat → Prop} {rd0 : Rd} {w0 : World} {vs : List Value} {H : Heap} {ts : List AV} (hst : st = ⟨ts, H⟩)
    (h : norm m live st K = some r) (hm : ∀ b, rd0 b ≠ .unborn → b < m) (sm : Sim φ I (rdH H) w) (E : Ext φ0 I0 rd0 w0 φ I (rdH H) w) (hs : RepL φ (rdH H) w I ts vs) :
    ∃ φ' st', K st' = some r ∧ Sim φ' I (rdH st'.H) w ∧ Ext φ0 I0 rd0 w0 φ' I (rdH st'.H) w ∧ RepL φ' (rdH st'.H) w I st'.ts vs := by
  subst hst
  simp only [norm] at h
  obtain ⟨hb, h⟩ := bif_some h
  have hn := nodupN_nodup hb
  obtain ⟨R, sur⟩ := ren_objs φ (rdH H) hn
  refine ⟨_, _, h, sm.ren R sur, E.ren R (fun b hb => idxN_nodup hn ?_) sur, keepSlots_rep R ts vs 0 hs⟩
  obtain ⟨t, ht⟩ := discover_prefix (rdH H) 4096 (refsFirst m H ++ AV.refsL (pick ts live)) (upTo m)
  show (seenFrom m H (pick ts live))[b]? = some b
  unfold seenFrom
  rw [ht, List.getElem?_append_left (by rw [upTo_length]; exact hm b hb)]
  exact upTo_get m b (hm b hb)

end

end Go.Proofs.Bw
end

/-
  THE ABSTRACT WALK, 18: what nothing writes any more is a tree.
-/
section
namespace Go.Proofs.Bw

theorem toTree_sc {ok : Nat → Bool} {rd : Rd} {n : Nat} {v : AV} {x : Tree} (h : toTree ok rd n v = some x) (hs : v.isSc = true) : x.isSc = true := by
  cases n with
  | zero => simp [toTree] at h
  | succ n =>
    cases v <;> simp only [toTree] at h <;> first | (cases h; exact hs) | (cases h; rfl) | cases hs | skip
    all_goals
      repeat' split at h
    all_goals first | (cases h; rfl) | cases h | skip
    all_goals
      first
        | (obtain ⟨_, h⟩ := bif_some h
           repeat' split at h
           all_goals first | (cases h; rfl) | cases h | skip
           all_goals
             (obtain ⟨_, h⟩ := bif_some h
              repeat' split at h
              all_goals first | (cases h; rfl) | cases h))
        | skip

section
variable {φ : Phi} {rd : Rd} {w : World} {I I2 : Nat → Prop} {ok : Nat → Bool}

/-- What a tree's cells have to do with those of what it is made of. -/
def TreeOf (φ : Phi) (rd : Rd) (w : World) (I I2 : Nat → Prop) (e : AV) (x : Tree) : Prop :=
  x.cells.length = e.cells.length ∧ (e.fl = true → x.fl = true) ∧ ∀ (j : Nat) c y v, e.cells[j]? = some c → x.cells[j]? = some y → RepA φ rd w I c v → RepT w I2 y v

theorem TreeOf.self (hI : ∀ g, I g → I2 g) (x : Tree) : TreeOf φ rd w I I2 (.t x) x := by
  refine ⟨by rw [AV.cells_t, List.length_map], fun h => ?_, fun j c y v hc hy hr => ?_⟩
  · unfold AV.fl at h; rw [AV.cells_t, List.all_map] at h; exact h
  · rw [AV.cells_t, List.getElem?_map, hy] at hc
    cases hc
    exact hr.tree.mono hI (fun _ _ _ => rfl)

def RowT (w : World) (I2 : Nat → Prop) (g o : Nat) (k : Nat) (xs : List Tree) : Prop :=
  ∀ (i : Nat) x, xs[i]? = some x → (x.cells.length = k ∧ x.fl = true) ∧ ∀ (j : Nat) y, x.cells[j]? = some y → ∃ v, w.cell? ⟨g, o + i * k + j, none⟩ = some v ∧ RepT w I2 y v

theorem RowAt.trees {g o : Nat} {s : Sh} {es : List AV} {xs : List Tree} (h : RowAt φ rd w I g o s es) (hl : xs.length = es.length) (hx : ∀ (i : Nat) e x, es[i]? = some e → xs[i]? = some x → TreeOf φ rd w I I2 e x) : RowT w I2 g o s.width xs := by
  intro i x hxi
  have hi : i < es.length := by have := (List.getElem?_eq_some_iff.1 hxi).1; omega
  have he : es[i]? = some es[i] := by simp
  obtain ⟨⟨h1, h2⟩, h3⟩ := h i _ he
  obtain ⟨t1, t2, t3⟩ := hx i _ x he hxi
  refine ⟨⟨t1.trans h1, t2 h2⟩, fun j y hy => ?_⟩
  have hj : j < es[i].cells.length := by have := (List.getElem?_eq_some_iff.1 hy).1; omega
  obtain ⟨v, hv, hr⟩ := h3 j _ (List.getElem?_eq_getElem hj)
  exact ⟨v, hv, t3 j _ y v (List.getElem?_eq_getElem hj) hy hr⟩

theorem RowT.slc {g o k : Nat} {xs : List Tree} (h : RowT w I2 g o k xs) (hI : I2 g) {c : Nat} (hc : xs.length ≤ c) : RepT w I2 (.slc xs) (.slice (some ⟨g, o, none⟩) xs.length c) := by
  refine .slc xs g o c k (fun i j => (w.cell? ⟨g, o + i * k + j, none⟩).getD undef) hI hc (fun i x hx => (h i x hx).1.1) (fun x hx => ?_) (fun i j x y hx hy => ?_) (fun i j x y hx hy => ?_)
  · obtain ⟨i, hi, rfl⟩ := List.mem_iff_getElem.1 hx
    exact (h i _ (by simp)).1.2
  · obtain ⟨v, hv, _⟩ := (h i x hx).2 j y hy
    rw [hv]; rfl
  · obtain ⟨v, hv, hr⟩ := (h i x hx).2 j y hy
    rw [hv]; exact hr

theorem RowT.ptr {g o k : Nat} {xs : List Tree} (h : RowT w I2 g o k xs) (hI : I2 g) {i : Nat} {x : Tree} (hx : xs[i]? = some x) (j : Nat) : RepT w I2 (.ptr x j) (.pointer (some ⟨g, o + i * k + j, none⟩)) := by
  refine .ptr x j g (o + i * k) (fun q => (w.cell? ⟨g, o + i * k + q, none⟩).getD undef) hI (h i x hx).1.2 (fun q y hy => ?_) (fun q y hy => ?_)
  · obtain ⟨v, hv, _⟩ := (h i x hx).2 q y hy
    rw [hv]; rfl
  · obtain ⟨v, hv, hr⟩ := (h i x hx).2 q y hy
    rw [hv]; exact hr

theorem toTree_of (hI : ∀ g, I g → I2 g) {n : Nat} (ih : ∀ m, m ≤ n → ∀ v x val, toTree ok rd m v = some x → RepA φ rd w I v val → RepT w I2 x val) {e : AV} {x : Tree} (hf : e.fl = true) (h : toTree ok rd n e = some x) : TreeOf φ rd w I I2 e x := by
  cases n with
  | zero => simp [toTree] at h
  | succ n =>
    have one : e.isSc = true → TreeOf φ rd w I I2 e x := fun hs => by
      have hx := toTree_sc h hs
      refine ⟨by rw [AV.cells_sc hs, Tree.cells_len_sc hx]; rfl, fun _ => by unfold Tree.fl; rw [Tree.cells_len_sc hx]; simp [hx], fun j c y v hc hy hr => ?_⟩
      rw [AV.cells_sc hs] at hc
      rw [Tree.cells_len_sc hx] at hy
      cases j with
      | zero => simp at hc hy; subst hc; subst hy; exact ih (n + 1) (Nat.le_refl _) _ _ _ h hr
      | succ j => simp at hc
    cases e with
    | t y => simp only [toTree] at h; cases h; exact .self hI x
    | agg cs =>
      simp only [toTree] at h
      split at h
      · rename_i l hl
        cases h
        obtain ⟨k1, k2⟩ := mapO_some hl
        refine ⟨k1, fun _ => List.all_eq_true.2 fun y hy => ?_, fun j c y v hc hy hr => ih n (by omega) c y v (k2 j c y hc hy) hr⟩
        obtain ⟨i, hi, rfl⟩ := List.mem_iff_getElem.1 hy
        have hi : i < l.length := hi
        exact toTree_sc (k2 i (cs[i]'(by omega)) _ (by simp) (by simp [Tree.cells])) (List.all_eq_true.1 hf _ (List.getElem_mem _))
      · cases h
    | any => simp [toTree] at h
    | undef => simp [toTree] at h
    | tup l => simp [AV.fl, AV.cells, AV.isSc] at hf
    | _ => exact one rfl

theorem mapO_trees (hI : ∀ g, I g → I2 g) {n : Nat} (ih : ∀ m, m ≤ n → ∀ v x val, toTree ok rd m v = some x → RepA φ rd w I v val → RepT w I2 x val) {g o : Nat} {s : Sh} {es : List AV} {xs : List Tree} (h : RowAt φ rd w I g o s es)
    (hm : mapO (toTree ok rd n) es = some xs) : RowT w I2 g o s.width xs := by
  obtain ⟨k1, k2⟩ := mapO_some hm
  exact h.trees k1 fun i e x he hx => toTree_of hI ih (h i e he).1.2 (k2 i e x he hx)

theorem Sim.slcT (sm : Sim φ I rd w) {b : Nat} {k : Option Nat} {val : Value} {xs : List Tree} (ha : (rd b).alive = true) (hr : RepA φ rd w I (.hsl b k) val) (hl : xs.length = (rd b).els.length)
    (hrow : ∀ g C, φ b = some (g, C) → I2 g ∧ RowT w I2 g 0 (rd b).sh.width xs) : RepT w I2 (.slc xs) val := by
  rcases hr.hsl_inv ha with ⟨g, C, c, hφ, rfl, h1, h2, _⟩ | ⟨A, rfl, h0, _⟩
  · obtain ⟨k1, k2⟩ := hrow g C hφ
    rw [← hl]; exact k2.slc k1 (by omega)
  · have : xs = [] := List.eq_nil_of_length_eq_zero (by omega)
    subst this; exact .slc0 A 0

theorem RowT.part {g k : Nat} {xs : List Tree} (h : RowT w I2 g 0 k xs) (off len : Nat) : RowT w I2 g (off * k) k ((xs.drop off).take len) := by
  intro i x hx
  rw [List.getElem?_take] at hx
  split at hx
  · rw [List.getElem?_drop] at hx
    refine ⟨(h _ x hx).1, fun j y hy => ?_⟩
    have := (h _ x hx).2 j y hy
    rwa [show 0 + (off + i) * k + j = off * k + i * k + j by rw [Nat.add_mul]; omega] at this
  · cases hx

theorem Sim.subT (sm : Sim φ I rd w) {b off len : Nat} {val : Value} {xs : List Tree} (ha : (rd b).alive = true) (hr : RepA φ rd w I (.hsub b off len) val) (hl : xs.length = len)
    (hrow : ∀ g C, φ b = some (g, C) → I2 g ∧ RowT w I2 g (off * (rd b).sh.width) (rd b).sh.width xs) : RepT w I2 (.slc xs) val := by
  rcases hr.hsub_inv ha with ⟨g, C, c, hφ, rfl, h1, h2⟩ | ⟨A, rfl, rfl⟩
  · obtain ⟨k1, k2⟩ := hrow g C hφ
    have := k2.slc k1 (c := c) (by omega)
    rw [hl] at this; exact this
  · have : xs = [] := List.eq_nil_of_length_eq_zero hl
    subst this; exact .slc0 A 0

theorem RowAt.selfT (hI : ∀ g, I g → I2 g) {g o : Nat} {s : Sh} {xs : List Tree} (h : RowAt φ rd w I g o s (xs.map .t)) : RowT w I2 g o s.width xs :=
  h.trees (by rw [List.length_map]) fun i e x he hx => by
    rw [List.getElem?_map, hx] at he
    cases he
    exact .self hI x

theorem toTree_rep (sm : Sim φ I rd w) (hI : ∀ g, I g → I2 g) (hok : ∀ b g C, ok b = true → (rd b).mut = true → φ b = some (g, C) → I2 g) :
    ∀ n m, m ≤ n → ∀ v x val, toTree ok rd m v = some x → RepA φ rd w I v val → RepT w I2 x val := by
  intro n
  induction n with
  | zero =>
    intro m hm v x val h
    have : m = 0 := by omega
    subst this; simp [toTree] at h
  | succ n ih =>
    intro m hm v x val h hr
    rcases Nat.lt_or_ge m (n + 1) with hlt | hge
    · exact ih m (by omega) v x val h hr
    have : m = n + 1 := by omega
    subst this
    have ihn : ∀ m, m ≤ n → ∀ v x val, toTree ok rd m v = some x → RepA φ rd w I v val → RepT w I2 x val := ih
    have frozI : ∀ b g C, (rd b).isFroz = true → φ b = some (g, C) → I2 g := fun b g C hf hφ => by
      rcases sm.blk b (HObj.froz_alive hf) with ⟨_, h0⟩ | ⟨g', C', h1, _, h3, _⟩
      · rw [h0] at hφ; cases hφ
      · rw [h1] at hφ; cases hφ; exact hI _ (h3 hf)
    cases v with
    | t y => simp only [toTree] at h; cases h; exact hr.tree.mono hI (fun _ _ _ => rfl)
    | any => simp [toTree] at h
    | sc => simp [toTree] at h
    | undef => simp [toTree] at h
    | nilS => simp only [toTree] at h; cases h; rw [hr.nilS_inv]; exact .slc0 none 0
    | clip es =>
      simp only [toTree] at h; cases h
      cases hr with
      | clip _ A hT => exact hT.mono hI (fun _ _ _ => rfl)
    | href b i j =>
      simp only [toTree] at h
      obtain ⟨hb, h⟩ := bif_some h
      split at h
      · cases h
      · cases h
      · rename_i s es hrd
        split at h
        · rename_i e he
          split at h
          · rename_i x' hx'
            cases h
            have ha : (rd b).alive = true := by rw [hrd]; rfl
            obtain ⟨g, C, hφ, rfl⟩ := hr.href_inv ha
            have hrow := (sm.row ha hφ).at
            rw [nth_eq] at he
            have hTe := toTree_of hI ihn (hrow i e (by rw [hrd]; exact he)).1.2 hx'
            have hel : (rd b).els = es := by rw [hrd]; rfl
            refine .ptr x' j g (i * (rd b).width) (fun q => (w.cell? ⟨g, i * (rd b).width + q, none⟩).getD undef) (hok b g C hb (by rw [hrd]; rfl) hφ) (hTe.2.1 (hrow i e (by rw [hel]; exact he)).1.2) (fun q y hy => ?_) (fun q y hy => ?_)
            all_goals
              have hq : q < e.cells.length := by have := (List.getElem?_eq_some_iff.1 hy).1; rw [hTe.1] at this; exact this
              obtain ⟨v, hv, hr⟩ := (hrow i e (by rw [hel]; exact he)).2 q _ (List.getElem?_eq_getElem hq)
              rw [Nat.zero_add] at hv
            · rw [show i * (rd b).width = i * (rd b).sh.width from rfl, hv]; rfl
            · rw [show i * (rd b).width = i * (rd b).sh.width from rfl, hv]; exact hTe.2.2 q _ y v (List.getElem?_eq_getElem hq) hy hr
          · cases h
        · cases h
      · rename_i s es hrd
        split at h
        · rename_i e he
          cases h
          have ha : (rd b).alive = true := by rw [hrd]; rfl
          obtain ⟨g, C, hφ, rfl⟩ := hr.href_inv ha
          have hrow := (sm.row ha hφ).at
          have hel : (rd b).els = es.map .t := by rw [hrd]; rfl
          rw [hel] at hrow
          rw [nth_eq] at he
          have := (hrow.selfT hI).ptr (hok b g C hb (by rw [hrd]; rfl) hφ) he j
          rw [Nat.zero_add] at this
          exact this
        · cases h
      · rename_i s es hrd
        split at h
        · rename_i e he
          cases h
          have ha : (rd b).alive = true := by rw [hrd]; rfl
          obtain ⟨g, C, hφ, rfl⟩ := hr.href_inv ha
          have hrow := (sm.row ha hφ).at
          have hel : (rd b).els = es.map .t := by rw [hrd]; rfl
          rw [hel] at hrow
          rw [nth_eq] at he
          have := (hrow.selfT hI).ptr (frozI b g C (by rw [hrd]; rfl) hφ) he j
          rw [Nat.zero_add] at this
          exact this
        · cases h
    | hsl b k =>
      simp only [toTree] at h
      obtain ⟨hb, h⟩ := bif_some h
      split at h
      · cases h
      · cases h
      · rename_i s es hrd
        split at h
        · rename_i l hl
          cases h
          have ha : (rd b).alive = true := by rw [hrd]; rfl
          have hel : (rd b).els = es := by rw [hrd]; rfl
          refine sm.slcT ha hr (by rw [hel]; exact (mapO_some hl).1) fun g C hφ => ⟨hok b g C hb (by rw [hrd]; rfl) hφ, ?_⟩
          have hrow := (sm.row ha hφ).at
          rw [hel] at hrow
          exact mapO_trees hI ihn hrow hl
        · cases h
      · rename_i s es hrd
        cases h
        have ha : (rd b).alive = true := by rw [hrd]; rfl
        have hel : (rd b).els = es.map .t := by rw [hrd]; rfl
        refine sm.slcT ha hr (by rw [hel, List.length_map]) fun g C hφ => ⟨hok b g C hb (by rw [hrd]; rfl) hφ, ?_⟩
        have hrow := (sm.row ha hφ).at
        rw [hel] at hrow
        exact hrow.selfT hI
      · rename_i s es hrd
        cases h
        have ha : (rd b).alive = true := by rw [hrd]; rfl
        have hel : (rd b).els = es.map .t := by rw [hrd]; rfl
        refine sm.slcT ha hr (by rw [hel, List.length_map]) fun g C hφ => ⟨frozI b g C (by rw [hrd]; rfl) hφ, ?_⟩
        have hrow := (sm.row ha hφ).at
        rw [hel] at hrow
        exact hrow.selfT hI
    | hsub b off len =>
      simp only [toTree] at h
      obtain ⟨hb, h⟩ := bif_some h
      split at h
      · cases h
      · cases h
      · rename_i s es hrd
        obtain ⟨hle, h⟩ := bif_some h
        have hle := Nat.le_of_ble_eq_true hle
        split at h
        · rename_i l hl
          cases h
          have ha : (rd b).alive = true := by rw [hrd]; rfl
          have hel : (rd b).els = es := by rw [hrd]; rfl
          refine sm.subT ha hr (by rw [(mapO_some hl).1]; simp; omega) fun g C hφ => ⟨hok b g C hb (by rw [hrd]; rfl) hφ, ?_⟩
          have hrow := (sm.row ha hφ).at.part off len
          rw [hel, Nat.zero_add] at hrow
          exact mapO_trees hI ihn hrow hl
        · cases h
      · rename_i s es hrd
        obtain ⟨hle, h⟩ := bif_some h
        have hle := Nat.le_of_ble_eq_true hle
        cases h
        have ha : (rd b).alive = true := by rw [hrd]; rfl
        have hel : (rd b).els = es.map .t := by rw [hrd]; rfl
        refine sm.subT ha hr (by simp; omega) fun g C hφ => ⟨hok b g C hb (by rw [hrd]; rfl) hφ, ?_⟩
        have hrow := (sm.row ha hφ).at
        rw [hel] at hrow
        exact (hrow.selfT hI).part off len
      · rename_i s es hrd
        obtain ⟨hle, h⟩ := bif_some h
        have hle := Nat.le_of_ble_eq_true hle
        cases h
        have ha : (rd b).alive = true := by rw [hrd]; rfl
        have hel : (rd b).els = es.map .t := by rw [hrd]; rfl
        refine sm.subT ha hr (by simp; omega) fun g C hφ => ⟨frozI b g C (by rw [hrd]; rfl) hφ, ?_⟩
        have hrow := (sm.row ha hφ).at
        rw [hel] at hrow
        exact (hrow.selfT hI).part off len
    | agg cs =>
      simp only [toTree] at h
      split at h
      · rename_i l hl
        cases h
        obtain ⟨k1, k2⟩ := mapO_some hl
        obtain ⟨vs, rfl, hv, hf⟩ := hr.agg_inv
        have h1 : vs.size = cs.length := by simpa using hv.1
        refine .agg l vs (by omega) (fun y hy => ?_) fun i y v hy hv' => ?_
        · obtain ⟨i, hi, rfl⟩ := List.mem_iff_getElem.1 hy
          exact toTree_sc (k2 i (cs[i]'(by omega)) _ (by simp) (by simp)) (hf _ (List.getElem_mem _))
        · have hi : i < cs.length := by have := (List.getElem?_eq_some_iff.1 hy).1; omega
          exact ihn n (Nat.le_refl _) _ y v (k2 i (cs[i]'hi) y (by simp) hy) (hv.2 i _ v (by simp) (by simpa using hv'))
      · cases h
    | fn f a c =>
      simp only [toTree] at h
      split at h
      · rename_i a' ha'
        split at h
        · rename_i c' hc'
          cases h
          obtain ⟨p1, p2⟩ := mapO_some ha'
          obtain ⟨q1, q2⟩ := mapO_some hc'
          cases hr with
          | fn _ _ _ va vc l1 l2 e1 e2 =>
            refine .fn f a' c' va vc (by omega) (by omega) (fun i y v hy hv => ?_) (fun i y v hy hv => ?_)
            · have hi : i < a.length := by have := (List.getElem?_eq_some_iff.1 hy).1; omega
              exact ihn n (Nat.le_refl _) _ y v (p2 i (a[i]'hi) y (by simp) hy) (e1 i _ v (by simp) hv)
            · have hi : i < c.length := by have := (List.getElem?_eq_some_iff.1 hy).1; omega
              exact ihn n (Nat.le_refl _) _ y v (q2 i (c[i]'hi) y (by simp) hy) (e2 i _ v (by simp) hv)
        · cases h
      · cases h
    | tup l =>
      simp only [toTree] at h
      split at h
      · rename_i l' hl
        cases h
        obtain ⟨k1, k2⟩ := mapO_some hl
        cases hr with
        | tup _ vs l1 e1 =>
          refine .tup l' vs (by omega) fun i y v hy hv => ?_
          have hi : i < l.length := by have := (List.getElem?_eq_some_iff.1 hy).1; omega
          exact ihn n (Nat.le_refl _) _ y v (k2 i (l[i]'hi) y (by simp) hy) (e1 i _ v (by simp) hv)
      · cases h

end

end Go.Proofs.Bw
end

/-
  THE ABSTRACT WALK, 19: calls.
-/
section
namespace Go.Proofs.Bw

/-- What was there is there. -/
structure Still (w w' : World) : Prop where
  heap : ∀ g : Nat, g < w.heap.size → w'.heap[g]? = w.heap[g]?
  size : w.heap.size ≤ w'.heap.size
  os : w'.os = w.os
  tape : w'.tape = w.tape
  output : w'.output = w.output

/-- What a call over trees comes to. -/
def Gets (w : World) (I : Nat → Prop) (y : Tree) (e : Ending) (w' : World) : Prop :=
  ∃ v, ∃ I' : Nat → Prop, e = .returned v ∧ RepT w' I' y v ∧ (∀ b, I b → I' b) ∧ (∀ b, I' b → I b ∨ w.heap.size ≤ b) ∧ (∀ b, I' b → b < w'.heap.size) ∧ Still w w'

/-- What a call over a heap comes to. -/
def Comes' (φ : Phi) (I : Nat → Prop) (H : Heap) (w : World) (v : AV) (H' : Heap) (e : Ending) (w' : World) : Prop :=
  ∃ val φ' I', e = .returned val ∧ RepA φ' (rdH H') w' I' v val ∧ Sim φ' I' (rdH H') w' ∧ Ext φ I (rdH H) w φ' I' (rdH H') w'

structure FnsOk (P : Program) (F : Fns) : Prop where
  pf : ∀ g xs y, F.pf g xs = some y → callable P g = true ∧ ∀ (w : World) (I : Nat → Prop) (vals : Array Value), RepTL w I xs vals.toList → (∀ b, I b → b < w.heap.size) → Calls P g vals w (Gets w I y)
  rf : ∀ g args H v H', F.ok g args H = true → F.rf g args H = some (v, H') → callable P g = true ∧ ∀ (φ : Phi) (w : World) (I : Nat → Prop) (vals : Array Value), RepL φ (rdH H) w I args vals.toList → Sim φ I (rdH H) w → Calls P g vals w (Comes' φ I H w v H')

section
variable {φ : Phi} {rd : Rd} {w : World} {I : Nat → Prop} {P : Program}

theorem Sim.still {I' : Nat → Prop} {w' : World} (sm : Sim φ I rd w) (h1 : ∀ b, I b → I' b) (h2 : ∀ b, I' b → I b ∨ w.heap.size ≤ b) (h3 : ∀ b, I' b → b < w'.heap.size) (st : Still w w') :
    Sim φ I' rd w' ∧ Ext φ I rd w φ I' rd w' := by
  have E : Ext φ I rd w φ I' rd w' := ⟨fun _ h => h, fun _ h => .inr ⟨h, rfl, rfl, rfl⟩, h1, fun g hg => (h2 g hg).imp id .inl, fun b g C hm hφ => .inr ⟨b, C, hm, hφ⟩, fun g hg _ => st.heap g hg, st.size, st.os, st.tape, st.output⟩
  refine ⟨sm.update E (fun _ => False) (fun b _ hal => ⟨rfl, rfl, fun g C hφ => ⟨st.heap g (sm.lt hal hφ), fun hm hI => ?_⟩⟩) (fun b hf => hf.elim) (fun _ _ _ _ _ _ _ _ _ hf => hf.elim) h3, E⟩
  rcases h2 g hI with h | h
  · exact sm.notI hm hφ h
  · have := sm.lt hal hφ; omega

/-! ### flat values -/
mutual
theorem RepT.flat {w w' : World} {I I' : Nat → Prop} : ∀ (s : Sh) (x : Tree) (v : Value), s.flat = true → s.ok x = true → RepT w I x v → RepT w' I' x v
  | .int k, x, v, hf, ho, h => by cases x <;> simp_all [Sh.ok]; cases h; exact .int _ _
  | .bool, x, v, hf, ho, h => by cases x <;> simp_all [Sh.ok]; cases h; exact .bool _
  | .str, x, v, hf, ho, h => by cases x <;> simp_all [Sh.ok]; cases h; exact .str _
  | .slc, x, v, hf, ho, h => by simp [Sh.flat] at hf
  | .any, x, v, hf, ho, h => by simp [Sh.flat] at hf
  | .agg l, x, v, hf, ho, h => by
    cases x <;> simp only [Sh.ok] at ho <;> first | cases ho | skip
    rename_i cs
    simp only [Sh.flat] at hf
    cases h with
    | agg _ vs hl hsc hv => exact .agg cs vs hl hsc fun i x v hx hv' => RepT.flats l cs hf ho i x v hx (hv i x v hx hv')
  | .tup l, x, v, hf, ho, h => by
    cases x <;> simp only [Sh.ok] at ho <;> first | cases ho | skip
    rename_i cs
    simp only [Sh.flat] at hf
    cases h with
    | tup _ vs hl hv => exact .tup cs vs hl fun i x v hx hv' => RepT.flats l cs hf ho i x v hx (hv i x v hx hv')
theorem RepT.flats {w w' : World} {I I' : Nat → Prop} : ∀ (l : List Sh) (cs : List Tree), Sh.flats l = true → Sh.oks l cs = true → ∀ (i : Nat) (x : Tree) (v : Value), cs[i]? = some x → RepT w I x v → RepT w' I' x v
  | [], [], _, _, i, x, v, hx, _ => by simp at hx
  | [], _ :: _, _, ho, i, x, v, hx, _ => by simp [Sh.oks] at ho
  | _ :: _, [], _, _, i, x, v, hx, _ => by simp at hx
  | s :: l, y :: cs, hf, ho, i, x, v, hx, h => by
    simp only [Sh.flats] at hf
    simp only [Sh.oks] at ho
    split at hf
    · rename_i hs
      split at ho
      · rename_i hy
        cases i with
        | zero => simp at hx; subst hx; exact RepT.flat s y v hs hy h
        | succ i => exact RepT.flats l cs hf ho i x v (by simpa using hx) h
      · cases ho
    · cases hf
end

/-! ### freezing -/
theorem freezes_spec {ok : Nat → Bool} : ∀ {l : List Nat} {wr : List (Nat × HObj)}, freezes ok rd l = some wr →
    (∀ b o, (b, o) ∈ wr → b ∈ l ∧ ∃ s xs, o = .froz s xs ∧ (rd b = .tre s xs ∨ ∃ es, rd b = .mix s es ∧ mapO (toTree ok rd depth) es = some xs)) ∧ (∀ b, b ∈ l → (rd b).mut = true → ∃ o, (b, o) ∈ wr)
  | [], wr, h => by simp [freezes] at h; subst h; exact ⟨fun b o h => by simp at h, fun b h => by simp at h⟩
  | b :: l, wr, h => by
    simp only [freezes] at h
    split at h
    · cases h
    · rename_i r hr
      obtain ⟨ih1, ih2⟩ := freezes_spec hr
      split at h
      · rename_i s es hrd
        cases h
        refine ⟨fun b' o hb => ?_, fun b' hb hm => ?_⟩
        · rcases List.mem_cons.1 hb with h | h
          · cases h; exact ⟨List.mem_cons_self, s, es, rfl, .inl hrd⟩
          · obtain ⟨k1, k2⟩ := ih1 b' o h; exact ⟨List.mem_cons_of_mem _ k1, k2⟩
        · rcases List.mem_cons.1 hb with h | h
          · subst h; exact ⟨_, List.mem_cons_self⟩
          · obtain ⟨o, k⟩ := ih2 b' h hm; exact ⟨o, List.mem_cons_of_mem _ k⟩
      · rename_i s es hrd
        split at h
        · rename_i xs hxs
          cases h
          refine ⟨fun b' o hb => ?_, fun b' hb hm => ?_⟩
          · rcases List.mem_cons.1 hb with h | h
            · cases h; exact ⟨List.mem_cons_self, s, xs, rfl, .inr ⟨es, hrd, hxs⟩⟩
            · obtain ⟨k1, k2⟩ := ih1 b' o h; exact ⟨List.mem_cons_of_mem _ k1, k2⟩
          · rcases List.mem_cons.1 hb with h | h
            · subst h; exact ⟨_, List.mem_cons_self⟩
            · obtain ⟨o, k⟩ := ih2 b' h hm; exact ⟨o, List.mem_cons_of_mem _ k⟩
        · cases h
      · rename_i h1 h2
        cases h
        refine ⟨fun b' o hb => ?_, fun b' hb hm => ?_⟩
        · obtain ⟨k1, k2⟩ := ih1 b' o hb; exact ⟨List.mem_cons_of_mem _ k1, k2⟩
        · rcases List.mem_cons.1 hb with h | h
          · subst h
            cases hq : rd b' with
            | tre s es => exact absurd hq (h1 s es)
            | mix s es => exact absurd hq (h2 s es)
            | _ => rw [hq] at hm; simp [HObj.mut] at hm
          · exact ih2 b' h hm

theorem wrR_get : ∀ (wr : List (Nat × HObj)) (rd : Rd) (b : Nat), (wrR rd wr b = rd b ∧ ∀ o, (b, o) ∉ wr) ∨ ∃ o, (b, o) ∈ wr ∧ wrR rd wr b = o
  | [], rd, b => .inl ⟨rfl, fun o h => by simp at h⟩
  | (x, o) :: r, rd, b => by
    simp only [wrR]
    rcases wrR_get r (upd rd x o) b with ⟨h1, h2⟩ | ⟨o', h1, h2⟩
    · by_cases hx : b = x
      · subst hx; exact .inr ⟨o, List.mem_cons_self, by rw [h1]; simp [upd]⟩
      · refine .inl ⟨by rw [h1]; simp [upd, hx], fun o' h => ?_⟩
        rcases List.mem_cons.1 h with h | h
        · cases h; exact hx rfl
        · exact h2 o' h
    · exact .inr ⟨o', List.mem_cons_of_mem _ h1, h2⟩

/-- The blocks of a list, frozen: with those that were. -/
def Frz (φ : Phi) (rd : Rd) (I : Nat → Prop) (l : List Nat) : Nat → Prop := fun g => I g ∨ ∃ b C, b ∈ l ∧ (rd b).mut = true ∧ φ b = some (g, C)

theorem Frz.lt (sm : Sim φ I rd w) {l : List Nat} : ∀ g, Frz φ rd I l g → g < w.heap.size := by
  intro g hg
  rcases hg with h | ⟨b, C, _, hm, hφ⟩
  · exact sm.old g h
  · exact sm.lt (HObj.mut_alive hm) hφ

theorem Sim.freeze {I' : Nat → Prop} {w' : World} {l : List Nat} {wr : List (Nat × HObj)} (sm : Sim φ I rd w) (hfr : freezes (memN l) rd l = some wr) (h1 : ∀ b, Frz φ rd I l b → I' b) (h2 : ∀ b, I' b → Frz φ rd I l b ∨ w.heap.size ≤ b)
    (h3 : ∀ b, I' b → b < w'.heap.size) (st : Still w w') : Sim φ I' (wrR rd wr) w' ∧ Ext φ I rd w φ I' (wrR rd wr) w' := by
  obtain ⟨f1, f2⟩ := freezes_spec hfr
  have E : Ext φ I rd w φ I' (wrR rd wr) w' := by
    refine ⟨fun b hb => ?_, fun b hb => ?_, fun g hg => h1 g (.inl hg), fun g hg => ?_, fun b g C hm hφ => ?_, fun g hg _ => st.heap g hg, st.size, st.os, st.tape, st.output⟩
    · rcases wrR_get wr rd b with ⟨k, _⟩ | ⟨o, k, _⟩
      · rw [k]; exact hb
      · obtain ⟨_, s, xs, _, h | ⟨es, h, _⟩⟩ := f1 b o k <;> rw [hb] at h <;> cases h
    · refine .inr ?_
      rcases wrR_get wr rd b with ⟨k, _⟩ | ⟨o, k, ke⟩
      · rw [k]; exact ⟨hb, rfl, rfl, rfl⟩
      · obtain ⟨_, s, xs, rfl, h | ⟨es, h, hm⟩⟩ := f1 b o k
        · rw [ke, h]; exact ⟨rfl, rfl, rfl, rfl⟩
        · rw [ke, h]; exact ⟨rfl, rfl, rfl, by simp [HObj.els, (mapO_some hm).1]⟩
    · rcases h2 g hg with (h | ⟨b, C, _, hm, hφ⟩) | h
      · exact .inl h
      · exact .inr (.inr ⟨b, C, hm, hφ⟩)
      · exact .inr (.inl h)
    · rcases wrR_get wr rd b with ⟨k, _⟩ | ⟨o, k, ke⟩
      · rw [k] at hm; exact .inr ⟨b, C, hm, hφ⟩
      · obtain ⟨_, s, xs, rfl, _⟩ := f1 b o k
        rw [ke] at hm; cases hm
  refine ⟨sm.update E (fun b => ∃ o, (b, o) ∈ wr) (fun b hS hal => ?_) (fun b hS hal => ?_) (fun b b' g C C' hb hb' hφ hφ' hS => ?_) h3, E⟩
  · rcases wrR_get wr rd b with ⟨k, kn⟩ | ⟨o, k, ke⟩
    · rw [k] at hal
      refine ⟨k, rfl, fun g C hφ => ⟨st.heap g (sm.lt hal hφ), fun hm hI => ?_⟩⟩
      rcases h2 g hI with (h | ⟨b', C', hl, hm', hφ'⟩) | h
      · exact sm.notI hm hφ h
      · have := sm.inj b b' g C C' hm hm' hφ hφ'
        subst this
        obtain ⟨o, ho⟩ := f2 b hl hm
        exact kn o ho
      · have := sm.lt hal hφ; omega
    · exact absurd ⟨o, k⟩ hS
  · obtain ⟨o0, hS⟩ := hS
    rcases wrR_get wr rd b with ⟨k, kn⟩ | ⟨o, k, ke⟩
    · exact absurd hS (kn o0)
    · obtain ⟨hl, s, xs, rfl, hcase⟩ := f1 b o k
      have hmut : (rd b).mut = true := by rcases hcase with h | ⟨es, h, _⟩ <;> rw [h] <;> rfl
      have ha := HObj.mut_alive hmut
      have hsh : (rd b).sh = s := by rcases hcase with h | ⟨es, h, _⟩ <;> rw [h] <;> rfl
      have hlen : xs.length = (rd b).els.length := by
        rcases hcase with h | ⟨es, h, hm⟩ <;> rw [h]
        · simp [HObj.els]
        · simp [HObj.els, (mapO_some hm).1]
      unfold BlkOk
      rw [ke]
      rcases sm.blk b ha with ⟨h0, hn⟩ | ⟨g, C, hφ, _, _, hrow⟩
      · refine .inl ⟨?_, hn⟩
        have : xs = [] := List.eq_nil_of_length_eq_zero (by rw [hlen, h0]; rfl)
        rw [this]; rfl
      · have hg : Frz φ rd I l g := .inr ⟨b, C, hl, hmut, hφ⟩
        refine .inr ⟨g, C, hφ, fun hm => (by cases hm), fun _ => h1 g hg, ?_⟩
        have hT : RowT w (Frz φ rd I l) g 0 s.width xs := by
          have hat := hrow.at
          rw [hsh] at hat
          have hI : ∀ g, I g → Frz φ rd I l g := fun g h => .inl h
          rcases hcase with h | ⟨es, h, hm⟩
          · rw [show (rd b).els = xs.map .t by rw [h]; rfl] at hat
            exact hat.selfT hI
          · rw [show (rd b).els = es by rw [h]; rfl] at hat
            exact mapO_trees hI (toTree_rep sm hI (fun b g C hok hmm hφ => .inr ⟨b, C, (memN_iff l b).1 hok, hmm, hφ⟩) depth) hat hm
        obtain ⟨arr, T, e1, e2, e3, _⟩ := hrow.lies
        have hheap : w'.heap[g]? = w.heap[g]? := st.heap g (sm.lt ha hφ)
        rw [hsh] at e2
        refine ⟨arr, T, by rw [hheap]; exact e1, e2, by simp [HObj.els]; omega, fun i x hx => ?_⟩
        simp only [HObj.els, List.getElem?_map] at hx
        cases hq : xs[i]? with
        | none => simp [hq] at hx
        | some z =>
          simp [hq] at hx; subst hx
          obtain ⟨⟨q1, q2⟩, q3⟩ := hT i z hq
          refine ⟨⟨by rw [AV.cells_t, List.length_map]; exact q1, by unfold AV.fl; rw [AV.cells_t, List.all_map]; exact q2⟩, fun j y hy => ?_⟩
          rw [AV.cells_t, List.getElem?_map] at hy
          cases hp : z.cells[j]? with
          | none => simp [hp] at hy
          | some u =>
            simp [hp] at hy; subst hy
            obtain ⟨v, hv, hr⟩ := q3 j u hp
            refine ⟨v, by have hv' := hv; simp only [World.cell?, e1, Nat.zero_add, Option.isSome_none, Bool.false_eq_true, if_false] at hv'; exact hv', .t _ _ (hr.mono h1 fun b' o hb' => cell_of_heap (st.heap b' (Frz.lt sm b' hb')) o)⟩
  · obtain ⟨o0, hS⟩ := hS
    rcases wrR_get wr rd b with ⟨k, kn⟩ | ⟨o, k, ke⟩
    · exact absurd hS (kn o0)
    · obtain ⟨_, s, xs, rfl, _⟩ := f1 b o k
      rw [ke] at hb; cases hb

end

end Go.Proofs.Bw
end

/-
  THE ABSTRACT WALK, 20: calls, as operations.
-/
section
namespace Go.Proofs.Bw

section
variable {φ : Phi} {rd : Rd} {w : World} {I : Nat → Prop} {P : Program} {F : Fns}
variable {o : Oper} {a : Act} {c : Nat} {α : Type} {K : AV → Delta → Option α} {r : α}

theorem callable_run {g : Nat} (h : callable P g = true) (args : Array Value) (w : World) : (callFunc g args).run P w = .ok (.enter g args) w := by
  unfold callable at h
  split at h
  · rename_i fn hfn
    simp only [Bool.and_eq_true, Bool.not_eq_true'] at h
    cases hb : fn.body with
    | none => rw [hb] at h; simp at h
    | some b => exact callFunc_enter hfn h.2 hb args w
  · cases h

theorem call_exec {g : Nat} {cl : Call} {x : Operand} {va vc : Array Value} (h : callable P g = true) (ho : o.op = .call cl) (hc : cl.callee = .value x) (hx : a.eval x = .func (.func g) va vc) :
    (execOp a.eval o).run P w = .ok (.enter g (va ++ cl.args.map a.eval ++ vc)) w := by
  simp only [execOp, ho, resolve, hc, hx, Deferred.ofValue]
  simp only [pure_bind, invoke]
  exact callable_run h _ w

/-- A call that is entered. -/
theorem calls_done {g : Nat} {vals : Array Value} {R : Ending → World → Prop} {x : AV} {d : Delta} (hex : (execOp a.eval o).run P w = .ok (.enter g vals) w) (hC : (∀ y, c ≤ y → y < c + d.nw.length → rd y = .unborn) → Calls P g vals w R) (hK : K x d = some r)
    (hR : (∀ y, c ≤ y → y < c + d.nw.length → rd y = .unborn) → ∀ e w', R e w' → ∃ v φ' I', e = .returned v ∧ RepA φ' (appRd rd c d) w' I' x v ∧ Sim φ' I' (appRd rd c d) w' ∧ Ext φ I rd w φ' I' (appRd rd c d) w') : Done φ rd w I P o a c K r := by
  refine ⟨x, d, hK, fun hu next Q hn => ?_⟩
  unfold Oper.wp
  rw [hex]
  refine Calls.mono (hC hu) fun e w' he => ?_
  obtain ⟨v, φ', I', rfl, h1, h2, h3⟩ := hR hu e w' he
  exact hn φ' I' v w' h1 h2 h3

theorem mapO_args (sm : Sim φ I rd w) {l : List Nat} {args : List AV} {xs : List Tree} {vals : List Value} (h : mapO (toTree (memN l) rd depth) args = some xs) (hr : RepL φ rd w I args vals) : RepTL w (Frz φ rd I l) xs vals := by
  obtain ⟨k1, k2⟩ := mapO_some h
  refine ⟨by rw [hr.1, k1], fun i x v hx hv => ?_⟩
  have hi : i < args.length := by have := (List.getElem?_eq_some_iff.1 hx).1; omega
  exact toTree_rep sm (fun g h => .inl h) (fun b g C hok hmm hφ => .inr ⟨b, C, (memN_iff l b).1 hok, hmm, hφ⟩) depth depth (Nat.le_refl _) _ x v (k2 i (args[i]'hi) x (by simp) hx) (hr.2 i _ v (by simp) hv)

theorem pf_done (hF : FnsOk P F) (sm : Sim φ I rd w) {g : Nat} {xs : List Tree} {vals : Array Value} {s : Sh} (hex : callable P g = true → (execOp a.eval o).run P w = .ok (.enter g vals) w) (hr : RepTL w I xs vals.toList)
    (h : ((F.pf g xs).bind fun y => bif s.ok y then K (.t (s.open y)) .none else none) = some r) : Done φ rd w I P o a c K r := by
  cases hp : F.pf g xs with
  | none => simp [hp] at h
  | some y =>
    simp only [hp, Option.bind_some] at h
    obtain ⟨hok, h⟩ := bif_some h
    rw [Sh.open_eq s y hok] at h
    obtain ⟨hc, hcall⟩ := hF.pf g xs y hp
    refine calls_done (hex hc) (fun _ => hcall w I vals hr sm.old) h fun _ e w' he => ?_
    obtain ⟨v, I', rfl, h1, h2, h3, h4, h5⟩ := he
    obtain ⟨k1, k2⟩ := sm.still h2 h3 h4 h5
    rw [appRd_none]
    exact ⟨v, φ, I', rfl, .t _ _ h1, k1, k2⟩

theorem frozen_done (hF : FnsOk P F) (sm : Sim φ I rd w) {g : Nat} {xs : List Tree} {args : List AV} {vals : Array Value} {s : Sh} {l : List Nat} {wr : List (Nat × HObj)} (hex : callable P g = true → (execOp a.eval o).run P w = .ok (.enter g vals) w) (hr : RepL φ rd w I args vals.toList)
    (hw : freezes (memN l) rd l = some wr) (hx : mapO (toTree (memN l) rd depth) args = some xs)
    (h : ((F.pf g xs).bind fun y => bif s.ok y then K (.t (s.open y)) (bif s.flat then .none else ⟨wr, []⟩) else none) = some r) : Done φ rd w I P o a c K r := by
  cases hp : F.pf g xs with
  | none => simp [hp] at h
  | some y =>
    simp only [hp, Option.bind_some] at h
    obtain ⟨hok, h⟩ := bif_some h
    rw [Sh.open_eq s y hok] at h
    obtain ⟨hc, hcall⟩ := hF.pf g xs y hp
    have hcall := hcall w (Frz φ rd I l) vals (mapO_args sm hx hr) (Frz.lt sm)
    cases hfl : s.flat with
    | true =>
      rw [hfl, cond_true] at h
      refine calls_done (hex hc) (fun _ => hcall) h fun _ e w' he => ?_
      obtain ⟨v, I', rfl, h1, h2, h3, h4, h5⟩ := he
      obtain ⟨k1, k2⟩ := sm.still (I' := I) (fun _ h => h) (fun _ h => .inl h) (fun b hb => Nat.lt_of_lt_of_le (sm.old b hb) h5.size) h5
      rw [appRd_none]
      exact ⟨v, φ, I, rfl, .t _ _ (RepT.flat s y v hfl hok h1), k1, k2⟩
    | false =>
      rw [hfl, cond_false] at h
      refine calls_done (hex hc) (fun _ => hcall) h fun _ e w' he => ?_
      obtain ⟨v, I', rfl, h1, h2, h3, h4, h5⟩ := he
      obtain ⟨k1, k2⟩ := sm.freeze hw h2 h3 h4 h5
      have happ : appRd rd c ⟨wr, []⟩ = wrR rd wr := by
        funext x; simp only [appRd, List.length_nil]; rw [if_neg (by omega)]
      rw [happ]
      exact ⟨v, φ, I', rfl, .t _ _ h1, k1, k2⟩

/-! ### over a heap of its own -/
theorem ltAllN_spec {c : Nat} : ∀ {l : List Nat}, ltAllN c l = true → ∀ b, b ∈ l → b < c
  | [], _, b, h => by simp at h
  | x :: l, h, b, hb => by
    simp only [ltAllN] at h
    obtain ⟨h1, h2⟩ : Nat.blt x c = true ∧ ltAllN c l = true := by
      cases hq : Nat.blt x c with
      | true => rw [hq] at h; exact ⟨rfl, h⟩
      | false => rw [hq] at h; cases h
    have hx : x < c := by simpa [Nat.blt_eq] using h1
    rcases List.mem_cons.1 hb with e | e
    · subst e; exact hx
    · exact ltAllN_spec h2 b e

theorem zipB_get {rd : Rd} {ρ : Nat → Option Nat} : ∀ {seen js : List Nat} {b : Nat} {ob : HObj}, seen.length = js.length → (b, ob) ∈ zipB seen (objs rd ρ js) → ∃ i j : Nat, seen[i]? = some b ∧ js[i]? = some j ∧ ob = (rd j).ren ρ
  | [], [], b, ob, _, h => by simp [zipB, objs] at h
  | [], _ :: _, _, _, h, _ => by simp at h
  | _ :: _, [], _, _, h, _ => by simp at h
  | x :: seen, y :: js, b, ob, hl, h => by
    simp only [objs, zipB, List.mem_cons] at h
    rcases h with h | h
    · cases h; exact ⟨0, y, rfl, rfl, rfl⟩
    · obtain ⟨i, j, h1, h2, h3⟩ := zipB_get (by simpa using hl) h
      exact ⟨i + 1, j, by simpa using h1, by simpa using h2, h3⟩

theorem zipB_mem {rd : Rd} {ρ : Nat → Option Nat} : ∀ {seen js : List Nat} {i b j : Nat}, seen[i]? = some b → js[i]? = some j → (b, (rd j).ren ρ) ∈ zipB seen (objs rd ρ js)
  | [], js, i, b, j, h, _ => by simp at h
  | _ :: _, [], i, b, j, _, h => by simp at h
  | x :: seen, y :: js, 0, b, j, h1, h2 => by simp at h1 h2; subst h1; subst h2; simp [objs, zipB]
  | x :: seen, y :: js, i + 1, b, j, h1, h2 => by
    simp only [objs, zipB]
    exact List.mem_cons_of_mem _ (zipB_mem (by simpa using h1) (by simpa using h2))

theorem objs_length (rd : Rd) (ρ : Nat → Option Nat) : ∀ l : List Nat, (objs rd ρ l).length = l.length
  | [] => rfl
  | b :: l => by simp [objs, objs_length rd ρ l]

/-- Back from a call: where the caller's blocks are. -/
structure Back (φ : Phi) (rd : Rd) (c : Nat) (seen out : List Nat) (φ2 : Phi) (rd2 : Rd) (φ' : Phi) (rd' : Rd) (β : Nat → Option Nat) : Prop where
  ren : Ren φ2 rd2 φ' rd' β
  old : ∀ (i b : Nat), seen[i]? = some b → β i = some b
  new : ∀ b, c ≤ b → b < c + (out.drop seen.length).length → ∃ i, β i = some b
  inv : ∀ i b, β i = some b → seen[i]? = some b ∨ (c ≤ b ∧ b < c + (out.drop seen.length).length)
  same : ∀ b, b ∉ seen → ¬ (c ≤ b ∧ b < c + (out.drop seen.length).length) → rd' b = rd b ∧ φ' b = φ b
  inj : ∀ i j b, β i = some b → β j = some b → i = j

theorem back_of {seen out : List Nat} {φ2 : Phi} {rd2 : Rd} (hn : seen.Nodup) (hlt : ∀ b, b ∈ seen → b < c) (hout : out.Nodup) (hpre : ∃ t, out = upTo seen.length ++ t) :
    ∃ φ' : Phi, Back φ rd c seen out φ2 rd2 φ' (appRd rd c ⟨zipB seen (objs rd2 (backR seen out c seen.length) (upTo seen.length)), objs rd2 (backR seen out c seen.length) (out.drop seen.length)⟩) (backR seen out c seen.length) := by
  obtain ⟨t, ht⟩ := hpre
  have hdrop : out.drop seen.length = t := by
    rw [ht, List.drop_append_of_le_length (by rw [upTo_length]; exact Nat.le_refl _), List.drop_eq_nil_of_le (by rw [upTo_length]; exact Nat.le_refl _), List.nil_append]
  have hlow : ∀ i p : Nat, out[p]? = some i → seen.length ≤ i → seen.length ≤ p := by
    intro i p hp hi
    rcases Nat.lt_or_ge p seen.length with h | h
    · rw [ht, List.getElem?_append_left (by rw [upTo_length]; exact h), upTo_get _ _ h] at hp
      cases hp; omega
    · exact h
  have hhigh : ∀ q i : Nat, t[q]? = some i → seen.length ≤ i ∧ out[seen.length + q]? = some i := by
    intro q i hq
    have ho : out[seen.length + q]? = some i := by
      rw [ht, List.getElem?_append_right (by rw [upTo_length]; omega), upTo_length, Nat.add_sub_cancel_left]; exact hq
    refine ⟨?_, ho⟩
    rcases Nat.lt_or_ge i seen.length with h | h
    · have h1 : out[i]? = some i := by rw [ht, List.getElem?_append_left (by rw [upTo_length]; exact h)]; exact upTo_get _ _ h
      have := idxN_nodup hout h1
      rw [idxN_nodup hout ho] at this
      cases this; omega
    · exact h
  have bOld : ∀ (i b : Nat), seen[i]? = some b → backR seen out c seen.length i = some b := fun i b h => by
    unfold backR; rw [nth_eq, h]
  have bNew : ∀ q i : Nat, t[q]? = some i → backR seen out c seen.length i = some (c + q) := fun q i h => by
    obtain ⟨h1, h2⟩ := hhigh q i h
    unfold backR
    rw [nth_eq, List.getElem?_eq_none h1, idxN_nodup hout h2]
    simp
  have bInv : ∀ i b, backR seen out c seen.length i = some b → seen[i]? = some b ∨ ∃ q, t[q]? = some i ∧ b = c + q := by
    intro i b h
    unfold backR at h
    rw [nth_eq] at h
    split at h
    · rename_i b' hb; cases h; exact .inl hb
    · rename_i hb
      split at h
      · rename_i p hp
        cases h
        have hp' := idxN_some hp
        have hi : seen.length ≤ i := by
          rcases Nat.lt_or_ge i seen.length with h | h
          · rw [List.getElem?_eq_getElem h] at hb; cases hb
          · exact h
        have hpl := hlow i p hp' hi
        refine .inr ⟨p - seen.length, ?_, rfl⟩
        rw [ht, List.getElem?_append_right (by rw [upTo_length]; exact hpl), upTo_length] at hp'
        exact hp'
      · cases h
  have hnl : (objs rd2 (backR seen out c seen.length) (out.drop seen.length)).length = t.length := by rw [objs_length, hdrop]
  have rOld : ∀ (i b : Nat), seen[i]? = some b → appRd rd c ⟨zipB seen (objs rd2 (backR seen out c seen.length) (upTo seen.length)), objs rd2 (backR seen out c seen.length) (out.drop seen.length)⟩ b = (rd2 i).ren (backR seen out c seen.length) := by
    intro i b h
    have hb := hlt b (List.mem_of_getElem? h)
    simp only [appRd]
    rw [if_neg (by omega)]
    have hi : i < seen.length := (List.getElem?_eq_some_iff.1 h).1
    rcases wrR_get (zipB seen (objs rd2 (backR seen out c seen.length) (upTo seen.length))) rd b with ⟨_, k⟩ | ⟨ob, k, ke⟩
    · exact absurd (zipB_mem h (upTo_get _ _ hi)) (k _)
    · obtain ⟨i', j, h1, h2, h3⟩ := zipB_get (by rw [upTo_length]) k
      have : i' = i := by
        have e1 := idxN_nodup hn h1
        rw [idxN_nodup hn h] at e1; cases e1; rfl
      subst this
      rw [upTo_get _ _ hi] at h2; cases h2
      rw [ke, h3]
  have rNew : ∀ q i : Nat, t[q]? = some i → appRd rd c ⟨zipB seen (objs rd2 (backR seen out c seen.length) (upTo seen.length)), objs rd2 (backR seen out c seen.length) (out.drop seen.length)⟩ (c + q) = (rd2 i).ren (backR seen out c seen.length) := by
    intro q i h
    have hq : q < t.length := (List.getElem?_eq_some_iff.1 h).1
    simp only [appRd]
    rw [if_pos ⟨by omega, by rw [hnl]; omega⟩, Nat.add_sub_cancel_left, objs_get, hdrop, h]
    rfl
  refine ⟨fun x => if c ≤ x ∧ x < c + t.length then (t[x - c]?).bind φ2 else match idxN seen x with | some i => φ2 i | none => φ x, ⟨⟨fun i b h => ?_, fun i b h => ?_⟩, bOld, fun b h1 h2 => ?_, fun i b h => ?_, fun b h1 h2 => ?_, fun i j b h1 h2 => ?_⟩⟩
  · rcases bInv i b h with h | ⟨q, hq, rfl⟩
    · exact rOld i b h
    · exact rNew q i hq
  · rcases bInv i b h with h | ⟨q, hq, rfl⟩
    · have hb := hlt b (List.mem_of_getElem? h)
      rw [if_neg (by omega), idxN_nodup hn h]
    · have hl : q < t.length := (List.getElem?_eq_some_iff.1 hq).1
      rw [if_pos ⟨by omega, by omega⟩, Nat.add_sub_cancel_left, hq]; rfl
  · rw [hdrop] at h2
    have hl : b - c < t.length := by omega
    exact ⟨_, by rw [bNew (b - c) _ (List.getElem?_eq_getElem hl)]; congr 1; omega⟩
  · rw [hdrop]
    rcases bInv i b h with h | ⟨q, hq, rfl⟩
    · exact .inl h
    · have hl : q < t.length := (List.getElem?_eq_some_iff.1 hq).1
      exact .inr ⟨by omega, by omega⟩
  · rw [hdrop] at h2
    refine ⟨?_, ?_⟩
    · simp only [appRd]
      rw [hnl, if_neg h2]
      rcases wrR_get (zipB seen (objs rd2 (backR seen out c seen.length) (upTo seen.length))) rd b with ⟨k, _⟩ | ⟨ob, k, _⟩
      · exact k
      · obtain ⟨i', j, e1, _⟩ := zipB_get (by rw [upTo_length]) k
        exact absurd (List.mem_of_getElem? e1) h1
    · rw [if_neg h2]
      cases hq : idxN seen b with
      | none => rfl
      | some i => exact absurd (List.mem_of_getElem? (idxN_some hq)) h1
  · rcases bInv i b h1 with k1 | ⟨q, hq, rfl⟩
    · rcases bInv j b h2 with k2 | ⟨q, hq, rfl⟩
      · have e1 := idxN_nodup hn k1
        rw [idxN_nodup hn k2] at e1; cases e1; rfl
      · have := hlt _ (List.mem_of_getElem? k1); omega
    · rcases bInv j _ h2 with k2 | ⟨q', hq', he⟩
      · have := hlt _ (List.mem_of_getElem? k2); omega
      · have : q = q' := by omega
        subst this
        rw [hq] at hq'; cases hq'; rfl

end

end Go.Proofs.Bw
end

/-
  THE ABSTRACT WALK, 21: calls over a heap of their own.
-/
section
namespace Go.Proofs.Bw

section
variable {φ : Phi} {rd : Rd} {w : World} {I : Nat → Prop} {P : Program} {F : Fns}
variable {o : Oper} {a : Act} {c : Nat} {α : Type} {K : AV → Delta → Option α} {r : α}

theorem back_sim {seen out : List Nat} {φ2 φ' : Phi} {rd2 rd' : Rd} {I2 : Nat → Prop} {w' : World} {β : Nat → Option Nat} (sm : Sim φ I rd w) (hn : seen.Nodup)
    (B : Back φ rd c seen out φ2 rd2 φ' rd' β) (hlt : ∀ b, b ∈ seen → b < c) (hu : ∀ y, c ≤ y → y < c + (out.drop seen.length).length → rd y = .unborn)
    (sm2 : Sim φ2 I2 rd2 w') (E2 : Ext (phiOf φ seen) I (rdH (objs rd (idxN seen) seen)) w φ2 I2 rd2 w') : Sim φ' I2 rd' w' ∧ Ext φ I rd w φ' I2 rd' w' := by
  obtain ⟨R1, sur1⟩ := ren_objs φ rd hn
  have f1 : ∀ (i b : Nat), seen[i]? = some b → rdH (objs rd (idxN seen) seen) i = (rd b).ren (idxN seen) ∧ phiOf φ seen i = φ b := fun i b h =>
    ⟨R1.obj b i (idxN_nodup hn h), R1.phi b i (idxN_nodup hn h)⟩
  have low : ∀ (i g C : Nat), (rdH (objs rd (idxN seen) seen) i).mut = true → phiOf φ seen i = some (g, C) → ∃ b, b ∈ seen ∧ (rd b).mut = true ∧ φ b = some (g, C) := by
    intro i g C hm hφ
    obtain ⟨b, hb⟩ := sur1 i (HObj.mut_alive hm)
    have hs := idxN_some hb
    obtain ⟨e1, e2⟩ := f1 i b hs
    rw [e1, (HObj.ren_facts _ _).2.1] at hm
    rw [e2] at hφ
    exact ⟨b, List.mem_of_getElem? hs, hm, hφ⟩
  have up : ∀ b g C, (rd' b).mut = true → φ' b = some (g, C) → (∃ i, β i = some b ∧ (rd2 i).mut = true ∧ φ2 i = some (g, C)) ∨ (b ∉ seen ∧ (rd b).mut = true ∧ φ b = some (g, C)) := by
    intro b g C hm hφ
    by_cases h : b ∈ seen ∨ (c ≤ b ∧ b < c + (out.drop seen.length).length)
    · have : ∃ i, β i = some b := by
        rcases h with h | ⟨h1, h2⟩
        · obtain ⟨i, hi, rfl⟩ := List.mem_iff_getElem.1 h
          exact ⟨i, B.old i _ (by simp)⟩
        · exact B.new b h1 h2
      obtain ⟨i, hi⟩ := this
      rw [B.ren.obj i b hi, (HObj.ren_facts _ _).2.1] at hm
      rw [B.ren.phi i b hi] at hφ
      exact .inl ⟨i, hi, hm, hφ⟩
    · have h1 : b ∉ seen := fun h' => h (.inl h')
      obtain ⟨e1, e2⟩ := B.same b h1 (fun h' => h (.inr h'))
      rw [e1] at hm; rw [e2] at hφ
      exact .inr ⟨h1, hm, hφ⟩
  have apart : ∀ b g C, b ∉ seen → (rd b).alive = true → φ b = some (g, C) → ∀ i C', (rdH (objs rd (idxN seen) seen) i).mut = true → phiOf φ seen i = some (g, C') → False := by
    intro b g C hb hal hφ i C' hm hφ'
    obtain ⟨b', hs, hm', hφ''⟩ := low i g C' hm hφ'
    rcases HObj.alive_cases hal with hmu | hf
    · have := sm.inj b b' g C C' hmu hm' hφ hφ''
      subst this; exact hb hs
    · rcases sm.blk b hal with ⟨_, h0⟩ | ⟨g1, C1, k1, _, k3, _⟩
      · rw [h0] at hφ; cases hφ
      · rw [k1] at hφ; cases hφ; exact sm.notI hm' hφ'' (k3 hf)
  have E : Ext φ I rd w φ' I2 rd' w' := by
    refine ⟨fun b hb => ?_, fun b hb => ?_, E2.sub, fun g hg => ?_, fun b g C hm hφ => ?_, fun g hg hno => ?_, E2.size, E2.os, E2.tape, E2.output⟩
    · by_cases hs : b ∈ seen
      · obtain ⟨i, hi, rfl⟩ := List.mem_iff_getElem.1 hs
        have hi' : seen[i]? = some seen[i] := by simp
        have h1 : rdH (objs rd (idxN seen) seen) i = .dead := by rw [(f1 i _ hi').1, hb]; rfl
        rw [B.ren.obj i _ (B.old i _ hi'), E2.dead i h1]; rfl
      · have hr : ¬ (c ≤ b ∧ b < c + (out.drop seen.length).length) := fun h => by rw [hu b h.1 h.2] at hb; cases hb
        rw [(B.same b hs hr).1]; exact hb
    · by_cases hs : b ∈ seen
      · obtain ⟨i, hi, rfl⟩ := List.mem_iff_getElem.1 hs
        have hi' : seen[i]? = some seen[i] := by simp
        obtain ⟨q1, q2⟩ := f1 i _ hi'
        obtain ⟨r1, _, _, r4, r5⟩ := HObj.ren_facts (idxN seen) (rd seen[i])
        obtain ⟨s1, _, _, s4, s5⟩ := HObj.ren_facts β (rd2 i)
        have ho := B.old i _ hi'
        rcases E2.keep i (by rw [q1, r1]; exact hb) with h | ⟨h1, h2, h3, h4⟩
        · exact .inl (by rw [B.ren.obj i _ ho, h]; rfl)
        · refine .inr ⟨by rw [B.ren.obj i _ ho, s1]; exact h1, by rw [B.ren.phi i _ ho, h2, q2], by rw [B.ren.obj i _ ho, s4, h3, q1, r4], ?_⟩
          rw [B.ren.obj i _ ho, s5, List.length_map, h4, q1, r5, List.length_map]
      · have hr : ¬ (c ≤ b ∧ b < c + (out.drop seen.length).length) := fun h => by rw [hu b h.1 h.2] at hb; cases hb
        obtain ⟨e1, e2⟩ := B.same b hs hr
        exact .inr ⟨by rw [e1]; exact hb, e2, by rw [e1], by rw [e1]⟩
    · rcases E2.inew g hg with h | h | ⟨i, C, hm, hφ⟩
      · exact .inl h
      · exact .inr (.inl h)
      · obtain ⟨b, _, hm', hφ'⟩ := low i g C hm hφ
        exact .inr (.inr ⟨b, C, hm', hφ'⟩)
    · rcases up b g C hm hφ with ⟨i, hi, hm', hφ'⟩ | ⟨_, hm', hφ'⟩
      · rcases E2.mnew i g C hm' hφ' with h | ⟨i0, C0, h1, h2⟩
        · exact .inl h
        · obtain ⟨b0, _, k1, k2⟩ := low i0 g C0 h1 h2
          exact .inr ⟨b0, C0, k1, k2⟩
      · exact .inr ⟨b, C, hm', hφ'⟩
    · refine E2.frame g hg fun i C hm hφ => ?_
      obtain ⟨b, _, hm', hφ'⟩ := low i g C hm hφ
      exact hno b C hm' hφ'
  refine ⟨sm.update E (fun b => b ∈ seen ∨ (c ≤ b ∧ b < c + (out.drop seen.length).length)) (fun b hS hal => ?_) (fun b hS hal => ?_) (fun b b' g C C' hb hb' hφ hφ' hS => ?_) sm2.old, E⟩
  · have hs : b ∉ seen := fun h => hS (.inl h)
    obtain ⟨e1, e2⟩ := B.same b hs (fun h => hS (.inr h))
    rw [e1] at hal
    refine ⟨e1, e2, fun g C hφ => ⟨E2.frame g (sm.lt hal hφ) fun i C' hm' hφ' => apart b g C hs hal hφ i C' hm' hφ', fun hm hI => ?_⟩⟩
    rcases E2.inew g hI with h | h | ⟨i, C', hm', hφ'⟩
    · exact sm.notI hm hφ h
    · have := sm.lt hal hφ; omega
    · exact apart b g C hs hal hφ i C' hm' hφ'
  · have : ∃ i, β i = some b := by
      rcases hS with h | ⟨h1, h2⟩
      · obtain ⟨i, hi, rfl⟩ := List.mem_iff_getElem.1 h
        exact ⟨i, B.old i _ (by simp)⟩
      · exact B.new b h1 h2
    obtain ⟨i, hi⟩ := this
    rw [B.ren.obj i b hi, (HObj.ren_facts _ _).1] at hal
    exact BlkOk.ren B.ren hi (show BlkOk φ2 rd2 w' I2 i from sm2.blk i hal)
  · rcases up b g C hb hφ with ⟨i, hi, hm, hp⟩ | ⟨hs, hm, hp⟩
    · rcases up b' g C' hb' hφ' with ⟨i', hi', hm', hp'⟩ | ⟨hs', hm', hp'⟩
      · have := sm2.inj i i' g C C' hm hm' hp hp'
        subst this
        rw [hi] at hi'; cases hi'; rfl
      · exfalso
        rcases E2.mnew i g C hm hp with h | ⟨i0, C0, h1, h2⟩
        · have := sm.lt (HObj.mut_alive hm') hp'; omega
        · exact apart b' g C' hs' (HObj.mut_alive hm') hp' i0 C0 h1 h2
    · exfalso
      rcases hS with h | ⟨h1, h2⟩
      · exact hs h
      · rw [hu b h1 h2] at hm; cases hm

theorem callR_done (hF : FnsOk P F) (sm : Sim φ I rd w) {g : Nat} {args : List AV} {vals : Array Value} {seen : List Nat} (hex : callable P g = true → (execOp a.eval o).run P w = .ok (.enter g vals) w) (hr : RepL φ rd w I args vals.toList)
    (h : callR F g args rd c seen K = some r) : Done φ rd w I P o a c K r := by
  unfold callR at h
  obtain ⟨hb, h⟩ := bif_some h
  simp only [Bool.and_eq_true] at hb
  have hn := nodupN_nodup hb.1.1
  have hlt := ltAllN_spec hb.1.2
  cases hp : F.rf g (AV.renL (idxN seen) args) (objs rd (idxN seen) seen) with
  | none => simp [hp] at h
  | some p =>
    obtain ⟨v1, H2⟩ := p
    simp only [hp, Option.bind_some] at h
    unfold callR.backTo at h
    obtain ⟨hb2, h⟩ := bif_some h
    simp only [Bool.and_eq_true] at hb2
    obtain ⟨hc, hcall⟩ := hF.rf g _ _ v1 H2 hb.2 hp
    obtain ⟨R1, sur1⟩ := ren_objs φ rd hn
    have hcall := hcall (phiOf φ seen) w I vals (hr.ren R1) (sm.ren R1 sur1)
    refine calls_done (hex hc) (fun _ => hcall) h fun hu e w' he => ?_
    obtain ⟨val, φ2, I2, rfl, h1, h2, h3⟩ := he
    obtain ⟨t, ht⟩ := discover_prefix (rdH H2) 4096 (refsFirst seen.length H2 ++ AV.refsL [v1]) (upTo seen.length)
    obtain ⟨φ', B⟩ := back_of (φ := φ) (rd := rd) (c := c) (φ2 := φ2) (rd2 := rdH H2) hn hlt (nodupN_nodup hb2.2) ⟨t, ht⟩
    rw [objs_length] at hu
    obtain ⟨k1, k2⟩ := back_sim sm hn B hlt hu h2 h3
    exact ⟨val, φ', I2, rfl, h1.ren B.ren, k1, k2⟩

theorem bif_some2 {c : Bool} {x : Bool} (h : (bif c then x else false) = true) : c = true ∧ x = true := by
  cases c with
  | true => exact ⟨rfl, h⟩
  | false => cases h

mutual
theorem shEq_eq : ∀ {s s' : Sh}, shEq s s' = true → s = s'
  | .int k, s', h => by cases s' <;> simp [shEq] at h; rw [kindEq_eq h]
  | .bool, s', h => by cases s' <;> simp [shEq] at h; rfl
  | .str, s', h => by cases s' <;> simp [shEq] at h; rfl
  | .slc, s', h => by cases s' <;> simp [shEq] at h; rfl
  | .any, s', h => by cases s' <;> simp [shEq] at h; rfl
  | .agg l, s', h => by cases s' <;> simp [shEq] at h; rw [shEqs_eq h]
  | .tup l, s', h => by cases s' <;> simp [shEq] at h; rw [shEqs_eq h]
theorem shEqs_eq : ∀ {l l' : List Sh}, shEqs l l' = true → l = l'
  | [], l', h => by cases l' <;> simp [shEqs] at h; rfl
  | s :: l, l', h => by
    cases l' with
    | nil => simp [shEqs] at h
    | cons s' l' =>
      simp only [shEqs] at h
      obtain ⟨h1, h2⟩ := bif_some2 h
      rw [shEq_eq h1, shEqs_eq h2]
end

theorem rowForm_spec {s : Sh} {H : Heap} {c : Nat} : ∀ {l : List Sh} {cs : List AV}, rowForm s H l cs = true →
    ∃ b, (∃ xs, rdH H b = .tre s xs ∧ rowOf H cs = xs) ∧ AV.refsL cs = [b] ∧ ∀ ρ : Nat → Option Nat, ρ b = some c → AV.renL ρ cs = rowOpen c l cs := by
  intro l cs
  induction cs generalizing l with
  | nil => intro h; cases l with
    | nil => simp [rowForm] at h
    | cons q l => cases q <;> cases l <;> simp [rowForm] at h
  | cons x r ih =>
    intro h
    cases l with
    | nil => simp [rowForm] at h
    | cons q l =>
      cases x with
      | t x =>
        have h' : (bif q.ok x then rowForm s H l r else false) = true := by
          cases q <;> cases l <;> exact h
        obtain ⟨h1, h2⟩ := bif_some2 h'
        obtain ⟨b, ⟨xs, hb, hx⟩, hrf, hren⟩ := ih h2
        refine ⟨b, ⟨xs, hb, ?_⟩, ?_, fun ρ hρ => ?_⟩
        · rw [← hx]; rfl
        · rw [← hrf]; rfl
        · have e1 : rowOpen c (q :: l) (.t x :: r) = .t (q.open x) :: rowOpen c l r := by
            cases l with
            | nil => cases r <;> simp [rowForm] at h2
            | cons q2 l2 => cases q <;> rfl
          rw [e1, Sh.open_eq q x h1, ← hren ρ hρ]
          rfl
      | hsl b k =>
        cases q with
        | slc =>
          cases l with
          | nil =>
            cases r with
            | nil =>
              cases k with
              | none =>
                have h' : (match rdH H b with | .tre s' _ => shEq s s' | _ => false) = true := h
                split at h'
                · rename_i s' xs hb
                  have e := shEq_eq h'
                  subst e
                  refine ⟨b, ⟨xs, hb, by simp [rowOf, hb]⟩, rfl, fun ρ hρ => ?_⟩
                  simp [AV.renL, AV.ren, hρ, rowOpen]
                · cases h'
              | some k => exact absurd h (by simp [rowForm])
            | cons y r => exact absurd h (by simp [rowForm])
          | cons q2 l => exact absurd h (by simp [rowForm])
        | _ => exact absurd h (by simp [rowForm])
      | _ => exact absurd h (by cases q <;> cases l <;> simp [rowForm])

theorem nilForm_spec {ρ : Nat → Option Nat} : ∀ {l : List Sh} {cs : List AV}, nilForm l cs = true → AV.refsL cs = [] ∧ AV.renL ρ cs = nilOpen l cs := by
  intro l cs
  induction cs generalizing l with
  | nil => intro h; cases l with
    | nil => simp [nilForm] at h
    | cons q l => cases q <;> cases l <;> simp [nilForm] at h
  | cons x r ih =>
    intro h
    cases l with
    | nil => simp [nilForm] at h
    | cons q l =>
      cases x with
      | t x =>
        have h' : (bif q.ok x then nilForm l r else false) = true := by
          cases q <;> cases l <;> exact h
        obtain ⟨h1, h2⟩ := bif_some2 h'
        obtain ⟨hrf, hren⟩ := ih h2
        refine ⟨by rw [← hrf]; rfl, ?_⟩
        have e1 : nilOpen (q :: l) (.t x :: r) = .t (q.open x) :: nilOpen l r := by
          cases l with
          | nil => cases r <;> simp [nilForm] at h2
          | cons q2 l2 => cases q <;> rfl
        rw [e1, Sh.open_eq q x h1, ← hren]
        rfl
      | nilS =>
        cases q with
        | slc =>
          cases l with
          | nil =>
            cases r with
            | nil => exact ⟨rfl, rfl⟩
            | cons y r => exact absurd h (by simp [nilForm])
          | cons q2 l => exact absurd h (by simp [nilForm])
        | _ => exact absurd h (by simp [nilForm])
      | _ => exact absurd h (by cases q <;> cases l <;> simp [nilForm])

theorem row_agg {v : AV} {l : List Sh} {H : Heap} {s : Sh} (h : rowForm s H l (aggCs v) = true ∨ nilForm l (aggCs v) = true) : v = .agg (aggCs v) := by
  cases v with
  | agg cs => rfl
  | t x =>
    exfalso
    have key : ∀ (xs : List Tree) (l : List Sh), rowForm s H l (xs.map .t) = false ∧ nilForm l (xs.map .t) = false := by
      intro xs
      induction xs with
      | nil => intro l; cases l with
        | nil => simp [rowForm, nilForm]
        | cons q l => cases q <;> cases l <;> simp [rowForm, nilForm]
      | cons x xs ih =>
        intro l
        cases l with
        | nil => simp [rowForm, nilForm]
        | cons q l =>
          have e1 : rowForm s H (q :: l) ((x :: xs).map .t) = (bif q.ok x then rowForm s H l (xs.map .t) else false) := by cases q <;> cases l <;> rfl
          have e2 : nilForm (q :: l) ((x :: xs).map .t) = (bif q.ok x then nilForm l (xs.map .t) else false) := by cases q <;> cases l <;> rfl
          rw [e1, e2, (ih l).1, (ih l).2]
          cases q.ok x <;> exact ⟨rfl, rfl⟩
    have k2 := key [] l
    cases x <;> first
      | (rename_i cs; have := key cs l; simp only [aggCs] at h; rw [this.1, this.2] at h; simp at h; done)
      | (simp only [aggCs] at h; simp only [List.map_nil] at k2; rw [k2.1, k2.2] at h; simp at h; done)
  | _ =>
    exfalso
    simp only [aggCs] at h
    have k2 : rowForm s H l [] = false ∧ nilForm l [] = false := by
      cases l with
      | nil => simp [rowForm, nilForm]
      | cons q l => cases q <;> cases l <;> simp [rowForm, nilForm]
    rw [k2.1, k2.2] at h
    simp at h

theorem refsL_t : ∀ xs : List Tree, AV.refsL (xs.map .t) = []
  | [] => rfl
  | x :: r => by simp [AV.refsL, AV.refs, refsL_t r]

theorem callO_callR {F : Fns} {g : Nat} {l : List Sh} {args : List AV} {xs : List Tree} (hxs : allT args = some xs) (h : callO F g l args c K = some r) :
    callR F g args rd c (discover rd 4096 (AV.refsL args) []) K = some r := by
  have ha := allT_some hxs
  have hd : discover rd 4096 (AV.refsL args) [] = [] := by rw [ha, refsL_t]; rfl
  rw [hd]
  have hr : AV.renL (idxN []) args = args := by rw [renL_map, ha]; exact map_ren_t _ _
  unfold callO at h
  obtain ⟨hok, h⟩ := bif_some h
  unfold callR
  rw [hr]
  show (bif F.ok g args [] then (F.rf g args []).bind _ else none) = some r
  rw [hok, cond_true]
  cases hp : F.rf g args [] with
  | none => simp [hp] at h
  | some p =>
    obtain ⟨v, H⟩ := p
    simp only [hp, Option.bind_some] at h ⊢
    unfold callR.backTo
    cases hb : rowForm (.agg l) H l (aggCs v) with
    | true =>
      rw [hb, cond_true] at h
      have hv := row_agg (.inl hb)
      generalize aggCs v = cs at hb h hv
      subst hv
      obtain ⟨b, ⟨ys, hrb, hro⟩, hrf, hren⟩ := rowForm_spec (c := c) hb
      have hout : seenFrom ([] : List Nat).length H [.agg cs] = [b] := by
        have e : AV.refsL [.agg cs] = [b] := by simp [AV.refsL, AV.refs, hrf]
        unfold seenFrom
        rw [e]
        show discover (rdH H) 4096 [b] [] = [b]
        show (bif memN [] b then _ else match rdH H b with | .mix _ es => _ | _ => discover (rdH H) 4095 [] ([] ++ [b])) = [b]
        rw [hrb]
        rfl
      simp only [hout]
      have hk : backR [] [b] c 0 b = some c := by
        unfold backR
        simp [nth, idxN]
      show (bif nodupN [b] then K (AV.ren (backR [] [b] c 0) (.agg cs)) ⟨[], [HObj.ren (backR [] [b] c 0) (rdH H b)]⟩ else none) = some r
      have e1 : AV.ren (backR [] [b] c 0) (.agg cs) = .agg (rowOpen c l cs) := by
        show AV.agg (AV.renL (backR [] [b] c 0) cs) = _
        rw [hren _ hk]
      have e2 : HObj.ren (backR [] [b] c 0) (rdH H b) = .tre (.agg l) (rowOf H cs) := by rw [hrb, hro]; rfl
      rw [e1, e2]
      exact h
    | false =>
      rw [hb, cond_false] at h
      obtain ⟨hb2, h3⟩ := bif_some h
      clear h
      have hv := row_agg (s := .agg l) (H := H) (.inr hb2)
      generalize aggCs v = cs at hb hb2 h3 hv
      subst hv
      obtain ⟨hrf, hren⟩ := nilForm_spec (ρ := backR [] [] c 0) hb2
      have hout : seenFrom ([] : List Nat).length H [.agg cs] = [] := by
        have e : AV.refsL [.agg cs] = [] := by simp [AV.refsL, AV.refs, hrf]
        unfold seenFrom
        rw [e]
        rfl
      simp only [hout]
      show (bif nodupN [] then K (AV.ren (backR [] [] c 0) (.agg cs)) ⟨[], []⟩ else none) = some r
      have e1 : AV.ren (backR [] [] c 0) (.agg cs) = .agg (nilOpen l cs) := by
        show AV.agg (AV.renL (backR [] [] c 0) cs) = _
        rw [hren]
      rw [e1]
      exact h3

theorem callC_callR {F : Fns} {g : Nat} {args : List AV} {xs : List Tree} (hxs : allT args = some xs) (h : callC F g args c K = some r) :
    callR F g args rd c (discover rd 4096 (AV.refsL args) []) K = some r := by
  have ha := allT_some hxs
  have hd : discover rd 4096 (AV.refsL args) [] = [] := by rw [ha, refsL_t]; rfl
  rw [hd]
  have hr : AV.renL (idxN []) args = args := by rw [renL_map, ha]; exact map_ren_t _ _
  unfold callC at h
  obtain ⟨hok, h⟩ := bif_some h
  unfold callR
  rw [hr]
  show (bif F.ok g args [] then (F.rf g args []).bind _ else none) = some r
  rw [hok, cond_true]
  cases hp : F.rf g args [] with
  | none => simp [hp] at h
  | some p =>
    obtain ⟨v, H⟩ := p
    simp only [hp, Option.bind_some] at h ⊢
    cases hb : isClip v with
    | false => rw [hb, cond_false] at h; exact h
    | true =>
      rw [hb, cond_true] at h
      cases v <;> first | (cases hb; done) | exact h

theorem callA_done (hF : FnsOk P F) (sm : Sim φ I rd w) {md : Bool} {g : Nat} {s : Sh} {args : List AV} {vals : Array Value} (hex : callable P g = true → (execOp a.eval o).run P w = .ok (.enter g vals) w) (hr : RepL φ rd w I args vals.toList)
    (h : callA F md g s args rd c K = some r) : Done φ rd w I P o a c K r := by
  unfold callA at h
  cases md with
  | true =>
    simp only at h
    split at h
    · rename_i xs l hxs
      exact callR_done hF sm hex hr (callO_callR hxs h)
    · rename_i xs hxs
      exact callR_done hF sm hex hr (callC_callR hxs h)
    · exact callR_done hF sm hex hr h
  | false =>
    simp only at h
    split at h
    · rename_i xs hxs
      rw [allT_some hxs] at hr
      exact pf_done hF sm hex hr.toT h
    · split at h
      · cases h
      · rename_i wr hwr
        split at h
        · cases h
        · rename_i xs hxs
          exact frozen_done hF sm hex hr hwr hxs h

variable {ts : List AV} (hs : RepS φ rd w I ts a.tmps)

include hs in
theorem do_call (hF : FnsOk P F) (sm : Sim φ I rd w) {md : Bool} {g : Nat} {s : Sh} {cl : Call} {args : List Opd} (ho : o.op = .call cl) (hc : cl.callee = .value (.func g)) (ha : compOpds cl.args.toList = some args)
    (h : callA F md g s (evs ts args) rd c K = some r) : Done φ rd w I P o a c K r := by
  refine callA_done hF sm (vals := cl.args.map a.eval) (fun hcb => ?_) (by simpa using evs_rep hs ha) h
  have := call_exec (P := P) (w := w) (a := a) hcb ho hc (x := .func g) (va := #[]) (vc := #[]) rfl
  simpa using this

theorem RepT.fn_inv {g : Nat} {p q : List Tree} {v : Value} (h : RepT w I (.fn g p q) v) : ∃ va vc : Array Value, v = .func (.func g) va vc ∧ RepTL w I p va.toList ∧ RepTL w I q vc.toList := by
  cases h with
  | fn _ _ _ va vc ha hc h1 h2 => exact ⟨va, vc, rfl, ⟨by simpa using ha, fun i x v hx hv => h1 i x v hx (by simpa using hv)⟩, ⟨by simpa using hc, fun i x v hx hv => h2 i x v hx (by simpa using hv)⟩⟩

theorem RepA.fn_inv {g : Nat} {p q : List AV} {v : Value} (h : RepA φ rd w I (.fn g p q) v) : ∃ va vc : Array Value, v = .func (.func g) va vc ∧ RepL φ rd w I p va.toList ∧ RepL φ rd w I q vc.toList := by
  cases h with
  | fn _ _ _ va vc ha hc h1 h2 => exact ⟨va, vc, rfl, ⟨by simpa using ha, fun i x v hx hv => h1 i x v hx (by simpa using hv)⟩, ⟨by simpa using hc, fun i x v hx hv => h2 i x v hx (by simpa using hv)⟩⟩

include hs in
theorem do_callv (hF : FnsOk P F) (sm : Sim φ I rd w) {s : Sh} {cl : Call} {x : Operand} {x' : Opd} {args : List Opd} (ho : o.op = .call cl) (hc : cl.callee = .value x) (hx : compOpd x = some x') (ha : compOpds cl.args.toList = some args)
    (h : callV F (ev ts x') s (evs ts args) rd c K = some r) : Done φ rd w I P o a c K r := by
  have hrx := ev_rep hs hx
  have hra : RepL φ rd w I (evs ts args) (cl.args.map a.eval).toList := by simpa using evs_rep hs ha
  unfold callV at h
  split at h
  · rename_i y hy
    rw [hy] at hrx
    have hrx := hrx.tree
    split at h
    · rename_i xs hxs
      unfold callT at h
      split at h
      · rename_i g p q
        obtain ⟨va, vc, hq, f1, f2⟩ := hrx.fn_inv
        rw [allT_some hxs] at hra
        refine pf_done hF sm (vals := va ++ cl.args.map a.eval ++ vc) (fun hcb => call_exec hcb ho hc hq) ?_ h
        have := ((RepL.ofT (φ := φ) (rd := rd) f1).append hra).append (RepL.ofT f2)
        rw [← List.map_append, ← List.map_append] at this
        simpa using this.toT
      · simp at h
    · split at h
      · rename_i g p q _
        obtain ⟨va, vc, hq, f1, f2⟩ := hrx.fn_inv
        refine callA_done hF sm (vals := va ++ cl.args.map a.eval ++ vc) (fun hcb => call_exec hcb ho hc hq) ?_ h
        simpa using ((RepL.ofT (φ := φ) (rd := rd) f1).append hra).append (RepL.ofT f2)
      · cases h
  · rename_i g p q hy
    rw [hy] at hrx
    obtain ⟨va, vc, hq, f1, f2⟩ := hrx.fn_inv
    refine callA_done hF sm (vals := va ++ cl.args.map a.eval ++ vc) (fun hcb => call_exec hcb ho hc hq) ?_ h
    simpa using (f1.append hra).append f2
  · cases h

include hs in
theorem do_clone (sm : Sim φ I rd w) {g : Nat} {t e : TypeId} {s : Sh} {n : Nat} {x : Operand} {x' : Opd} {cl : Call} (ho : o.op = .call cl) (hc : cl.callee = .value (.func g)) (ha : cl.args.toList = [x]) (hx : compOpd x = some x')
    (hg : cloneOf P g = some t) (hu : P.underlying t = some (.slice e)) (he : shOf P e = some s) (hb : tyBytes P e = some n) (hn : n ≠ 0) (hw0 : s.width ≠ 0)
    (h : (elsOf s rd (ev ts x') fun l => bif Nat.ble (l.length * n) 140737488355328 then K (.hsl c none) ⟨[], [l.row s]⟩ else none) = some r) : Done φ rd w I P o a c K r := by
  have ha : cl.args = #[x] := by cases hq : cl.args; simp [hq] at ha; simp [ha]
  obtain ⟨l, h, hsrc⟩ := elsOf_some sm (ev_rep hs hx) h
  obtain ⟨hle, h⟩ := bif_some h
  have hle := Nat.le_of_ble_eq_true hle
  have hcb : callable P g = true := by
    obtain ⟨fn, code, hfn, hbody, _, _, _, hname⟩ := cloneOf_spec hg
    simp [callable, hfn, hbody]
    simpa using hname
  refine calls_done (vals := #[a.eval x]) (g := g) ?_ (fun hu' => clone_calls sm hg hu he hb hn hw0 hsrc hle (hu' c (Nat.le_refl _) (by simp))) h fun _ e w' he => he
  have := call_exec (P := P) (w := w) (a := a) hcb ho hc (x := .func g) (va := #[]) (vc := #[]) rfl
  simpa [ha] using this

end

end Go.Proofs.Bw
end

/-
  THE ABSTRACT WALK, 22: one operation.
-/
section
namespace Go.Proofs.Bw

section
variable {φ : Phi} {rd : Rd} {w : World} {I : Nat → Prop} {P : Program} {F : Fns}
variable {o : Oper} {a : Act} {c : Nat} {α : Type} {K : AV → Delta → Option α} {r : α} {ts : List AV}

theorem map_some' {β γ : Type} {x : Option β} {f : β → γ} {y : γ} (h : x.map f = some y) : ∃ z, x = some z ∧ y = f z := by
  cases x with
  | none => cases h
  | some z => cases h; exact ⟨z, rfl, rfl⟩

theorem bnone {α : Type} {b : Bool} {x : Option α} {y : α} (h : (bif b then none else x) = some y) : b = false ∧ x = some y := by
  cases b
  · exact ⟨rfl, h⟩
  · cases h

theorem or_beq {a b : Nat} (h : (Nat.beq a 0 || Nat.beq b 0) = false) : a ≠ 0 ∧ b ≠ 0 := by
  simp only [Bool.or_eq_false_iff] at h
  exact ⟨Nat.ne_of_beq_eq_false h.1, Nat.ne_of_beq_eq_false h.2⟩

theorem elemTy_some {t e : TypeId} (h : elemTy P t = some e) : P.underlying t = some (.slice e) := by
  unfold elemTy at h
  split at h
  · rename_i e' h'; cases h; exact h'
  · cases h

theorem compOpds_one {l : Array Operand} {x' : Opd} (h : compOpds l.toList = some [x']) : ∃ x, l.toList = [x] ∧ compOpd x = some x' := by
  obtain ⟨h1, h2⟩ := mapO_some h
  match hq : l.toList, h1 with
  | [x], _ => exact ⟨x, rfl, h2 0 x x' (by rw [hq]; rfl) rfl⟩

theorem compOpds_two {l : Array Operand} {x' y' : Opd} (h : compOpds l.toList = some [x', y']) : ∃ x y, l.toList = [x, y] ∧ compOpd x = some x' ∧ compOpd y = some y' := by
  obtain ⟨h1, h2⟩ := mapO_some h
  match hq : l.toList, h1 with
  | [x, y], _ => exact ⟨x, y, rfl, h2 0 x x' (by rw [hq]; rfl) rfl, h2 1 y y' (by rw [hq]; rfl) rfl⟩

theorem compOpds_three {l : Array Operand} {x' y' z' : Opd} (h : compOpds l.toList = some [x', y', z']) : ∃ x y z, l.toList = [x, y, z] ∧ compOpd x = some x' ∧ compOpd y = some y' ∧ compOpd z = some z' := by
  obtain ⟨h1, h2⟩ := mapO_some h
  match hq : l.toList, h1 with
  | [x, y, z], _ => exact ⟨x, y, z, rfl, h2 0 x x' (by rw [hq]; rfl) rfl, h2 1 y y' (by rw [hq]; rfl) rfl, h2 2 z z' (by rw [hq]; rfl) rfl⟩

theorem carryOf_spec {g : Nat} {b : Bool} (h : carryOf P g = some b) : ∃ fn, P.funcs[g]? = some fn ∧ fn.body = none ∧ fn.name = (if b = true then "math/bits.Sub64" else "math/bits.Add64") ∧ fn.origin = "" := by
  unfold carryOf at h
  split at h
  · rename_i fn hfn
    split at h
    · cases h
    · rename_i hb
      cases h1 : (fn.name == "math/bits.Add64" && fn.origin == "") with
      | true =>
        rw [h1, cond_true] at h; cases h
        simp at h1
        exact ⟨fn, hfn, hb, h1.1, h1.2⟩
      | false =>
        rw [h1, cond_false] at h
        cases h2 : (fn.name == "math/bits.Sub64" && fn.origin == "") with
        | true =>
          rw [h2, cond_true] at h; cases h
          simp at h2
          exact ⟨fn, hfn, hb, h2.1, h2.2⟩
        | false => rw [h2] at h; cases h
  · cases h

theorem compBuiltin_sound (hs : RepS φ rd w I ts a.tmps) (sm : Sim φ I rd w) {cl : Call} {b : Builtin} {args : List Opd} {p : IOp} (ho : o.op = .call cl) (hcl : cl.callee = .builtin b) (ha : compOpds cl.args.toList = some args)
    (hc : compBuiltin P b cl.argTypes args = some p) (h : evOp F p ts rd c K = some r) : Done φ rd w I P o a c K r := by
  unfold compBuiltin at hc
  split at hc
  · obtain ⟨x, hx1, hx2⟩ := compOpds_one ha
    split at hc
    · rename_i t ht
      split at hc
      · rename_i e hu; cases hc; exact (do_len hs ho hcl hx1 ht hu hx2 h).done sm
      · rename_i hu; cases hc; exact (do_lens hs ho hcl hx1 ht hu hx2 h).done sm
      · cases hc
    · cases hc
  · obtain ⟨x, hx1, hx2⟩ := compOpds_one ha
    split at hc
    · rename_i t ht
      split at hc
      · rename_i e hu; cases hc; exact (do_cap hs ho hcl hx1 ht hu hx2 h).done sm
      · cases hc
    · cases hc
  · obtain ⟨x, y, h1, h2, h3⟩ := compOpds_two ha
    cases hc
    exact (do_mm hs ho hcl (.inl rfl) h1 h2 h3 h).done sm
  · obtain ⟨x, y, h1, h2, h3⟩ := compOpds_two ha
    cases hc
    exact (do_mm hs ho hcl (.inr rfl) h1 h2 h3 (by simpa [evOp] using h)).done sm
  · obtain ⟨x, y, h1, h2, h3⟩ := compOpds_two ha
    split at hc
    · rename_i t u hat
      split at hc
      · rename_i e he
        have hu := elemTy_some he
        split at hc
        · rename_i s n k hsh hby hv
          split at hc
          · rename_i z hz
            obtain ⟨hb, hc⟩ := bnone hc
            cases hc
            exact do_appz hs sm ho hcl h1 hat hu hv hsh hby hz (or_beq hb).1 (or_beq hb).2 h2 h3 h
          · cases hc
        · rename_i s n e' hsh hby hv
          obtain ⟨hb, hc⟩ := bnone hc
          cases hc
          exact do_app hs sm ho hcl h1 hat hu hv hsh hby (or_beq hb).1 (or_beq hb).2 h2 h3 h
        · cases hc
      · cases hc
    · cases hc
  · obtain ⟨x, hx1, hx2⟩ := compOpds_one ha
    split at hc
    · rename_i t hat
      split at hc
      · rename_i e he
        split at hc
        · rename_i s z hsh hz
          obtain ⟨hb, hc⟩ := bnone hc
          cases hc
          exact do_clr hs sm ho hcl hx1 hat (elemTy_some he) hsh hz (Nat.ne_of_beq_eq_false hb) hx2 h
        · cases hc
      · cases hc
    · cases hc
  · cases hc

theorem compCall_sound (hF : FnsOk P F) (hs : RepS φ rd w I ts a.tmps) (sm : Sim φ I rd w) {cl : Call} {md : Bool} {g : Nat} {t : TypeId} {args : List Opd} {p : IOp} (ho : o.op = .call cl) (hcl : cl.callee = .value (.func g)) (ha : compOpds cl.args.toList = some args)
    (hc : compCall P md g t args = some p) (h : evOp F p ts rd c K = some r) : Done φ rd w I P o a c K r := by
  unfold compCall at hc
  split at hc
  · rename_i b x' y' z' hcar
    obtain ⟨x, y, z, h1, h2, h3, h4⟩ := compOpds_three ha
    obtain ⟨fn, k1, k2, k3, k4⟩ := carryOf_spec hcar
    cases hc
    exact (do_carry hs ho hcl h1 k1 k2 k3 k4 h2 h3 h4 h).done sm
  · cases hc
  · split at hc
    · rename_i t' x' hcl'
      obtain ⟨x, h1, h2⟩ := compOpds_one ha
      split at hc
      · rename_i e he
        split at hc
        · rename_i s n hsh hby
          obtain ⟨hb, hc⟩ := bnone hc
          cases hc
          exact do_clone hs sm ho hcl h1 h2 hcl' (elemTy_some he) hsh hby (or_beq hb).1 (or_beq hb).2 h
        · cases hc
      · cases hc
    · cases hc
    · obtain ⟨_, hc⟩ := bif_some hc
      obtain ⟨s, _, rfl⟩ := map_some' hc
      exact do_call hs hF sm ho hcl ha h

theorem evOp_sound (hF : FnsOk P F) (hs : RepS φ rd w I ts a.tmps) (sm : Sim φ I rd w) {rs : List Nat} {p : IOp} (hc : compOp P rs o = some p) (h : evOp F p ts rd c K = some r) : Done φ rd w I P o a c K r := by
  unfold compOp at hc
  split at hc
  · rename_i x ho
    obtain ⟨x', hx, rfl⟩ := map_some' hc
    exact (do_mov hs (.inl ho) hx h).done sm
  · rename_i x ho
    obtain ⟨x', hx, rfl⟩ := map_some' hc
    exact (do_mov hs (.inr ho) hx h).done sm
  · rename_i x ho
    obtain ⟨x', hx, rfl⟩ := map_some' hc
    exact (do_nonnil hs ho hx h).done sm
  · rename_i x y z ho
    split at hc
    · rename_i h1 h2 h3; cases hc; exact (do_pick hs ho h1 h2 h3 h).done sm
    · cases hc
  · rename_i t ho
    split at hc
    · rename_i h1 h2; cases hc; exact do_new sm ho h1 h2 h
    · cases hc
  · rename_i t x ho
    split at hc
    · rename_i h1 h2; cases hc; exact do_box hs sm ho h2 h
    · cases hc
  · rename_i t ps ho
    split at hc
    · rename_i cs hz
      split at hc
      · rename_i z hzc
        split at hc
        · rename_i fs hu
          split at hc
          · rename_i pl hpl
            obtain ⟨ps', hps, rfl⟩ := map_some' hc
            exact (do_build hs ho hz hzc (.inl ⟨fs, pl, hu, hpl, hps⟩) h).done sm
          · cases hc
        · rename_i n e hu
          split at hc
          · rename_i s he
            obtain ⟨ps', hps, rfl⟩ := map_some' hc
            exact (do_build hs ho hz hzc (.inr ⟨n, e, s, hu, he, hps⟩) h).done sm
          · cases hc
        · cases hc
      · cases hc
    · cases hc
  · rename_i t n ps ho
    split at hc
    · rename_i e he
      split at hc
      · rename_i s z l h1 h2 h3
        obtain ⟨hb, hc⟩ := bif_some hc
        cases hc
        simp only [Bool.and_eq_true] at hb
        exact do_bsl hs sm ho (elemTy_some he) h1 h2 h3 (Nat.le_of_ble_eq_true hb.1) (Nat.le_of_ble_eq_true hb.2) h
      · cases hc
    · cases hc
  · rename_i t x ho
    split at hc
    · rename_i h1 h2; cases hc; exact (do_ld hs sm ho h1 h2 h).done sm
    · cases hc
  · rename_i t x v ho
    split at hc
    · rename_i h1 h2 h3; cases hc; exact do_st hs sm ho h1 h2 h3 h
    · cases hc
  · rename_i b t x y t' ho
    split at hc
    · rename_i x' y' hx hy
      split at hc
      · split at hc
        · cases hc; exact (do_bin hs ho hx hy h).done sm
        · cases hc; exact (do_bin hs ho hx hy h).done sm
        · obtain ⟨q, hq, rfl⟩ := map_some' hc
          exact (do_eqs hs (neq := false) (by simpa using ho) hq hx hy h).done sm
      · split at hc
        · cases hc; exact (do_bin hs ho hx hy h).done sm
        · cases hc; exact (do_bin hs ho hx hy h).done sm
        · obtain ⟨q, hq, rfl⟩ := map_some' hc
          exact (do_eqs hs (neq := true) (by simpa using ho) hq hx hy h).done sm
      · cases hc; exact (do_bin hs ho hx hy h).done sm
    · cases hc
  · rename_i u t x ho
    obtain ⟨x', hx, rfl⟩ := map_some' hc
    exact (do_un hs ho hx h).done sm
  · rename_i s d x ho
    split at hc
    · rename_i k x' h1 h2 h3; cases hc; exact (do_conv hs ho h2 (by rw [h1]; rfl) h3 h).done sm
    · cases hc
  · rename_i g x y ho
    split at hc
    · rename_i h1 h2; cases hc; exact (do_mkf hs ho h1 h2 h).done sm
    · cases hc
  · rename_i t l m ho
    split at hc
    · rename_i e he
      split at hc
      · rename_i s n z h1 h2 h3
        split at hc
        · rename_i l' m' h4 h5
          obtain ⟨hb, hc⟩ := bif_some hc
          cases hc
          exact do_mks hs sm ho (elemTy_some he) h1 h3 h2 h4 h5 (Nat.le_of_ble_eq_true hb) h
        · cases hc
      · cases hc
    · cases hc
  · rename_i t x lo hi mx ho
    split at hc
    · rename_i x' lo' hi' h1 h2 h3
      split at hc
      · rename_i e hu
        split at hc
        · obtain ⟨s, he, rfl⟩ := map_some' hc
          exact (do_sub hs ho hu he h1 h2 h3 h).done sm
        · rename_i mx
          split at hc
          · rename_i hi2 mx' h4
            obtain ⟨s, he, rfl⟩ := map_some' hc
            exact (do_subm hs ho hu he h1 h4 h2 h3 (by rintro rfl; simp [compOpt] at h3) h).done sm
          · cases hc
      · rename_i hu
        split at hc
        · cases hc; exact (do_subs hs ho hu h1 h2 h3 h).done sm
        · cases hc
      · cases hc
    · cases hc
  · rename_i s x f ho
    split at hc
    · rename_i fs x' hu hx
      split at hc
      · rename_i fl hfl
        split at hc
        · rename_i n hn; cases hc; exact (do_fa hs ho hu hfl hn hx h).done sm
        · cases hc
      · cases hc
    · cases hc
  · rename_i s x f ho
    split at hc
    · rename_i fs x' hu hx
      split at hc
      · rename_i fl hfl
        obtain ⟨sh, he, rfl⟩ := map_some' hc
        exact (do_fld hs ho hu hfl he hx h).done sm
      · cases hc
    · cases hc
  · rename_i t x i ho
    split at hc
    · rename_i e x' i' hu hx hi
      obtain ⟨s, he, rfl⟩ := map_some' hc
      exact (do_ia hs ho hu he hx hi h).done sm
    · rename_i n e x' i' hu hx hi
      obtain ⟨s, he, rfl⟩ := map_some' hc
      exact (do_iaa hs ho hu he hx hi h).done sm
    · cases hc
  · rename_i t x i ho
    split at hc
    · rename_i x' i' hu hx hi; cases hc; exact (do_ixs hs ho hu hx hi h).done sm
    · rename_i n e x' i' hu hx hi
      obtain ⟨s, he, rfl⟩ := map_some' hc
      exact (do_ixa hs ho hu he hx hi h).done sm
    · cases hc
  · rename_i x n ho
    obtain ⟨x', hx, rfl⟩ := map_some' hc
    exact (do_ext hs ho hx h).done sm
  · rename_i cl ho
    split at hc
    · rename_i args ha
      split at hc
      · rename_i g hcl; exact compCall_sound hF hs sm ho hcl ha hc h
      · rename_i x hcl
        split at hc
        · rename_i x' hx
          obtain ⟨s, _, rfl⟩ := map_some' hc
          exact do_callv hs hF sm ho hcl hx ha h
        · cases hc
      · rename_i b hcl; exact compBuiltin_sound hs sm ho hcl ha hc h
      · cases hc
    · cases hc
  · cases hc

end

end Go.Proofs.Bw
end

/-
  THE ABSTRACT WALK, 23: regions in the text's order.
-/
section
namespace Go.Proofs.Bw

theorem belowN_spec {n : Nat} : ∀ {l : List (Nat × HObj)}, belowN n l = true → ∀ p ∈ l, p.1 < n
  | [], _, p, h => by simp at h
  | (b, o) :: l, h, p, hp => by
    simp only [belowN] at h
    obtain ⟨h1, h2⟩ : Nat.blt b n = true ∧ belowN n l = true := by
      cases hq : Nat.blt b n with
      | true => rw [hq] at h; exact ⟨rfl, h⟩
      | false => rw [hq] at h; cases h
    rcases List.mem_cons.1 hp with e | e
    · subst e; simpa [Nat.blt_eq] using h1
    · exact belowN_spec h2 p e

section
variable {φ : Phi} {rd : Rd} {w : World} {I : Nat → Prop} {P : Program} {F : Fns}
variable {a : Act} {α : Type} {r : α} {ts : List AV}

theorem setB_rep (hs : RepS φ rd w I ts a.tmps) {g : Nat} {b : Bool} (h : slot ts g = .t (.bool b)) : RepS φ rd w I (setB ts g b) a.tmps := by
  unfold RepS RepL at *
  simp only [setB, setN_eq, List.length_set]
  refine ⟨hs.1, fun i y u hy hu => ?_⟩
  rw [List.getElem?_set] at hy
  by_cases hd : g = i
  · subst hd
    simp only [if_true] at hy
    split at hy
    · cases hy
      have := slot_rep (show RepL φ rd w I ts a.tmps.toList from hs) g
      rw [h] at this
      have hv := this.bool_inv
      rw [List.getD_eq_getElem?_getD, hu] at hv
      simp at hv
      rw [hv]; exact .bool b
    · cases hy
  · simp only [if_neg hd] at hy
    exact hs.2 i y u hy hu

theorem yielded_bool (hs : RepS φ rd w I ts a.tmps) {ops : Array Oper} {j d : Nat} {q : Oper} (hj : ops[j]? = some q) (hd : q.dst = some d) {b : Bool} (h : slot ts d = .t (.bool b)) : yielded ops a.tmps j = some b := by
  have := slot_rep (show RepL φ rd w I ts a.tmps.toList from hs) d
  rw [h] at this
  have hv := this.bool_inv
  rw [List.getD_eq_getElem?_getD, Array.getElem?_toList] at hv
  cases hq : a.tmps[d]? with
  | none => rw [hq] at hv; simp [Go.undef] at hv
  | some v =>
    rw [hq] at hv; simp at hv; subst hv
    simp [yielded, hj, hd, hq]

theorem yielded_undef (hs : RepS φ rd w I ts a.tmps) {ops : Array Oper} {j d : Nat} {q : Oper} (hj : ops[j]? = some q) (hd : q.dst = some d) (h : slot ts d = .undef) : yielded ops a.tmps j = none := by
  have := slot_rep (show RepL φ rd w I ts a.tmps.toList from hs) d
  rw [h] at this
  have hv : a.tmps.toList.getD d Go.undef = Go.undef := by
    generalize a.tmps.toList.getD d Go.undef = v at this
    cases this; rfl
  rw [List.getD_eq_getElem?_getD, Array.getElem?_toList] at hv
  cases hq : a.tmps[d]? with
  | none => simp [yielded, hj, hd, hq]
  | some v =>
    rw [hq] at hv; simp at hv; subst hv
    simp [yielded, hj, hd, hq, Go.undef]

/-- An operation is done or passed over, and what comes behind holds. -/
def StepWp (P : Program) (ops : Array Oper) (o : Oper) (a : Act) (w : World) (Kp : Act → World → Prop) (Q : Exit → Act → World → Prop) : Prop :=
  if Region.wanted o (yielded ops a.tmps) then o.wp P a w Kp Q else Kp (a.put o.dst undef) w

theorem operV_sound (hF : FnsOk P F) (hs : RepS φ rd w I ts a.tmps) (sm : Sim φ I rd w) {rs : List Nat} {ops : Array Oper} {o : Oper} {o' : IOper} {c : Nat} {K : List AV → Delta → List Nat × List Nat → Option α}
    (hc : compOper P rs ops o = some o') (h : operV F o' ts rd c K = some r) :
    ∃ ts' d fp, K ts' d fp = some r ∧ ((∀ y, c ≤ y → y < c + d.nw.length → rd y = .unborn) → ∀ (Kp : Act → World → Prop) (Q : Exit → Act → World → Prop),
      (∀ φ' I' a' w', a'.defers = a.defers → RepS φ' (appRd rd c d) w' I' ts' a'.tmps → Sim φ' I' (appRd rd c d) w' → Ext φ I rd w φ' I' (appRd rd c d) w' → Kp a' w') → StepWp P ops o a w Kp Q) := by
  have hput : ∀ v, (a.put o.dst v).defers = a.defers := fun v => by unfold Act.put; split <;> rfl
  have run : ∀ {p : IOp} {ts1 : List AV}, (compOp P rs o = some p ∨ p = .fail) → RepS φ rd w I ts1 a.tmps → Region.wanted o (yielded ops a.tmps) = true →
      evOp F p ts1 rd c (fun v d => K (putS ts1 o.dst v) d (foot p ts1 rd)) = some r → ∃ ts' d fp, K ts' d fp = some r ∧ ((∀ y, c ≤ y → y < c + d.nw.length → rd y = .unborn) → ∀ (Kp : Act → World → Prop) (Q : Exit → Act → World → Prop),
      (∀ φ' I' a' w', a'.defers = a.defers → RepS φ' (appRd rd c d) w' I' ts' a'.tmps → Sim φ' I' (appRd rd c d) w' → Ext φ I rd w φ' I' (appRd rd c d) w' → Kp a' w') → StepWp P ops o a w Kp Q) := by
    intro p ts1 hp hs1 hw h
    rcases hp with hp | rfl
    · obtain ⟨v, d, h1, h2⟩ := evOp_sound hF hs1 sm hp h
      refine ⟨_, d, _, h1, fun hu Kp Q hk => ?_⟩
      unfold StepWp
      rw [if_pos hw]
      exact h2 hu Kp Q fun φ' I' v w' k1 k2 k3 => hk φ' I' _ w' (hput v) (putS_rep (a := a) (show RepS φ' (appRd rd c d) w' I' ts1 a.tmps from ⟨hs1.1, fun i x v hx hv => (hs1.2 i x v hx hv).ext k3 sm⟩) o.dst k1) k2 k3
    · simp [evOp] at h
  have skip : ∀ {ts1 : List AV}, RepS φ rd w I ts1 a.tmps → Region.wanted o (yielded ops a.tmps) = false → K (putS ts1 o.dst .undef) .none ([], []) = some r → ∃ ts' d fp, K ts' d fp = some r ∧ ((∀ y, c ≤ y → y < c + d.nw.length → rd y = .unborn) → ∀ (Kp : Act → World → Prop) (Q : Exit → Act → World → Prop),
      (∀ φ' I' a' w', a'.defers = a.defers → RepS φ' (appRd rd c d) w' I' ts' a'.tmps → Sim φ' I' (appRd rd c d) w' → Ext φ I rd w φ' I' (appRd rd c d) w' → Kp a' w') → StepWp P ops o a w Kp Q) := by
    intro ts1 hs1 hw h
    refine ⟨_, _, _, h, fun _ Kp Q hk => ?_⟩
    unfold StepWp
    rw [hw, if_neg (by simp)]
    rw [appRd_none] at hk
    exact hk φ I _ w (hput undef) (putS_rep hs1 o.dst .undef) sm (.refl _ _ _ _)
  unfold compOper at hc
  have hcp : ∃ p, (compOp P rs o = some p ∨ p = .fail) ∧ (match o.guard with
      | none => some (⟨o.dst, none, p⟩ : IOper)
      | some (j, b) => match ops[j]? with
        | some q => match q.dst with
          | some d => some ⟨o.dst, some (d, b), p⟩
          | none => none
        | none => none) = some o' := by
    cases hp : compOp P rs o with
    | some p => simp only [hp] at hc; exact ⟨p, .inl rfl, hc⟩
    | none => simp only [hp] at hc; exact ⟨.fail, .inr rfl, hc⟩
  obtain ⟨p, hp, hc⟩ := hcp
  unfold operV at h
  split at hc
  · rename_i hg
    cases hc
    exact run hp hs (by simp [Region.wanted, hg]) h
  · rename_i j want hg
    split at hc
    · rename_i q hq
      split at hc
      · rename_i d hd
        cases hc
        simp only at h
        split at h
        · rename_i b hb
          have hy := yielded_bool hs hq hd hb
          have hs1 := setB_rep hs hb
          cases b <;> cases want <;> simp only [cond_true, cond_false] at h
          · exact run hp hs1 (by simp [Region.wanted, hg, hy]) h
          · exact skip hs1 (by simp [Region.wanted, hg, hy]) h
          · exact skip hs1 (by simp [Region.wanted, hg, hy]) h
          · exact run hp hs1 (by simp [Region.wanted, hg, hy]) h
        · rename_i hb
          have hy := yielded_undef hs hq hd hb
          exact skip hs (by simp [Region.wanted, hg, hy]) h
        · cases h
      · cases hc
    · cases hc

/-- A state of the reckoning tells one of the model. -/
structure StOk (φ : Phi) (I : Nat → Prop) (st : St) (a : Act) (w : World) : Prop where
  reps : RepS φ (rdH st.H) w I st.ts a.tmps
  sim : Sim φ I (rdH st.H) w
  defers : a.defers = []

theorem evOps_sound (hF : FnsOk P F) {rs : List Nat} {ops : Array Oper} {Q : Exit → Act → World → Prop} {K : St → Option α} : ∀ (l : List Oper) (l' : List IOper) (st : St) (φ : Phi) (I : Nat → Prop) (a : Act) (w : World),
    mapO (compOper P rs ops) l = some l' → evOps F l' st K = some r → StOk φ I st a w →
    (∀ st' φ' I' a' w', K st' = some r → StOk φ' I' st' a' w' → Ext φ I (rdH st.H) w φ' I' (rdH st'.H) w' → Q .normal a' w') → wpList P ops Q l a w
  | [], l', st, φ, I, a, w, hl, h, ok, hQ => by
    simp [mapO] at hl; subst hl
    exact hQ st φ I a w h ok (.refl _ _ _ _)
  | o :: l, l', st, φ, I, a, w, hl, h, ok, hQ => by
    simp only [mapO] at hl
    split at hl
    · rename_i o' ho
      split at hl
      · rename_i r' hr'
        cases hl
        simp only [evOps] at h
        unfold evOper at h
        obtain ⟨ts', d, _, h1, h2⟩ := operV_sound hF ok.reps ok.sim ho h
        obtain ⟨hb, h1⟩ := bif_some h1
        refine wpList_step fun Kp hKp => ?_
        refine h2 (fun y hy _ => rdH_unborn _ _ hy) Kp Q fun φ' I' a' w' k1 k2 k3 k4 => hKp a' w' ?_
        have e := rdH_to d st.H (belowN_spec hb)
        rw [← e] at k2 k3 k4
        exact evOps_sound hF l r' ⟨ts', d.to st.H⟩ φ' I' a' w' hr' h1 ⟨k2, k3, k1.trans ok.defers⟩ fun st'' φ'' I'' a'' w'' m1 m2 m3 => hQ st'' φ'' I'' a'' w'' m1 m2 (k4.trans m3)
      · cases hl
    · cases hl

end

end Go.Proofs.Bw
end

/-
  THE ABSTRACT WALK, 24: what comes behind an operation is handed one value, whatever it is.
-/
section
namespace Go.Proofs.Bw

section
variable {α : Type} {r : α}

theorem asI_par {v : AV} {K : IntKind → Int → Option α} (h : asI v K = some r) : ∃ k n, K k n = some r ∧ ∀ {β : Type} (K' : IntKind → Int → Option β), asI v K' = K' k n := by
  obtain ⟨k, n, rfl, h⟩ := asI_some h
  exact ⟨k, n, h, fun K' => rfl⟩

theorem asB_par {v : AV} {K : Bool → Option α} (h : asB v K = some r) : ∃ b, K b = some r ∧ ∀ {β : Type} (K' : Bool → Option β), asB v K' = K' b := by
  obtain ⟨b, rfl, h⟩ := asB_some h
  exact ⟨b, h, fun K' => rfl⟩

theorem cellsBy_par {s : Sh} {v : AV} {K : List AV → Option α} (h : cellsBy s v K = some r) : ∃ l, K l = some r ∧ ∀ {β : Type} (K' : List AV → Option β), cellsBy s v K' = K' l := by
  unfold cellsBy at h
  split at h
  · split at h
    · obtain ⟨hb, h⟩ := bif_some h; exact ⟨_, h, fun K' => by simp only [cellsBy, hb, cond_true]⟩
    · obtain ⟨hb, h⟩ := bif_some h; exact ⟨_, h, fun K' => by simp only [cellsBy, hb, cond_true]⟩
    · cases h
  · rename_i hn
    obtain ⟨hb, h⟩ := bif_some h
    refine ⟨_, h, fun K' => ?_⟩
    cases s <;> first | exact absurd rfl (hn _) | (simp only [cellsBy, hb, cond_true])

theorem loadBy_par {s : Sh} {j : Nat} {cs : List AV} {K : AV → Option α} (h : loadBy s j cs K = some r) : ∃ v, K v = some r ∧ ∀ {β : Type} (K' : AV → Option β), loadBy s j cs K' = K' v := by
  unfold loadBy at h
  split at h
  · obtain ⟨hb, h⟩ := bif_some h; exact ⟨_, h, fun K' => by simp only [loadBy, hb, cond_true]⟩
  · rename_i hn
    split at h
    · rename_i hq
      obtain ⟨hb, h⟩ := bif_some h
      refine ⟨_, h, fun K' => ?_⟩
      unfold loadBy
      split
      · exact absurd rfl (hn _)
      · rw [hq]; simp only [hb, cond_true]
    · rename_i hnt hq
      obtain ⟨hb, h⟩ := bif_some h
      refine ⟨_, h, fun K' => ?_⟩
      unfold loadBy
      split
      · exact absurd rfl (hn _)
      · rw [hq]; simp only [hb, cond_true]
    · cases h

theorem elemOf_par {o : HObj} {i : Nat} {K : AV → Option α} (h : elemOf o i K = some r) : ∃ v, K v = some r ∧ ∀ {β : Type} (K' : AV → Option β), elemOf o i K' = K' v := by
  unfold elemOf at h
  split at h
  · cases h
  · cases h
  · rename_i s es
    cases hq : nth es i with
    | none => simp [hq] at h
    | some e => simp only [hq, Option.bind_some] at h; exact ⟨_, h, fun K' => by simp only [elemOf, hq, Option.bind_some]⟩
  all_goals
    rename_i s es
    cases hq : nth es i with
    | none => simp [hq] at h
    | some e =>
      simp only [hq, Option.bind_some] at h
      obtain ⟨hb, h⟩ := bif_some h
      exact ⟨_, h, fun K' => by simp only [elemOf, hq, Option.bind_some, hb, cond_true]⟩

theorem storeTo_par {o : HObj} {i j : Nat} {new : List AV} {K : HObj → Option α} (h : storeTo o i j new K = some r) : ∃ v, K v = some r ∧ ∀ {β : Type} (K' : HObj → Option β), storeTo o i j new K' = K' v := by
  unfold storeTo at h
  split at h
  · rename_i s es
    cases hq : nth es i with
    | none => simp [hq] at h
    | some e =>
      simp only [hq, Option.bind_some] at h
      obtain ⟨hb, h⟩ := bif_some h
      split at h
      · obtain ⟨hb2, h⟩ := bif_some h
        exact ⟨_, h, fun K' => by simp only [storeTo, hq, Option.bind_some, hb, hb2, cond_true]⟩
      · rename_i hn
        split at h
        · refine ⟨_, h, fun K' => ?_⟩
          simp only [storeTo, hq, Option.bind_some, hb, cond_true]
        · cases h
  · rename_i s es
    cases hq : nth es i with
    | none => simp [hq] at h
    | some e =>
      simp only [hq, Option.bind_some] at h
      split at h
      · obtain ⟨hb2, h⟩ := bif_some h
        exact ⟨_, h, fun K' => by simp only [storeTo, hq, Option.bind_some, hb2, cond_true]⟩
      · split at h
        · refine ⟨_, h, fun K' => ?_⟩
          simp only [storeTo, hq, Option.bind_some]
        · cases h
  · cases h

theorem elsOf_par {s : Sh} {rd : Rd} {v : AV} {K : Els → Option α} (h : elsOf s rd v K = some r) : ∃ l, K l = some r ∧ ∀ {β : Type} (K' : Els → Option β), elsOf s rd v K' = K' l := by
  unfold elsOf at h
  split at h
  · obtain ⟨hb, h⟩ := bif_some h; exact ⟨_, h, fun K' => by simp only [elsOf, hb, cond_true]⟩
  · exact ⟨_, h, fun K' => rfl⟩
  · obtain ⟨hb, h⟩ := bif_some h; exact ⟨_, h, fun K' => by simp only [elsOf, hb, cond_true]⟩
  · split at h
    · rename_i hq
      obtain ⟨hb, h⟩ := bif_some h
      exact ⟨_, h, fun K' => by simp only [elsOf, hq, hb, cond_true]⟩
    · cases h
  · split at h
    · rename_i hq
      obtain ⟨hb, h⟩ := bif_some h
      exact ⟨_, h, fun K' => by simp only [elsOf, hq, hb, cond_true]⟩
    · cases h
  · cases h

theorem lenOf_par {rd : Rd} {v : AV} {K : Nat → Option α} (h : lenOf rd v K = some r) : ∃ l, K l = some r ∧ ∀ {β : Type} (K' : Nat → Option β), lenOf rd v K' = K' l := by
  unfold lenOf at h
  split at h
  · exact ⟨_, h, fun K' => rfl⟩
  · exact ⟨_, h, fun K' => rfl⟩
  · exact ⟨_, h, fun K' => rfl⟩
  · split at h
    · rename_i hq; exact ⟨_, h, fun K' => by simp only [lenOf, hq]⟩
    · cases h
  · split at h
    · rename_i hq; exact ⟨_, h, fun K' => by simp only [lenOf, hq]⟩
    · cases h
  · cases h

theorem optI_par {ts : List AV} {o : Option Opd} {d : Int} {K : Int → Option α} (h : optI ts o d K = some r) : ∃ n, K n = some r ∧ ∀ {β : Type} (K' : Int → Option β), optI ts o d K' = K' n := by
  unfold optI at h
  split at h
  · exact ⟨_, h, fun K' => rfl⟩
  · obtain ⟨k, n, h, e⟩ := asI_par h
    exact ⟨n, h, fun K' => e _⟩

theorem fills_par {ts : List AV} : ∀ {ps : List (Nat × Sh × Opd)} {cs : List AV} {K : List AV → Option α}, fills ts cs ps K = some r → ∃ l, K l = some r ∧ ∀ {β : Type} (K' : List AV → Option β), fills ts cs ps K' = K' l
  | [], cs, K, h => ⟨_, h, fun K' => rfl⟩
  | (off, s, x) :: ps, cs, K, h => by
    simp only [fills] at h
    obtain ⟨l, h, e1⟩ := cellsBy_par h
    obtain ⟨hb, h⟩ := bif_some h
    obtain ⟨l2, h, e2⟩ := fills_par h
    exact ⟨l2, h, fun K' => by simp only [fills, e1, hb, cond_true, e2]⟩

theorem elemFills_par {ts : List AV} {s : Sh} : ∀ {ps : List (Nat × Opd)} {cs : List AV} {K : List AV → Option α}, elemFills ts s cs ps K = some r → ∃ l, K l = some r ∧ ∀ {β : Type} (K' : List AV → Option β), elemFills ts s cs ps K' = K' l
  | [], cs, K, h => ⟨_, h, fun K' => rfl⟩
  | (i, x) :: ps, cs, K, h => by
    simp only [elemFills] at h
    obtain ⟨l, h, e1⟩ := cellsBy_par h
    obtain ⟨hb, h⟩ := bif_some h
    obtain ⟨l2, h, e2⟩ := elemFills_par h
    exact ⟨l2, h, fun K' => by simp only [elemFills, e1, hb, cond_true, e2]⟩

theorem intOp_par {o : BinOp} {k : IntKind} {a b : Int} {K : AV → Option α} (h : intOp o k a b K = some r) : ∃ v, K v = some r ∧ ∀ {β : Type} (K' : AV → Option β), intOp o k a b K' = K' v := by
  unfold intOp at h
  split at h <;> first | exact ⟨_, h, fun K' => rfl⟩ | (obtain ⟨hb, h⟩ := bif_none h; exact ⟨_, h, fun K' => by simp only [intOp, hb, cond_false]⟩) | cases h

theorem shiftOp_par {o : BinOp} {k : IntKind} {a b : Int} {K : AV → Option α} (h : shiftOp o k a b K = some r) : ∃ v, K v = some r ∧ ∀ {β : Type} (K' : AV → Option β), shiftOp o k a b K' = K' v := by
  unfold shiftOp at h
  obtain ⟨hb, h⟩ := bif_none h
  split at h <;> first | exact ⟨_, h, fun K' => by simp only [shiftOp, hb, cond_false]⟩ | cases h

theorem strOp_par {o : BinOp} {a b : List UInt8} {K : AV → Option α} (h : strOp o a b K = some r) : ∃ v, K v = some r ∧ ∀ {β : Type} (K' : AV → Option β), strOp o a b K' = K' v := by
  unfold strOp at h
  split at h <;> first | exact ⟨_, h, fun K' => rfl⟩ | (obtain ⟨hb, h⟩ := bif_some h; exact ⟨_, h, fun K' => by simp only [strOp, hb, cond_true]⟩) | cases h

theorem binA_par {o : BinOp} {x y : AV} {K : AV → Option α} (h : binA o x y K = some r) : ∃ v, K v = some r ∧ ∀ {β : Type} (K' : AV → Option β), binA o x y K' = K' v := by
  unfold binA at h
  split at h
  · split at h
    · obtain ⟨v, h, e⟩ := shiftOp_par h; exact ⟨v, h, fun K' => by simp only [binA]; exact e K'⟩
    · obtain ⟨v, h, e⟩ := shiftOp_par h; exact ⟨v, h, fun K' => by simp only [binA]; exact e K'⟩
    · rename_i n1 n2
      obtain ⟨hb, h⟩ := bif_some h
      obtain ⟨v, h, e⟩ := intOp_par h
      refine ⟨v, h, fun K' => ?_⟩
      cases o <;> first | exact absurd rfl n1 | exact absurd rfl n2 | (simp only [binA, hb, cond_true]; exact e K')
  · obtain ⟨v, h, e⟩ := strOp_par h; exact ⟨v, h, fun K' => by simp only [binA]; exact e K'⟩
  · cases h

theorem unA_par {o : UnOp} {x : AV} {K : AV → Option α} (h : unA o x K = some r) : ∃ v, K v = some r ∧ ∀ {β : Type} (K' : AV → Option β), unA o x K' = K' v := by
  unfold unA at h
  split at h <;> first | exact ⟨_, h, fun K' => rfl⟩ | cases h

/-- A way of going on that is handed one value. -/
def Par (f : ∀ {β : Type}, (AV → Delta → Option β) → Option β) : Prop := ∀ {α : Type} {r : α} {K : AV → Delta → Option α}, f K = some r → ∃ v d, K v d = some r ∧ ∀ {β : Type} (K' : AV → Delta → Option β), f K' = K' v d

theorem callO_par {F : Fns} {g : Nat} {l : List Sh} {args : List AV} {c : Nat} {K : AV → Delta → Option α} (h : callO F g l args c K = some r) :
    ∃ v d, K v d = some r ∧ ∀ {β : Type} (K' : AV → Delta → Option β), callO F g l args c K' = K' v d := by
  unfold callO at h
  obtain ⟨hok, h⟩ := bif_some h
  cases hp : F.rf g args [] with
  | none => simp [hp] at h
  | some p =>
    simp only [hp, Option.bind_some] at h
    cases hb : rowForm (.agg l) p.2 l (aggCs p.1) with
    | true =>
      rw [hb, cond_true] at h
      exact ⟨_, _, h, fun K' => by simp only [callO, hok, cond_true, hp, Option.bind_some, hb, cond_true]⟩
    | false =>
      rw [hb, cond_false] at h
      obtain ⟨hb2, h⟩ := bif_some h
      exact ⟨_, _, h, fun K' => by simp only [callO, hok, cond_true, hp, Option.bind_some, hb, cond_false, hb2, cond_true]⟩

theorem callC_par {F : Fns} {g : Nat} {args : List AV} {c : Nat} {K : AV → Delta → Option α} (h : callC F g args c K = some r) :
    ∃ v d, K v d = some r ∧ ∀ {β : Type} (K' : AV → Delta → Option β), callC F g args c K' = K' v d := by
  unfold callC at h
  obtain ⟨hok, h⟩ := bif_some h
  cases hp : F.rf g args [] with
  | none => simp [hp] at h
  | some p =>
    simp only [hp, Option.bind_some] at h
    cases hb : isClip p.1 with
    | true =>
      rw [hb, cond_true] at h
      exact ⟨_, _, h, fun K' => by simp only [callC, hok, cond_true, hp, Option.bind_some, hb, cond_true]⟩
    | false =>
      rw [hb, cond_false] at h
      unfold callR.backTo at h
      obtain ⟨hb2, h⟩ := bif_some h
      exact ⟨_, _, h, fun K' => by simp only [callC, hok, cond_true, hp, Option.bind_some, hb, cond_false, callR.backTo, hb2, cond_true]⟩

theorem callA_par {F : Fns} {md : Bool} {g : Nat} {s : Sh} {args : List AV} {rd : Rd} {c : Nat} {K : AV → Delta → Option α} (h : callA F md g s args rd c K = some r) :
    ∃ v d, K v d = some r ∧ ∀ {β : Type} (K' : AV → Delta → Option β), callA F md g s args rd c K' = K' v d := by
  unfold callA at h
  cases md with
  | true =>
    simp only at h
    split at h
    · rename_i xs l hxs
      obtain ⟨v, d, h, e⟩ := callO_par h
      exact ⟨v, d, h, fun K' => by simp only [callA, hxs]; exact e K'⟩
    · rename_i xs hxs
      obtain ⟨v, d, h, e⟩ := callC_par h
      exact ⟨v, d, h, fun K' => by simp only [callA, hxs]; exact e K'⟩
    · rename_i hno hno2
      unfold callR at h
      obtain ⟨hb, h⟩ := bif_some h
      cases hp : F.rf g (AV.renL (idxN (discover rd 4096 (AV.refsL args) [])) args) (objs rd (idxN (discover rd 4096 (AV.refsL args) [])) (discover rd 4096 (AV.refsL args) [])) with
      | none => simp [hp] at h
      | some p =>
        simp only [hp, Option.bind_some] at h
        unfold callR.backTo at h
        obtain ⟨hb2, h⟩ := bif_some h
        refine ⟨_, _, h, fun K' => ?_⟩
        unfold callA
        first
        | (simp only [callR, hb, cond_true, hp, Option.bind_some, callR.backTo, hb2]; done)
        | (split
           · rename_i xs l hxs
             exact absurd rfl (hno xs l hxs)
           · rename_i xs hxs
             exact absurd rfl (hno2 xs hxs)
           · simp only [callR, hb, cond_true, hp, Option.bind_some, callR.backTo, hb2])
  | false =>
    simp only at h
    split at h
    · rename_i xs hxs
      cases hp : F.pf g xs with
      | none => simp [hp] at h
      | some y =>
        simp only [hp, Option.bind_some] at h
        obtain ⟨hb, h⟩ := bif_some h
        exact ⟨_, _, h, fun K' => by simp only [callA, hxs, hp, Option.bind_some, hb, cond_true]⟩
    · rename_i hxs
      split at h
      · cases h
      · rename_i wr hwr
        split at h
        · cases h
        · rename_i xs hm
          cases hp : F.pf g xs with
          | none => simp [hp] at h
          | some y =>
            simp only [hp, Option.bind_some] at h
            obtain ⟨hb, h⟩ := bif_some h
            exact ⟨_, _, h, fun K' => by simp only [callA, hxs, hwr, hm, hp, Option.bind_some, hb, cond_true]⟩

theorem callV_par {F : Fns} {x : AV} {s : Sh} {args : List AV} {rd : Rd} {c : Nat} {K : AV → Delta → Option α} (h : callV F x s args rd c K = some r) :
    ∃ v d, K v d = some r ∧ ∀ {β : Type} (K' : AV → Delta → Option β), callV F x s args rd c K' = K' v d := by
  unfold callV at h
  split at h
  · rename_i y
    split at h
    · rename_i xs hxs
      cases hp : callT F y xs with
      | none => simp [hp] at h
      | some z =>
        simp only [hp, Option.bind_some] at h
        obtain ⟨hb, h⟩ := bif_some h
        exact ⟨_, _, h, fun K' => by simp only [callV, hxs, hp, Option.bind_some, hb, cond_true]⟩
    · rename_i hxs
      split at h
      · obtain ⟨v, d, h, e⟩ := callA_par h
        exact ⟨v, d, h, fun K' => by simp only [callV, hxs]; exact e K'⟩
      · cases h
  · obtain ⟨v, d, h, e⟩ := callA_par h
    exact ⟨v, d, h, fun K' => by simp only [callV]; exact e K'⟩
  · cases h

end

end Go.Proofs.Bw
end

/-
  THE ABSTRACT WALK, 25: the same, of each operation; and what it looks at.
-/
section
namespace Go.Proofs.Bw

theorem evOp_par {F : Fns} {p : IOp} {ts : List AV} {rd : Rd} {c : Nat} {α : Type} {r : α} {K : AV → Delta → Option α} (h : evOp F p ts rd c K = some r) :
    ∃ v d, K v d = some r ∧ ∀ {β : Type} (K' : AV → Delta → Option β), evOp F p ts rd c K' = K' v d := by
  cases p with
  | mov x => exact ⟨_, _, h, fun K' => rfl⟩
  | nonnil x =>
    simp only [evOp] at h
    split at h
    · rename_i e; exact ⟨_, _, h, fun K' => by simp only [evOp, e]⟩
    · rename_i e; exact ⟨_, _, h, fun K' => by simp only [evOp, e]⟩
    · cases h
  | pick x a b =>
    simp only [evOp] at h
    obtain ⟨t, h, e⟩ := asB_par h
    cases t with
    | true => exact ⟨_, _, h, fun K' => by simp only [evOp, e, cond_true]⟩
    | false => exact ⟨_, _, h, fun K' => by simp only [evOp, e, cond_false]⟩
  | new s z =>
    simp only [evOp] at h
    obtain ⟨l, h, e⟩ := cellsBy_par h
    exact ⟨_, _, h, fun K' => by simp only [evOp, e]⟩
  | box s x =>
    simp only [evOp] at h
    obtain ⟨l, h, e⟩ := cellsBy_par h
    exact ⟨_, _, h, fun K' => by simp only [evOp, e]⟩
  | build z ps =>
    simp only [evOp] at h
    obtain ⟨l, h, e⟩ := fills_par h
    exact ⟨_, _, h, fun K' => by simp only [evOp, e]⟩
  | bsl s z n ps =>
    simp only [evOp] at h
    obtain ⟨l, h, e⟩ := cellsBy_par h
    obtain ⟨l2, h, e2⟩ := elemFills_par h
    exact ⟨_, _, h, fun K' => by simp only [evOp, e, e2]⟩
  | ld s x =>
    simp only [evOp] at h
    split at h
    · rename_i q
      obtain ⟨l, h, e⟩ := elemOf_par h
      obtain ⟨l2, h, e2⟩ := loadBy_par h
      exact ⟨_, _, h, fun K' => by simp only [evOp, q, e, e2]⟩
    · rename_i q
      obtain ⟨l2, h, e2⟩ := loadBy_par h
      exact ⟨_, _, h, fun K' => by simp only [evOp, q, e2]⟩
    · cases h
  | st s x v =>
    simp only [evOp] at h
    split at h
    · rename_i q
      obtain ⟨l, h, e⟩ := cellsBy_par h
      obtain ⟨l2, h, e2⟩ := storeTo_par h
      exact ⟨_, _, h, fun K' => by simp only [evOp, q, e, e2]⟩
    · cases h
  | bin o x y =>
    simp only [evOp] at h
    obtain ⟨l, h, e⟩ := binA_par h
    exact ⟨_, _, h, fun K' => by simp only [evOp, e]⟩
  | eqs neq q x y =>
    simp only [evOp] at h
    split at h
    · rename_i b hb
      cases neq with
      | true => exact ⟨_, _, h, fun K' => by simp only [evOp, hb]⟩
      | false => exact ⟨_, _, h, fun K' => by simp only [evOp, hb]⟩
    · cases h
  | un o x =>
    simp only [evOp] at h
    obtain ⟨l, h, e⟩ := unA_par h
    exact ⟨_, _, h, fun K' => by simp only [evOp, e]⟩
  | conv k x =>
    simp only [evOp] at h
    obtain ⟨k', n, h, e⟩ := asI_par h
    exact ⟨_, _, h, fun K' => by simp only [evOp, e]⟩
  | mkf g a b =>
    simp only [evOp] at h
    split at h
    · rename_i q1 q2; exact ⟨_, _, h, fun K' => by simp only [evOp, q1, q2]⟩
    · rename_i hn
      refine ⟨_, _, h, fun K' => ?_⟩
      simp only [evOp]
  | mks s bytes z l m =>
    simp only [evOp] at h
    obtain ⟨l1, h, e1⟩ := cellsBy_par h
    obtain ⟨k2, n2, h, e2⟩ := asI_par h
    obtain ⟨k3, n3, h, e3⟩ := asI_par h
    obtain ⟨hb, h⟩ := bif_some h
    exact ⟨_, _, h, fun K' => by simp only [evOp, e1, e2, e3, hb, cond_true]⟩
  | sub s x lo hi mx =>
    cases mx with
    | none =>
      simp only [evOp] at h
      obtain ⟨n, h, e1⟩ := lenOf_par h
      obtain ⟨l, h, e2⟩ := optI_par h
      obtain ⟨u, h, e3⟩ := optI_par h
      obtain ⟨hb, h⟩ := bif_some h
      split at h
      · rename_i q; obtain ⟨hb2, h⟩ := bif_some h; exact ⟨_, _, h, fun K' => by simp only [evOp, e1, e2, e3, hb, cond_true]; simp only [q, hb2, cond_true]⟩
      · rename_i q; obtain ⟨hb2, h⟩ := bif_some h; exact ⟨_, _, h, fun K' => by simp only [evOp, e1, e2, e3, hb, cond_true]; simp only [q, hb2, cond_true]⟩
      · rename_i q; exact ⟨_, _, h, fun K' => by simp only [evOp, e1, e2, e3, hb, cond_true]; simp only [q]⟩
      · rename_i q; obtain ⟨hb2, h⟩ := bif_some h; exact ⟨_, _, h, fun K' => by simp only [evOp, e1, e2, e3, hb, cond_true]; simp only [q, hb2, cond_true]⟩
      · rename_i q; obtain ⟨hb2, h⟩ := bif_some h; exact ⟨_, _, h, fun K' => by simp only [evOp, e1, e2, e3, hb, cond_true]; simp only [q, hb2, cond_true]⟩
      · cases h
    | some mx =>
      simp only [evOp] at h
      obtain ⟨n, h, e1⟩ := lenOf_par h
      obtain ⟨l, h, e2⟩ := optI_par h
      obtain ⟨u, h, e3⟩ := optI_par h
      obtain ⟨k4, m, h, e4⟩ := asI_par h
      obtain ⟨hb, h⟩ := bif_some h
      split at h
      · rename_i q; obtain ⟨hb2, h⟩ := bif_some h; exact ⟨_, _, h, fun K' => by simp only [evOp, e1, e2, e3, e4, hb, cond_true]; simp only [q, hb2, cond_true]⟩
      · rename_i q; obtain ⟨hb2, h⟩ := bif_some h; exact ⟨_, _, h, fun K' => by simp only [evOp, e1, e2, e3, e4, hb, cond_true]; simp only [q, hb2, cond_true]⟩
      · rename_i q; exact ⟨_, _, h, fun K' => by simp only [evOp, e1, e2, e3, e4, hb, cond_true]; simp only [q]⟩
      · cases h
  | subs x lo hi =>
    simp only [evOp] at h
    split at h
    · rename_i q
      obtain ⟨l, h, e2⟩ := optI_par h
      obtain ⟨u, h, e3⟩ := optI_par h
      obtain ⟨hb, h⟩ := bif_some h
      exact ⟨_, _, h, fun K' => by simp only [evOp, q, e2, e3, hb, cond_true]⟩
    · cases h
  | fa off x =>
    simp only [evOp] at h
    split at h
    · rename_i q; exact ⟨_, _, h, fun K' => by simp only [evOp, q]⟩
    · rename_i q; exact ⟨_, _, h, fun K' => by simp only [evOp, q]⟩
    · cases h
  | fld off s x =>
    simp only [evOp] at h
    split at h
    · rename_i q; obtain ⟨l, h, e⟩ := loadBy_par h; exact ⟨_, _, h, fun K' => by simp only [evOp, q, e]⟩
    · rename_i q; obtain ⟨l, h, e⟩ := loadBy_par h; exact ⟨_, _, h, fun K' => by simp only [evOp, q, e]⟩
    · cases h
  | ia s x i =>
    simp only [evOp] at h
    obtain ⟨k, n, h, e1⟩ := asI_par h
    split at h
    · rename_i es q
      obtain ⟨hb, h⟩ := bif_some h
      cases hq : nth es n.toNat with
      | none => simp [hq] at h
      | some e =>
        simp only [hq, Option.bind_some] at h
        obtain ⟨hb2, h⟩ := bif_some h
        exact ⟨_, _, h, fun K' => by simp only [evOp, e1, q, hb, cond_true, hq, Option.bind_some, hb2]⟩
    · rename_i es q
      obtain ⟨hb, h⟩ := bif_some h
      cases hq : nth es n.toNat with
      | none => simp [hq] at h
      | some e =>
        simp only [hq, Option.bind_some] at h
        obtain ⟨hb2, h⟩ := bif_some h
        exact ⟨_, _, h, fun K' => by simp only [evOp, e1, q, hb, cond_true, hq, Option.bind_some, hb2]⟩
    · rename_i q
      split at h
      · rename_i hq
        obtain ⟨hb, h⟩ := bif_some h
        exact ⟨_, _, h, fun K' => by simp only [evOp, e1, q, hq, hb, cond_true]⟩
      · cases h
    · rename_i q
      split at h
      · rename_i hq
        obtain ⟨hb, h⟩ := bif_some h
        exact ⟨_, _, h, fun K' => by simp only [evOp, e1, q, hq, hb, cond_true]⟩
      · cases h
    · cases h
  | iaa s n x i =>
    simp only [evOp] at h
    obtain ⟨k, m, h, e1⟩ := asI_par h
    obtain ⟨hb, h⟩ := bif_some h
    split at h
    · rename_i q; exact ⟨_, _, h, fun K' => by simp only [evOp, e1, hb, cond_true, q]⟩
    · rename_i q; exact ⟨_, _, h, fun K' => by simp only [evOp, e1, hb, cond_true, q]⟩
    · cases h
  | ixa s n x i =>
    simp only [evOp] at h
    obtain ⟨k, m, h, e1⟩ := asI_par h
    obtain ⟨hb, h⟩ := bif_some h
    split at h
    · rename_i q; obtain ⟨l, h, e⟩ := loadBy_par h; exact ⟨_, _, h, fun K' => by simp only [evOp, e1, hb, cond_true, q, e]⟩
    · rename_i q; obtain ⟨l, h, e⟩ := loadBy_par h; exact ⟨_, _, h, fun K' => by simp only [evOp, e1, hb, cond_true, q, e]⟩
    · cases h
  | ixs x i =>
    simp only [evOp] at h
    obtain ⟨k, m, h, e1⟩ := asI_par h
    split at h
    · rename_i s q
      obtain ⟨hb, h⟩ := bif_some h
      cases hq : nth s m.toNat with
      | none => simp [hq] at h
      | some e =>
        simp only [hq, Option.bind_some] at h
        exact ⟨_, _, h, fun K' => by simp only [evOp, e1, q, hb, cond_true, hq, Option.bind_some]⟩
    · cases h
  | ext n x =>
    simp only [evOp] at h
    split at h
    · rename_i l q
      cases hq : nth l n with
      | none => simp [hq] at h
      | some e =>
        simp only [hq, Option.bind_some] at h
        exact ⟨_, _, h, fun K' => by simp only [evOp, q, hq, Option.bind_some]⟩
    · rename_i l q
      cases hq : nth l n with
      | none => simp [hq] at h
      | some e =>
        simp only [hq, Option.bind_some] at h
        exact ⟨_, _, h, fun K' => by simp only [evOp, q, hq, Option.bind_some]⟩
    · cases h
  | call md g s args => exact callA_par h
  | callv x s args => exact callV_par h
  | len x =>
    simp only [evOp] at h
    obtain ⟨n, h, e⟩ := lenOf_par h
    exact ⟨_, _, h, fun K' => by simp only [evOp, e]⟩
  | lens x =>
    simp only [evOp] at h
    split at h
    · rename_i q; exact ⟨_, _, h, fun K' => by simp only [evOp, q]⟩
    · cases h
  | cap x =>
    simp only [evOp] at h
    split at h
    · rename_i q; exact ⟨_, _, h, fun K' => by simp only [evOp, q]⟩
    · rename_i q; exact ⟨_, _, h, fun K' => by simp only [evOp, q]⟩
    · rename_i q
      split at h
      · rename_i hq; exact ⟨_, _, h, fun K' => by simp only [evOp, q, hq]⟩
      · cases h
    · cases h
  | mn x y =>
    simp only [evOp] at h
    obtain ⟨k, n, h, e1⟩ := asI_par h
    obtain ⟨k2, m, h, e2⟩ := asI_par h
    exact ⟨_, _, h, fun K' => by simp only [evOp, e1, e2]⟩
  | mx x y =>
    simp only [evOp] at h
    obtain ⟨k, n, h, e1⟩ := asI_par h
    obtain ⟨k2, m, h, e2⟩ := asI_par h
    exact ⟨_, _, h, fun K' => by simp only [evOp, e1, e2]⟩
  | app s bytes x y =>
    simp only [evOp] at h
    obtain ⟨l, h, e⟩ := elsOf_par h
    unfold evOp.appTo at h
    split at h
    · rename_i q; obtain ⟨hb, h⟩ := bif_some h; exact ⟨_, _, h, fun K' => by simp only [evOp, e]; simp only [evOp.appTo, q, hb, cond_true]⟩
    · rename_i q; obtain ⟨hb, h⟩ := bif_some h; exact ⟨_, _, h, fun K' => by simp only [evOp, e]; simp only [evOp.appTo, q, hb, cond_true]⟩
    · rename_i q
      split at h
      · rename_i hq; obtain ⟨hb, h⟩ := bif_some h; exact ⟨_, _, h, fun K' => by simp only [evOp, e]; simp only [evOp.appTo, q, hq, hb, cond_true]⟩
      · rename_i hq; obtain ⟨hb, h⟩ := bif_some h; exact ⟨_, _, h, fun K' => by simp only [evOp, e]; simp only [evOp.appTo, q, hq, hb, cond_true]⟩
      · cases h
    · rename_i q
      split at h
      · rename_i hq; obtain ⟨hb, h⟩ := bif_some h; exact ⟨_, _, h, fun K' => by simp only [evOp, e]; simp only [evOp.appTo, q, hq, hb, cond_true]⟩
      · rename_i hq; obtain ⟨hb, h⟩ := bif_some h; exact ⟨_, _, h, fun K' => by simp only [evOp, e]; simp only [evOp.appTo, q, hq, hb, cond_true]⟩
      · cases h
    · cases h
  | appz s bytes z x n =>
    simp only [evOp] at h
    obtain ⟨l, h, e⟩ := cellsBy_par h
    obtain ⟨k, n, h, e1⟩ := asI_par h
    obtain ⟨hb, h⟩ := bif_some h
    split at h
    · rename_i q; exact ⟨_, _, h, fun K' => by simp only [evOp, e, e1, hb, cond_true, q]⟩
    · cases h
  | copy s x y => simp [evOp] at h
  | clr s z x =>
    simp only [evOp] at h
    obtain ⟨l, h, e⟩ := cellsBy_par h
    obtain ⟨n, h, e1⟩ := lenOf_par h
    cases hn : Nat.beq n 0 with
    | true => rw [hn, cond_true] at h; exact ⟨_, _, h, fun K' => by simp only [evOp, e, e1, hn, cond_true]⟩
    | false =>
      rw [hn, cond_false] at h
      split at h
      · rename_i q
        unfold evOp.clrTo at h
        split at h
        · rename_i hq
          obtain ⟨hb, h⟩ := bif_some h
          unfold evOp.wipe at h
          obtain ⟨hb2, h⟩ := bif_some h
          exact ⟨_, _, h, fun K' => by simp only [evOp, e, e1, hn, cond_false]; simp only [q, evOp.clrTo, hq, hb, cond_true, evOp.wipe, hb2]⟩
        · rename_i hq
          obtain ⟨hb, h⟩ := bif_some h
          unfold evOp.wipe at h
          obtain ⟨hb2, h⟩ := bif_some h
          exact ⟨_, _, h, fun K' => by simp only [evOp, e, e1, hn, cond_false]; simp only [q, evOp.clrTo, hq, hb, cond_true, evOp.wipe, hb2]⟩
        · cases h
      · rename_i q
        unfold evOp.clrTo at h
        split at h
        · rename_i hq
          obtain ⟨hb, h⟩ := bif_some h
          unfold evOp.wipe at h
          obtain ⟨hb2, h⟩ := bif_some h
          exact ⟨_, _, h, fun K' => by simp only [evOp, e, e1, hn, cond_false]; simp only [q, evOp.clrTo, hq, hb, cond_true, evOp.wipe, hb2]⟩
        · rename_i hq
          obtain ⟨hb, h⟩ := bif_some h
          unfold evOp.wipe at h
          obtain ⟨hb2, h⟩ := bif_some h
          exact ⟨_, _, h, fun K' => by simp only [evOp, e, e1, hn, cond_false]; simp only [q, evOp.clrTo, hq, hb, cond_true, evOp.wipe, hb2]⟩
        · cases h
      · cases h
  | clone s bytes x =>
    simp only [evOp] at h
    obtain ⟨l, h, e⟩ := elsOf_par h
    obtain ⟨hb, h⟩ := bif_some h
    exact ⟨_, _, h, fun K' => by simp only [evOp, e, hb, cond_true]⟩
  | carry sub x y z =>
    simp only [evOp] at h
    obtain ⟨k1, n1, h, e1⟩ := asI_par h
    obtain ⟨k2, n2, h, e2⟩ := asI_par h
    obtain ⟨k3, n3, h, e3⟩ := asI_par h
    obtain ⟨hb, h⟩ := bif_some h
    cases sub with
    | true => exact ⟨_, _, h, fun K' => by simp only [evOp, e1, e2, e3, hb, cond_true]⟩
    | false => exact ⟨_, _, h, fun K' => by simp only [evOp, e1, e2, e3, hb, cond_true]⟩
  | fail => simp [evOp] at h

end Go.Proofs.Bw
end

/-
  THE ABSTRACT WALK, 26: what an operation does not look at says nothing.
-/
section
namespace Go.Proofs.Bw

section
variable {ts ts' : List AV} {rd rd' : Rd}

theorem ev_congr {x : Opd} (h : ∀ t, t ∈ x.sl → slot ts' t = slot ts t) : ev ts' x = ev ts x := by
  cases x with
  | s t => exact h t (by simp [Opd.sl])
  | c v => rfl
  | f g => rfl

theorem evs_congr : ∀ {l : List Opd}, (∀ t, t ∈ slsL l → slot ts' t = slot ts t) → evs ts' l = evs ts l
  | [], _ => rfl
  | x :: l, h => by
    simp only [evs]
    rw [ev_congr (fun t ht => h t (by simp [slsL, ht])), evs_congr (l := l) (fun t ht => h t (by simp [slsL, ht]))]

theorem optI_congr {α : Type} {o : Option Opd} (h : ∀ t, t ∈ slO o → slot ts' t = slot ts t) (d : Int) (K : Int → Option α) : optI ts' o d K = optI ts o d K := by
  cases o with
  | none => rfl
  | some x => simp only [optI]; rw [ev_congr (x := x) h]

theorem fills_congr {α : Type} : ∀ {ps : List (Nat × Sh × Opd)} {cs : List AV} {K : List AV → Option α}, (∀ t, t ∈ slParts ps → slot ts' t = slot ts t) → fills ts' cs ps K = fills ts cs ps K
  | [], _, _, _ => rfl
  | (off, s, x) :: ps, cs, K, h => by
    simp only [fills]
    rw [ev_congr (x := x) (fun t ht => h t (by simp [slParts, ht]))]
    congr 1
    funext new
    rw [fills_congr (ps := ps) (fun t ht => h t (by simp [slParts, ht]))]

theorem elemFills_congr {α : Type} {s : Sh} : ∀ {ps : List (Nat × Opd)} {cs : List AV} {K : List AV → Option α}, (∀ t, t ∈ slElems ps → slot ts' t = slot ts t) → elemFills ts' s cs ps K = elemFills ts s cs ps K
  | [], _, _, _ => rfl
  | (i, x) :: ps, cs, K, h => by
    simp only [elemFills]
    rw [ev_congr (x := x) (fun t ht => h t (by simp [slElems, ht]))]
    congr 1
    funext new
    rw [elemFills_congr (ps := ps) (fun t ht => h t (by simp [slElems, ht]))]

theorem elsOf_congr {α : Type} {s : Sh} {v : AV} (h : ∀ b, b ∈ avB v → rd' b = rd b) (K : Els → Option α) : elsOf s rd' v K = elsOf s rd v K := by
  cases v with
  | hsl b k => simp only [elsOf]; rw [h b (by simp [avB])]
  | hsub b o l => simp only [elsOf]; rw [h b (by simp [avB])]
  | t x => cases x <;> rfl
  | _ => rfl

theorem lenOf_congr {α : Type} {v : AV} (h : ∀ b, b ∈ avB v → rd' b = rd b) (K : Nat → Option α) : lenOf rd' v K = lenOf rd v K := by
  cases v with
  | hsl b k => simp only [lenOf]; rw [h b (by simp [avB])]
  | hsub b o l => simp only [lenOf]; rw [h b (by simp [avB])]
  | t x => cases x <;> rfl
  | _ => rfl

theorem discover_congr : ∀ {n : Nat} {l seen : List Nat}, (∀ b, b ∈ discover rd n l seen → rd' b = rd b) → discover rd' n l seen = discover rd n l seen
  | 0, l, seen, _ => rfl
  | n + 1, [], seen, _ => rfl
  | n + 1, b :: r, seen, h => by
    simp only [discover] at h ⊢
    cases hm : memN seen b with
    | true => simp only [hm, cond_true] at h ⊢; exact discover_congr h
    | false =>
      simp only [hm, cond_false] at h ⊢
      have hb : rd' b = rd b := by
        apply h
        split
        · obtain ⟨t, ht⟩ := discover_prefix rd n (AV.refsL _ ++ r) (seen ++ [b]); rw [ht]; simp
        · obtain ⟨t, ht⟩ := discover_prefix rd n r (seen ++ [b]); rw [ht]; simp
      rw [hb]
      cases hq : rd b with
      | mix s es => simp only [hq] at h ⊢; exact discover_congr h
      | tre s es => simp only [hq] at h ⊢; exact discover_congr h
      | froz s es => simp only [hq] at h ⊢; exact discover_congr h
      | unborn => simp only [hq] at h ⊢; exact discover_congr h
      | dead => simp only [hq] at h ⊢; exact discover_congr h

theorem mapO_congr {β γ : Type} {f g : β → Option γ} : ∀ {l : List β}, (∀ x, x ∈ l → f x = g x) → mapO f l = mapO g l
  | [], _ => rfl
  | x :: l, h => by
    simp only [mapO]
    rw [h x (by simp), mapO_congr (l := l) fun y hy => h y (by simp [hy])]

theorem toTree_congr {ok : Nat → Bool} (h : ∀ b, ok b = true → rd' b = rd b) : ∀ (n : Nat) (v : AV), toTree ok rd' n v = toTree ok rd n v
  | 0, v => rfl
  | n + 1, v => by
    have ih : toTree ok rd' n = toTree ok rd n := funext (toTree_congr h n)
    cases v with
    | href b i j =>
      simp only [toTree]
      cases hb : ok b with
      | false => rfl
      | true => rw [h b hb, ih]
    | hsl b k =>
      simp only [toTree]
      cases hb : ok b with
      | false => rfl
      | true => rw [h b hb, ih]
    | hsub b o l =>
      simp only [toTree]
      cases hb : ok b with
      | false => rfl
      | true => rw [h b hb, ih]
    | agg cs => simp only [toTree, ih]
    | fn f a c => simp only [toTree, ih]
    | tup l => simp only [toTree, ih]
    | _ => rfl

theorem freezes_congr {ok : Nat → Bool} (h : ∀ b, ok b = true → rd' b = rd b) : ∀ {l : List Nat}, (∀ b, b ∈ l → rd' b = rd b) → freezes ok rd' l = freezes ok rd l
  | [], _ => rfl
  | b :: l, hl => by
    simp only [freezes]
    rw [freezes_congr h (l := l) fun b hb => hl b (by simp [hb]), hl b (by simp), show toTree ok rd' depth = toTree ok rd depth from funext (toTree_congr h depth)]

theorem objs_congr {ρ : Nat → Option Nat} : ∀ {l : List Nat}, (∀ b, b ∈ l → rd' b = rd b) → objs rd' ρ l = objs rd ρ l
  | [], _ => rfl
  | b :: l, h => by
    simp only [objs]
    rw [h b (by simp), objs_congr (l := l) fun b hb => h b (by simp [hb])]

def inF (f : List Nat × List Nat) (b : Nat) : Prop := b ∈ f.1 ∨ b ∈ f.2

theorem argsFoot_congr {md : Bool} {s : Sh} {args : List AV} (h : ∀ b, inF (argsFoot md s args rd) b → rd' b = rd b) : argsFoot md s args rd' = argsFoot md s args rd := by
  unfold argsFoot at h ⊢
  cases md with
  | true => simp only at h ⊢; rw [discover_congr fun b hb => h b (.inr hb)]
  | false =>
    simp only at h ⊢
    split at h
    · rfl
    · cases hf : s.flat with
      | true => simp only [hf, cond_true] at h ⊢; rw [discover_congr fun b hb => h b (.inl hb)]
      | false => simp only [hf, cond_false] at h ⊢; rw [discover_congr fun b hb => h b (.inr hb)]

theorem callA_congr {F : Fns} {md : Bool} {g : Nat} {s : Sh} {args : List AV} {c : Nat} {α : Type} (h : ∀ b, inF (argsFoot md s args rd) b → rd' b = rd b) (K : AV → Delta → Option α) : callA F md g s args rd' c K = callA F md g s args rd c K := by
  unfold argsFoot at h
  unfold callA
  cases md with
  | true =>
    simp only at h ⊢
    have hd : ∀ b, b ∈ discover rd 4096 (AV.refsL args) [] → rd' b = rd b := fun b hb => h b (.inr hb)
    split
    · rfl
    · rfl
    · rw [discover_congr hd]
      unfold callR
      rw [objs_congr hd]
      rfl
  | false =>
    simp only at h ⊢
    split
    · rfl
    · rename_i hn
      rw [hn] at h
      have hd : ∀ b, b ∈ discover rd 4096 (AV.refsL args) [] → rd' b = rd b := fun b hb => by
        cases hf : s.flat with
        | true => exact h b (.inl (by simp only [hf, cond_true]; exact hb))
        | false => exact h b (.inr (by simp only [hf, cond_false]; exact hb))
      rw [discover_congr hd]
      have hok : ∀ b, memN (discover rd 4096 (AV.refsL args) []) b = true → rd' b = rd b := fun b hb => hd b ((memN_iff _ _).1 hb)
      rw [freezes_congr hok hd, show toTree (memN (discover rd 4096 (AV.refsL args) [])) rd' depth = toTree (memN (discover rd 4096 (AV.refsL args) [])) rd depth from funext (toTree_congr hok depth)]

theorem evOp_congr {F : Fns} {p : IOp} {c : Nat} {α : Type} (hs : ∀ t, t ∈ p.slots → slot ts' t = slot ts t) (hb : ∀ b, inF (foot p ts rd) b → rd' b = rd b) :
    (∀ K : AV → Delta → Option α, evOp F p ts' rd' c K = evOp F p ts rd c K) ∧ foot p ts' rd' = foot p ts rd := by
  cases p with
  | mov x => exact ⟨fun K => by simp only [evOp, ev_congr (x := x) hs], rfl⟩
  | nonnil x => exact ⟨fun K => by simp only [evOp, ev_congr (x := x) hs], rfl⟩
  | pick x a b =>
    have e1 := ev_congr (x := x) fun t ht => hs t (by simp [IOp.slots, ht])
    have e2 := ev_congr (x := a) fun t ht => hs t (by simp [IOp.slots, ht])
    have e3 := ev_congr (x := b) fun t ht => hs t (by simp [IOp.slots, ht])
    exact ⟨fun K => by simp only [evOp, e1, e2, e3], rfl⟩
  | new s z => exact ⟨fun K => rfl, rfl⟩
  | box s x => exact ⟨fun K => by simp only [evOp, ev_congr (x := x) hs], rfl⟩
  | build z ps => exact ⟨fun K => by simp only [evOp]; exact fills_congr hs, rfl⟩
  | bsl s z n ps => exact ⟨fun K => by simp only [evOp]; congr 1; funext _; exact elemFills_congr hs, rfl⟩
  | ld s x =>
    have e := ev_congr (x := x) hs
    simp only [foot, evOp, e] at hb ⊢
    refine ⟨fun K => ?_, trivial⟩
    split
    · rename_i b i j hq; rw [hb b (.inl (by simp [avB, hq]))]
    · rfl
    · rfl
  | st s x v =>
    have e := ev_congr (x := x) fun t ht => hs t (by simp [IOp.slots, ht])
    have e2 := ev_congr (x := v) fun t ht => hs t (by simp [IOp.slots, ht])
    simp only [foot, evOp, e, e2] at hb ⊢
    refine ⟨fun K => ?_, trivial⟩
    split
    · rename_i b i j hq; rw [hb b (.inr (by simp [avB, hq]))]
    · rfl
  | bin o x y =>
    have e := ev_congr (x := x) fun t ht => hs t (by simp [IOp.slots, ht])
    have e2 := ev_congr (x := y) fun t ht => hs t (by simp [IOp.slots, ht])
    exact ⟨fun K => by simp only [evOp, e, e2], rfl⟩
  | eqs neq q x y =>
    have e := ev_congr (x := x) fun t ht => hs t (by simp [IOp.slots, ht])
    have e2 := ev_congr (x := y) fun t ht => hs t (by simp [IOp.slots, ht])
    exact ⟨fun K => by simp only [evOp, e, e2], rfl⟩
  | un o x => exact ⟨fun K => by simp only [evOp, ev_congr (x := x) hs], rfl⟩
  | conv k x => exact ⟨fun K => by simp only [evOp, ev_congr (x := x) hs], rfl⟩
  | mkf g a b =>
    have e := evs_congr (l := a) fun t ht => hs t (by simp [IOp.slots, ht])
    have e2 := evs_congr (l := b) fun t ht => hs t (by simp [IOp.slots, ht])
    exact ⟨fun K => by simp only [evOp, e, e2], rfl⟩
  | mks s bytes z l m =>
    have e := ev_congr (x := l) fun t ht => hs t (by simp [IOp.slots, ht])
    have e2 := ev_congr (x := m) fun t ht => hs t (by simp [IOp.slots, ht])
    exact ⟨fun K => by simp only [evOp, e, e2], rfl⟩
  | sub s x lo hi mx =>
    have e := ev_congr (x := x) fun t ht => hs t (by simp [IOp.slots, ht])
    have e1 := fun d (K : Int → Option α) => optI_congr (o := lo) (fun t ht => hs t (by simp [IOp.slots, ht])) d K
    have e2 := fun d (K : Int → Option α) => optI_congr (o := hi) (fun t ht => hs t (by simp [IOp.slots, ht])) d K
    simp only [foot, e] at hb ⊢
    have hl := fun (K : Nat → Option α) => lenOf_congr (v := ev ts x) (fun b h => hb b (.inl h)) K
    refine ⟨fun K => ?_, trivial⟩
    cases mx with
    | none =>
      simp only [evOp, e, e1, e2, hl]
      generalize ev ts x = v at hb ⊢
      cases v with
      | hsl b k => have hbb := hb b (.inl (by simp [avB])); simp only [hbb]
      | hsub b o l => have hbb := hb b (.inl (by simp [avB])); simp only [hbb]
      | t x => cases x <;> rfl
      | _ => rfl
    | some m =>
      have e3 := ev_congr (x := m) fun t ht => hs t (by simp [IOp.slots, slO, ht])
      simp only [evOp, e, e1, e2, e3, hl]
  | subs x lo hi =>
    have e := ev_congr (x := x) fun t ht => hs t (by simp [IOp.slots, ht])
    have e1 := fun d (K : Int → Option α) => optI_congr (o := lo) (fun t ht => hs t (by simp [IOp.slots, ht])) d K
    have e2 := fun d (K : Int → Option α) => optI_congr (o := hi) (fun t ht => hs t (by simp [IOp.slots, ht])) d K
    exact ⟨fun K => by simp only [evOp, e, e1, e2], rfl⟩
  | fa off x => exact ⟨fun K => by simp only [evOp, ev_congr (x := x) hs], rfl⟩
  | fld off s x => exact ⟨fun K => by simp only [evOp, ev_congr (x := x) hs], rfl⟩
  | ia s x i =>
    have e := ev_congr (x := x) fun t ht => hs t (by simp [IOp.slots, ht])
    have e2 := ev_congr (x := i) fun t ht => hs t (by simp [IOp.slots, ht])
    simp only [foot, e] at hb ⊢
    refine ⟨fun K => ?_, trivial⟩
    simp only [evOp, e, e2]
    generalize ev ts x = v at hb ⊢
    cases v with
    | hsl b k => have hbb := hb b (.inl (by simp [avB])); simp only [hbb]
    | hsub b o l => have hbb := hb b (.inl (by simp [avB])); simp only [hbb]
    | t x => cases x <;> rfl
    | _ => rfl
  | iaa s n x i =>
    have e := ev_congr (x := x) fun t ht => hs t (by simp [IOp.slots, ht])
    have e2 := ev_congr (x := i) fun t ht => hs t (by simp [IOp.slots, ht])
    exact ⟨fun K => by simp only [evOp, e, e2], rfl⟩
  | ixa s n x i =>
    have e := ev_congr (x := x) fun t ht => hs t (by simp [IOp.slots, ht])
    have e2 := ev_congr (x := i) fun t ht => hs t (by simp [IOp.slots, ht])
    exact ⟨fun K => by simp only [evOp, e, e2], rfl⟩
  | ixs x i =>
    have e := ev_congr (x := x) fun t ht => hs t (by simp [IOp.slots, ht])
    have e2 := ev_congr (x := i) fun t ht => hs t (by simp [IOp.slots, ht])
    exact ⟨fun K => by simp only [evOp, e, e2], rfl⟩
  | ext n x => exact ⟨fun K => by simp only [evOp, ev_congr (x := x) hs], rfl⟩
  | call md g s args =>
    have e := evs_congr (l := args) hs
    simp only [foot, evOp, e] at hb ⊢
    exact ⟨fun K => callA_congr hb K, argsFoot_congr hb⟩
  | callv x s args =>
    have e := ev_congr (x := x) fun t ht => hs t (by simp [IOp.slots, ht])
    have e2 := evs_congr (l := args) fun t ht => hs t (by simp [IOp.slots, ht])
    simp only [foot, evOp, e, e2] at hb ⊢
    unfold callV
    split
    · rename_i y hy
      simp only [hy] at hb ⊢
      cases hq : allT (evs ts args) with
      | some xs => simp only [hq] at hb ⊢; exact ⟨fun K => trivial, trivial⟩
      | none =>
        simp only [hq] at hb ⊢
        cases y with
        | fn g a b => simp only at hb ⊢; exact ⟨fun K => callA_congr hb K, argsFoot_congr hb⟩
        | _ => exact ⟨fun K => rfl, rfl⟩
    · rename_i g a b hy
      simp only [hy] at hb ⊢
      exact ⟨fun K => callA_congr hb K, argsFoot_congr hb⟩
    · exact ⟨fun K => rfl, rfl⟩
  | len x =>
    have e := ev_congr (x := x) hs
    simp only [foot, evOp, e] at hb ⊢
    exact ⟨fun K => lenOf_congr (fun b h => hb b (.inl h)) _, trivial⟩
  | lens x => exact ⟨fun K => by simp only [evOp, ev_congr (x := x) hs], rfl⟩
  | cap x =>
    have e := ev_congr (x := x) hs
    simp only [foot, evOp, e] at hb ⊢
    refine ⟨fun K => ?_, trivial⟩
    generalize ev ts x = v at hb ⊢
    cases v with
    | hsl b k => cases k with
      | none => rfl
      | some k => simp only; rw [hb b (.inl (by simp [avB]))]
    | t x => cases x <;> rfl
    | _ => rfl
  | mn x y =>
    have e := ev_congr (x := x) fun t ht => hs t (by simp [IOp.slots, ht])
    have e2 := ev_congr (x := y) fun t ht => hs t (by simp [IOp.slots, ht])
    exact ⟨fun K => by simp only [evOp, e, e2], rfl⟩
  | mx x y =>
    have e := ev_congr (x := x) fun t ht => hs t (by simp [IOp.slots, ht])
    have e2 := ev_congr (x := y) fun t ht => hs t (by simp [IOp.slots, ht])
    exact ⟨fun K => by simp only [evOp, e, e2], rfl⟩
  | app s bytes x y =>
    have e := ev_congr (x := x) fun t ht => hs t (by simp [IOp.slots, ht])
    have e2 := ev_congr (x := y) fun t ht => hs t (by simp [IOp.slots, ht])
    simp only [foot, evOp, e, e2] at hb ⊢
    refine ⟨fun K => ?_, trivial⟩
    rw [elsOf_congr fun b h => hb b (.inl h)]
    congr 1
    funext new
    generalize ev ts x = v at hb ⊢
    cases v with
    | hsl b k => simp only [evOp.appTo]; rw [hb b (.inr (by simp [avB]))]
    | hsub b o l => cases o with
      | zero => simp only [evOp.appTo]; rw [hb b (.inr (by simp [avB]))]
      | succ o => rfl
    | t x => cases x <;> rfl
    | _ => rfl
  | appz s bytes z x n =>
    have e := ev_congr (x := x) fun t ht => hs t (by simp [IOp.slots, ht])
    have e2 := ev_congr (x := n) fun t ht => hs t (by simp [IOp.slots, ht])
    simp only [foot, evOp, e, e2] at hb ⊢
    exact ⟨fun K => trivial, trivial⟩
  | copy s x y => exact ⟨fun K => rfl, rfl⟩
  | clr s z x =>
    have e := ev_congr (x := x) hs
    simp only [foot, evOp, e] at hb ⊢
    refine ⟨fun K => ?_, trivial⟩
    congr 1
    funext _
    rw [lenOf_congr fun b h => hb b (.inr h)]
    generalize ev ts x = v at hb ⊢
    cases v with
    | hsl b k => simp only [evOp.clrTo]; rw [hb b (.inr (by simp [avB]))]
    | hsub b o l => simp only [evOp.clrTo]; rw [hb b (.inr (by simp [avB]))]
    | t x => cases x <;> rfl
    | _ => rfl
  | clone s bytes x =>
    have e := ev_congr (x := x) hs
    simp only [foot, evOp, e] at hb ⊢
    exact ⟨fun K => elsOf_congr (fun b h => hb b (.inl h)) _, trivial⟩
  | carry sub x y z =>
    have e := ev_congr (x := x) fun t ht => hs t (by simp [IOp.slots, ht])
    have e2 := ev_congr (x := y) fun t ht => hs t (by simp [IOp.slots, ht])
    have e3 := ev_congr (x := z) fun t ht => hs t (by simp [IOp.slots, ht])
    exact ⟨fun K => by simp only [evOp, e, e2, e3], rfl⟩
  | fail => exact ⟨fun K => rfl, rfl⟩

end

end Go.Proofs.Bw
end
