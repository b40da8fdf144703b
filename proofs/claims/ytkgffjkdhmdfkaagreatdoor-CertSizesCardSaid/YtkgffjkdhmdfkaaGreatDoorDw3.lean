/- THE ABSTRACT WALK: a reckoning of the code on trees, and why it is right. -/
import Derived.Test.YtkgffjkdhmdfkaaGreatDoorDw2
import Derived.MapKept
set_option linter.unusedSimpArgs false
set_option linter.unusedVariables false

/-
  THE ABSTRACT WALK, 18: what nothing writes any more is a tree.
-/
section
namespace Go.Proofs.Dw

theorem toTree_sc {ok : Nat → Bool} {rd : Rd} {n : Nat} {v : AV} {x : Tree} (h : toTree ok rd n v = some x) (hs : v.isSc = true) : x.isSc = true := by
  cases n with
  | zero => simp [toTree] at h
  | succ n =>
    cases v <;> simp only [toTree] at h <;> first | (cases h; exact hs) | (cases h; rfl) | cases hs | skip
    all_goals
      repeat' split at h
    all_goals first | (cases h; rfl) | cases h | skip
    all_goals
      first
        | (obtain ⟨_, h⟩ := bif_some h
           repeat' split at h
           all_goals first | (cases h; rfl) | cases h | skip
           all_goals
             (obtain ⟨_, h⟩ := bif_some h
              repeat' split at h
              all_goals first | (cases h; rfl) | cases h))
        | skip

section
variable {φ : Phi} {rd : Rd} {w : World} {I I2 : Fz} {ok : Nat → Bool}

/-- What a tree's cells have to do with those of what it is made of. -/
def TreeOf (φ : Phi) (rd : Rd) (w : World) (I I2 : Fz) (e : AV) (x : Tree) : Prop :=
  x.cells.length = e.cells.length ∧ (e.fl = true → x.fl = true) ∧ ∀ (j : Nat) c y v, e.cells[j]? = some c → x.cells[j]? = some y → RepA φ rd w I c v → RepT w I2 y v

theorem TreeOf.self (hI : I.Le I2) (x : Tree) : TreeOf φ rd w I I2 (.t x) x := by
  refine ⟨by rw [AV.cells_t, List.length_map], fun h => ?_, fun j c y v hc hy hr => ?_⟩
  · unfold AV.fl at h; rw [AV.cells_t, List.all_map] at h; exact h
  · rw [AV.cells_t, List.getElem?_map, hy] at hc
    cases hc
    exact hr.tree.mono hI (fun _ _ _ => rfl)

def RowT (w : World) (I2 : Fz) (g o : Nat) (k : Nat) (xs : List Tree) : Prop :=
  ∀ (i : Nat) x, xs[i]? = some x → (x.cells.length = k ∧ x.fl = true) ∧ ∀ (j : Nat) y, x.cells[j]? = some y → ∃ v, w.cell? ⟨g, o + i * k + j, none⟩ = some v ∧ RepT w I2 y v

theorem RowAt.trees {g o : Nat} {s : Sh} {es : List AV} {xs : List Tree} (h : RowAt φ rd w I g o s es) (hl : xs.length = es.length) (hx : ∀ (i : Nat) e x, es[i]? = some e → xs[i]? = some x → TreeOf φ rd w I I2 e x) : RowT w I2 g o s.width xs := by
  intro i x hxi
  have hi : i < es.length := by have := (List.getElem?_eq_some_iff.1 hxi).1; omega
  have he : es[i]? = some es[i] := by simp
  obtain ⟨⟨h1, h2⟩, h3⟩ := h i _ he
  obtain ⟨t1, t2, t3⟩ := hx i _ x he hxi
  refine ⟨⟨t1.trans h1, t2 h2⟩, fun j y hy => ?_⟩
  have hj : j < es[i].cells.length := by have := (List.getElem?_eq_some_iff.1 hy).1; omega
  obtain ⟨v, hv, hr⟩ := h3 j _ (List.getElem?_eq_getElem hj)
  exact ⟨v, hv, t3 j _ y v (List.getElem?_eq_getElem hj) hy hr⟩

theorem RowT.slc {g o k : Nat} {xs : List Tree} (h : RowT w I2 g o k xs) (hI : I2 g) {c : Nat} (hc : xs.length ≤ c) : RepT w I2 (.slc xs) (.slice (some ⟨g, o, none⟩) xs.length c) := by
  refine .slc xs g o c k (fun i j => (w.cell? ⟨g, o + i * k + j, none⟩).getD undef) hI hc (fun i x hx => (h i x hx).1.1) (fun x hx => ?_) (fun i j x y hx hy => ?_) (fun i j x y hx hy => ?_)
  · obtain ⟨i, hi, rfl⟩ := List.mem_iff_getElem.1 hx
    exact (h i _ (by simp)).1.2
  · obtain ⟨v, hv, _⟩ := (h i x hx).2 j y hy
    rw [hv]; rfl
  · obtain ⟨v, hv, hr⟩ := (h i x hx).2 j y hy
    rw [hv]; exact hr

theorem RowT.ptr {g o k : Nat} {xs : List Tree} (h : RowT w I2 g o k xs) (hI : I2 g) {i : Nat} {x : Tree} (hx : xs[i]? = some x) (j : Nat) : RepT w I2 (.ptr x j) (.pointer (some ⟨g, o + i * k + j, none⟩)) := by
  refine .ptr x j g (o + i * k) (fun q => (w.cell? ⟨g, o + i * k + q, none⟩).getD undef) hI (h i x hx).1.2 (fun q y hy => ?_) (fun q y hy => ?_)
  · obtain ⟨v, hv, _⟩ := (h i x hx).2 q y hy
    rw [hv]; rfl
  · obtain ⟨v, hv, hr⟩ := (h i x hx).2 q y hy
    rw [hv]; exact hr

theorem toTree_of (hI : I.Le I2) {n : Nat} (ih : ∀ m, m ≤ n → ∀ v x val, toTree ok rd m v = some x → RepA φ rd w I v val → RepT w I2 x val) {e : AV} {x : Tree} (hf : e.fl = true) (h : toTree ok rd n e = some x) : TreeOf φ rd w I I2 e x := by
  cases n with
  | zero => simp [toTree] at h
  | succ n =>
    have one : e.isSc = true → TreeOf φ rd w I I2 e x := fun hs => by
      have hx := toTree_sc h hs
      refine ⟨by rw [AV.cells_sc hs, Tree.cells_len_sc hx]; rfl, fun _ => by unfold Tree.fl; rw [Tree.cells_len_sc hx]; simp [hx], fun j c y v hc hy hr => ?_⟩
      rw [AV.cells_sc hs] at hc
      rw [Tree.cells_len_sc hx] at hy
      cases j with
      | zero => simp at hc hy; subst hc; subst hy; exact ih (n + 1) (Nat.le_refl _) _ _ _ h hr
      | succ j => simp at hc
    cases e with
    | t y => simp only [toTree] at h; cases h; exact .self hI x
    | agg cs =>
      simp only [toTree] at h
      split at h
      · rename_i l hl
        cases h
        obtain ⟨k1, k2⟩ := mapO_some hl
        refine ⟨k1, fun _ => List.all_eq_true.2 fun y hy => ?_, fun j c y v hc hy hr => ih n (by omega) c y v (k2 j c y hc hy) hr⟩
        obtain ⟨i, hi, rfl⟩ := List.mem_iff_getElem.1 hy
        have hi : i < l.length := hi
        exact toTree_sc (k2 i (cs[i]'(by omega)) _ (by simp) (by simp [Tree.cells])) (List.all_eq_true.1 hf _ (List.getElem_mem _))
      · cases h
    | any => simp [toTree] at h
    | undef => simp [toTree] at h
    | tup l => simp [AV.fl, AV.cells, AV.isSc] at hf
    | _ => exact one rfl

theorem mapO_trees (hI : I.Le I2) {n : Nat} (ih : ∀ m, m ≤ n → ∀ v x val, toTree ok rd m v = some x → RepA φ rd w I v val → RepT w I2 x val) {g o : Nat} {s : Sh} {es : List AV} {xs : List Tree} (h : RowAt φ rd w I g o s es)
    (hm : mapO (toTree ok rd n) es = some xs) : RowT w I2 g o s.width xs := by
  obtain ⟨k1, k2⟩ := mapO_some hm
  exact h.trees k1 fun i e x he hx => toTree_of hI ih (h i e he).1.2 (k2 i e x he hx)

theorem Sim.slcT (sm : Sim φ I rd w) {b : Nat} {k : Option Nat} {val : Value} {xs : List Tree} (ha : (rd b).alive = true) (hr : RepA φ rd w I (.hsl b k) val) (hl : xs.length = (rd b).els.length)
    (hrow : ∀ g C, φ b = some (g, C) → I2 g ∧ RowT w I2 g 0 (rd b).sh.width xs) : RepT w I2 (.slc xs) val := by
  rcases hr.hsl_inv ha with ⟨g, C, c, hφ, rfl, h1, h2, _⟩ | ⟨A, rfl, h0, _⟩
  · obtain ⟨k1, k2⟩ := hrow g C hφ
    rw [← hl]; exact k2.slc k1 (by omega)
  · have : xs = [] := List.eq_nil_of_length_eq_zero (by omega)
    subst this; exact .slc0 A 0

theorem RowT.part {g k : Nat} {xs : List Tree} (h : RowT w I2 g 0 k xs) (off len : Nat) : RowT w I2 g (off * k) k ((xs.drop off).take len) := by
  intro i x hx
  rw [List.getElem?_take] at hx
  split at hx
  · rw [List.getElem?_drop] at hx
    refine ⟨(h _ x hx).1, fun j y hy => ?_⟩
    have := (h _ x hx).2 j y hy
    rwa [show 0 + (off + i) * k + j = off * k + i * k + j by rw [Nat.add_mul]; omega] at this
  · cases hx

theorem Sim.subT (sm : Sim φ I rd w) {b off len : Nat} {val : Value} {xs : List Tree} (ha : (rd b).alive = true) (hr : RepA φ rd w I (.hsub b off len) val) (hl : xs.length = len)
    (hrow : ∀ g C, φ b = some (g, C) → I2 g ∧ RowT w I2 g (off * (rd b).sh.width) (rd b).sh.width xs) : RepT w I2 (.slc xs) val := by
  rcases hr.hsub_inv ha with ⟨g, C, c, hφ, rfl, h1, h2⟩ | ⟨A, rfl, rfl⟩
  · obtain ⟨k1, k2⟩ := hrow g C hφ
    have := k2.slc k1 (c := c) (by omega)
    rw [hl] at this; exact this
  · have : xs = [] := List.eq_nil_of_length_eq_zero hl
    subst this; exact .slc0 A 0

theorem RowAt.selfT (hI : I.Le I2) {g o : Nat} {s : Sh} {xs : List Tree} (h : RowAt φ rd w I g o s (xs.map .t)) : RowT w I2 g o s.width xs :=
  h.trees (by rw [List.length_map]) fun i e x he hx => by
    rw [List.getElem?_map, hx] at he
    cases he
    exact .self hI x

theorem toTree_rep (sm : Sim φ I rd w) (hI : I.Le I2) (hok : ∀ b g C, ok b = true → (rd b).mut = true → φ b = some (g, C) → I2 g) :
    ∀ n m, m ≤ n → ∀ v x val, toTree ok rd m v = some x → RepA φ rd w I v val → RepT w I2 x val := by
  intro n
  induction n with
  | zero =>
    intro m hm v x val h
    have : m = 0 := by omega
    subst this; simp [toTree] at h
  | succ n ih =>
    intro m hm v x val h hr
    rcases Nat.lt_or_ge m (n + 1) with hlt | hge
    · exact ih m (by omega) v x val h hr
    have : m = n + 1 := by omega
    subst this
    have ihn : ∀ m, m ≤ n → ∀ v x val, toTree ok rd m v = some x → RepA φ rd w I v val → RepT w I2 x val := ih
    have frozI : ∀ b g C, (rd b).isFroz = true → φ b = some (g, C) → I2 g := fun b g C hf hφ => by
      rcases sm.blk b (HObj.froz_alive hf) with ⟨_, h0⟩ | ⟨g', C', h1, _, h3, _⟩
      · rw [h0] at hφ; cases hφ
      · rw [h1] at hφ; cases hφ; exact hI.1 _ (h3 hf)
    cases v with
    | t y => simp only [toTree] at h; cases h; exact hr.tree.mono hI (fun _ _ _ => rfl)
    | any => simp [toTree] at h
    | sc => simp [toTree] at h
    | undef => simp [toTree] at h
    | nilS => simp only [toTree] at h; cases h; rw [hr.nilS_inv]; exact .slc0 none 0
    | clip es =>
      simp only [toTree] at h; cases h
      cases hr with
      | clip _ A hT => exact hT.mono hI (fun _ _ _ => rfl)
    | href b i j =>
      simp only [toTree] at h
      obtain ⟨hb, h⟩ := bif_some h
      split at h
      · cases h
      · cases h
      · cases h
      · rename_i s es hrd
        split at h
        · rename_i e he
          split at h
          · rename_i x' hx'
            cases h
            have ha : (rd b).alive = true := by rw [hrd]; rfl
            obtain ⟨g, C, hφ, rfl⟩ := hr.href_inv ha
            have hrow := (sm.row ha hφ).at
            rw [nth_eq] at he
            have hTe := toTree_of hI ihn (hrow i e (by rw [hrd]; exact he)).1.2 hx'
            have hel : (rd b).els = es := by rw [hrd]; rfl
            refine .ptr x' j g (i * (rd b).width) (fun q => (w.cell? ⟨g, i * (rd b).width + q, none⟩).getD undef) (hok b g C hb (by rw [hrd]; rfl) hφ) (hTe.2.1 (hrow i e (by rw [hel]; exact he)).1.2) (fun q y hy => ?_) (fun q y hy => ?_)
            all_goals
              have hq : q < e.cells.length := by have := (List.getElem?_eq_some_iff.1 hy).1; rw [hTe.1] at this; exact this
              obtain ⟨v, hv, hr⟩ := (hrow i e (by rw [hel]; exact he)).2 q _ (List.getElem?_eq_getElem hq)
              rw [Nat.zero_add] at hv
            · rw [show i * (rd b).width = i * (rd b).sh.width from rfl, hv]; rfl
            · rw [show i * (rd b).width = i * (rd b).sh.width from rfl, hv]; exact hTe.2.2 q _ y v (List.getElem?_eq_getElem hq) hy hr
          · cases h
        · cases h
      · rename_i s es hrd
        split at h
        · rename_i e he
          cases h
          have ha : (rd b).alive = true := by rw [hrd]; rfl
          obtain ⟨g, C, hφ, rfl⟩ := hr.href_inv ha
          have hrow := (sm.row ha hφ).at
          have hel : (rd b).els = es.map .t := by rw [hrd]; rfl
          rw [hel] at hrow
          rw [nth_eq] at he
          have := (hrow.selfT hI).ptr (hok b g C hb (by rw [hrd]; rfl) hφ) he j
          rw [Nat.zero_add] at this
          exact this
        · cases h
      · rename_i s es hrd
        split at h
        · rename_i e he
          cases h
          have ha : (rd b).alive = true := by rw [hrd]; rfl
          obtain ⟨g, C, hφ, rfl⟩ := hr.href_inv ha
          have hrow := (sm.row ha hφ).at
          have hel : (rd b).els = es.map .t := by rw [hrd]; rfl
          rw [hel] at hrow
          rw [nth_eq] at he
          have := (hrow.selfT hI).ptr (frozI b g C (by rw [hrd]; rfl) hφ) he j
          rw [Nat.zero_add] at this
          exact this
        · cases h
    | hsl b k =>
      simp only [toTree] at h
      obtain ⟨hb, h⟩ := bif_some h
      split at h
      · cases h
      · cases h
      · cases h
      · rename_i s es hrd
        split at h
        · rename_i l hl
          cases h
          have ha : (rd b).alive = true := by rw [hrd]; rfl
          have hel : (rd b).els = es := by rw [hrd]; rfl
          refine sm.slcT ha hr (by rw [hel]; exact (mapO_some hl).1) fun g C hφ => ⟨hok b g C hb (by rw [hrd]; rfl) hφ, ?_⟩
          have hrow := (sm.row ha hφ).at
          rw [hel] at hrow
          exact mapO_trees hI ihn hrow hl
        · cases h
      · rename_i s es hrd
        cases h
        have ha : (rd b).alive = true := by rw [hrd]; rfl
        have hel : (rd b).els = es.map .t := by rw [hrd]; rfl
        refine sm.slcT ha hr (by rw [hel, List.length_map]) fun g C hφ => ⟨hok b g C hb (by rw [hrd]; rfl) hφ, ?_⟩
        have hrow := (sm.row ha hφ).at
        rw [hel] at hrow
        exact hrow.selfT hI
      · rename_i s es hrd
        cases h
        have ha : (rd b).alive = true := by rw [hrd]; rfl
        have hel : (rd b).els = es.map .t := by rw [hrd]; rfl
        refine sm.slcT ha hr (by rw [hel, List.length_map]) fun g C hφ => ⟨frozI b g C (by rw [hrd]; rfl) hφ, ?_⟩
        have hrow := (sm.row ha hφ).at
        rw [hel] at hrow
        exact hrow.selfT hI
    | hsub b off len =>
      simp only [toTree] at h
      obtain ⟨hb, h⟩ := bif_some h
      split at h
      · cases h
      · cases h
      · cases h
      · rename_i s es hrd
        obtain ⟨hle, h⟩ := bif_some h
        have hle := Nat.le_of_ble_eq_true hle
        split at h
        · rename_i l hl
          cases h
          have ha : (rd b).alive = true := by rw [hrd]; rfl
          have hel : (rd b).els = es := by rw [hrd]; rfl
          refine sm.subT ha hr (by rw [(mapO_some hl).1]; simp; omega) fun g C hφ => ⟨hok b g C hb (by rw [hrd]; rfl) hφ, ?_⟩
          have hrow := (sm.row ha hφ).at.part off len
          rw [hel, Nat.zero_add] at hrow
          exact mapO_trees hI ihn hrow hl
        · cases h
      · rename_i s es hrd
        obtain ⟨hle, h⟩ := bif_some h
        have hle := Nat.le_of_ble_eq_true hle
        cases h
        have ha : (rd b).alive = true := by rw [hrd]; rfl
        have hel : (rd b).els = es.map .t := by rw [hrd]; rfl
        refine sm.subT ha hr (by simp; omega) fun g C hφ => ⟨hok b g C hb (by rw [hrd]; rfl) hφ, ?_⟩
        have hrow := (sm.row ha hφ).at
        rw [hel] at hrow
        exact (hrow.selfT hI).part off len
      · rename_i s es hrd
        obtain ⟨hle, h⟩ := bif_some h
        have hle := Nat.le_of_ble_eq_true hle
        cases h
        have ha : (rd b).alive = true := by rw [hrd]; rfl
        have hel : (rd b).els = es.map .t := by rw [hrd]; rfl
        refine sm.subT ha hr (by simp; omega) fun g C hφ => ⟨frozI b g C (by rw [hrd]; rfl) hφ, ?_⟩
        have hrow := (sm.row ha hφ).at
        rw [hel] at hrow
        exact (hrow.selfT hI).part off len
    | agg cs =>
      simp only [toTree] at h
      split at h
      · rename_i l hl
        cases h
        obtain ⟨k1, k2⟩ := mapO_some hl
        obtain ⟨vs, rfl, hv, hf⟩ := hr.agg_inv
        have h1 : vs.size = cs.length := by simpa using hv.1
        refine .agg l vs (by omega) (fun y hy => ?_) fun i y v hy hv' => ?_
        · obtain ⟨i, hi, rfl⟩ := List.mem_iff_getElem.1 hy
          exact toTree_sc (k2 i (cs[i]'(by omega)) _ (by simp) (by simp)) (hf _ (List.getElem_mem _))
        · have hi : i < cs.length := by have := (List.getElem?_eq_some_iff.1 hy).1; omega
          exact ihn n (Nat.le_refl _) _ y v (k2 i (cs[i]'hi) y (by simp) hy) (hv.2 i _ v (by simp) (by simpa using hv'))
      · cases h
    | fn f a c =>
      simp only [toTree] at h
      split at h
      · rename_i a' ha'
        split at h
        · rename_i c' hc'
          cases h
          obtain ⟨p1, p2⟩ := mapO_some ha'
          obtain ⟨q1, q2⟩ := mapO_some hc'
          cases hr with
          | fn _ _ _ va vc l1 l2 e1 e2 =>
            refine .fn f a' c' va vc (by omega) (by omega) (fun i y v hy hv => ?_) (fun i y v hy hv => ?_)
            · have hi : i < a.length := by have := (List.getElem?_eq_some_iff.1 hy).1; omega
              exact ihn n (Nat.le_refl _) _ y v (p2 i (a[i]'hi) y (by simp) hy) (e1 i _ v (by simp) hv)
            · have hi : i < c.length := by have := (List.getElem?_eq_some_iff.1 hy).1; omega
              exact ihn n (Nat.le_refl _) _ y v (q2 i (c[i]'hi) y (by simp) hy) (e2 i _ v (by simp) hv)
        · cases h
      · cases h
    | tup l =>
      simp only [toTree] at h
      split at h
      · rename_i l' hl
        cases h
        obtain ⟨k1, k2⟩ := mapO_some hl
        cases hr with
        | tup _ vs l1 e1 =>
          refine .tup l' vs (by omega) fun i y v hy hv => ?_
          have hi : i < l.length := by have := (List.getElem?_eq_some_iff.1 hy).1; omega
          exact ihn n (Nat.le_refl _) _ y v (k2 i (l[i]'hi) y (by simp) hy) (e1 i _ v (by simp) hv)
      · cases h

end

end Go.Proofs.Dw
end

/-
  THE ABSTRACT WALK, 19: calls.
-/
section
namespace Go.Proofs.Dw

/-- What was there is there. -/
structure Still (w w' : World) : Prop where
  heap : ∀ g : Nat, g < w.heap.size → w'.heap[g]? = w.heap[g]?
  size : w.heap.size ≤ w'.heap.size
  os : w'.os = w.os
  tape : w'.tape = w.tape
  output : w'.output = w.output

/-- What a call over trees comes to. -/
def Gets (w : World) (I : Fz) (y : Tree) (e : Ending) (w' : World) : Prop :=
  ∃ v, ∃ I' : Fz, e = .returned v ∧ RepT w' I' y v ∧ (∀ b, I b → I' b) ∧ (∀ b, I' b → I b ∨ w.heap.size ≤ b) ∧ (∀ b, I' b → b < w'.heap.size) ∧ Still w w' ∧ I'.ps = I.ps

/-- What a call over a heap comes to. -/
def Comes' (φ : Phi) (I : Fz) (H : Heap) (w : World) (v : AV) (H' : Heap) (e : Ending) (w' : World) : Prop :=
  ∃ val φ' I', e = .returned val ∧ RepA φ' (rdH H') w' I' v val ∧ Sim φ' I' (rdH H') w' ∧ Ext φ I (rdH H) w φ' I' (rdH H') w'

/-- What a call that is handed the world comes to. -/
def GetsW (w : World) (I : Fz) (y : Tree) (G' : World') (e : Ending) (w' : World) : Prop :=
  ∃ v, ∃ I' : Fz, e = .returned v ∧ RepT w' I' y v ∧ WStep I w I' G' w'

structure FnsOk (P : Program) (F : Fns) : Prop where
  pf : ∀ g xs y, F.pf g xs = some y → callable P g = true ∧ ∀ (w : World) (I : Fz) (vals : Array Value), RepTL w I xs vals.toList → FzOk I w → Calls P g vals w (Gets w I y)
  rf : ∀ g args H v H', F.ok g args H = true → F.rf g args H = some (v, H') → callable P g = true ∧ ∀ (φ : Phi) (w : World) (I : Fz) (vals : Array Value), RepL φ (rdH H) w I args vals.toList → Sim φ I (rdH H) w → Calls P g vals w (Comes' φ I H w v H')
  wf : ∀ g xs G y G', F.wf g xs G = some (y, G') → callable P g = true ∧ ∀ (w : World) (I : Fz) (vals : Array Value), RepTL w I xs vals.toList → FzOk I w → WldOk w I G → Calls P g vals w (GetsW w I y G')

section
variable {φ : Phi} {rd : Rd} {w : World} {I : Fz} {P : Program}

theorem Sim.still {I' : Fz} {w' : World} (sm : Sim φ I rd w) (h1 : ∀ b, I b → I' b) (h2 : ∀ b, I' b → I b ∨ w.heap.size ≤ b) (h3 : ∀ b, I' b → b < w'.heap.size) (st : Still w w') (hps : I'.ps = I.ps) :
    Sim φ I' rd w' ∧ Ext φ I rd w φ I' rd w' := by
  have ws : WSame I rd w I' rd w' := ⟨fun id g h => by rw [hps] at h; exact h, fun _ _ h => h, fun id g hg => st.heap g (sm.wok.psI id g hg).2.1⟩
  have E : Ext φ I rd w φ I' rd w' := ⟨fun _ h => h, fun _ h => .inr ⟨h, rfl, rfl, rfl⟩, h1, fun g hg => (h2 g hg).imp id .inl, fun b g C hm hφ => .inr ⟨b, C, hm, hφ⟩, fun g hg _ _ => st.heap g hg, st.size, st.os, st.tape, st.output, ws.wx fun id g h => by rw [hps]; exact h⟩
  refine ⟨sm.update E (fun _ => False) (fun b _ hal => ⟨rfl, rfl, fun g C hφ => ⟨st.heap g (sm.lt hal hφ), fun hm hI => ?_⟩⟩) (fun b hf => hf.elim) (fun _ _ _ _ _ _ _ _ _ hf => hf.elim) h3 ws, E⟩
  rcases h2 g hI with h | h
  · exact sm.notI hm hφ h
  · have := sm.lt hal hφ; omega

/-! ### flat values -/
mutual
theorem RepT.flat {w w' : World} {I I' : Fz} : ∀ (s : Sh) (x : Tree) (v : Value), s.flat = true → s.ok x = true → RepT w I x v → RepT w' I' x v
  | .int k, x, v, hf, ho, h => by cases x <;> simp_all [Sh.ok]; cases h; exact .int _ _
  | .bool, x, v, hf, ho, h => by cases x <;> simp_all [Sh.ok]; cases h; exact .bool _
  | .str, x, v, hf, ho, h => by cases x <;> simp_all [Sh.ok]; cases h; exact .str _
  | .slc, x, v, hf, ho, h => by simp [Sh.flat] at hf
  | .any, x, v, hf, ho, h => by simp [Sh.flat] at hf
  | .wp, x, v, hf, ho, h => by simp [Sh.flat] at hf
  | .wm, x, v, hf, ho, h => by simp [Sh.flat] at hf
  | .agg l, x, v, hf, ho, h => by
    cases x <;> simp only [Sh.ok] at ho <;> first | cases ho | skip
    rename_i cs
    simp only [Sh.flat] at hf
    cases h with
    | agg _ vs hl hsc hv => exact .agg cs vs hl hsc fun i x v hx hv' => RepT.flats l cs hf ho i x v hx (hv i x v hx hv')
  | .tup l, x, v, hf, ho, h => by
    cases x <;> simp only [Sh.ok] at ho <;> first | cases ho | skip
    rename_i cs
    simp only [Sh.flat] at hf
    cases h with
    | tup _ vs hl hv => exact .tup cs vs hl fun i x v hx hv' => RepT.flats l cs hf ho i x v hx (hv i x v hx hv')
theorem RepT.flats {w w' : World} {I I' : Fz} : ∀ (l : List Sh) (cs : List Tree), Sh.flats l = true → Sh.oks l cs = true → ∀ (i : Nat) (x : Tree) (v : Value), cs[i]? = some x → RepT w I x v → RepT w' I' x v
  | [], [], _, _, i, x, v, hx, _ => by simp at hx
  | [], _ :: _, _, ho, i, x, v, hx, _ => by simp [Sh.oks] at ho
  | _ :: _, [], _, _, i, x, v, hx, _ => by simp at hx
  | s :: l, y :: cs, hf, ho, i, x, v, hx, h => by
    simp only [Sh.flats] at hf
    simp only [Sh.oks] at ho
    split at hf
    · rename_i hs
      split at ho
      · rename_i hy
        cases i with
        | zero => simp at hx; subst hx; exact RepT.flat s y v hs hy h
        | succ i => exact RepT.flats l cs hf ho i x v (by simpa using hx) h
      · cases ho
    · cases hf
end

/-! ### freezing -/
theorem freezes_spec {ok : Nat → Bool} : ∀ {l : List Nat} {wr : List (Nat × HObj)}, freezes ok rd l = some wr →
    (∀ b o, (b, o) ∈ wr → b ∈ l ∧ ∃ s xs, o = .froz s xs ∧ (rd b = .tre s xs ∨ ∃ es, rd b = .mix s es ∧ mapO (toTree ok rd depth) es = some xs)) ∧ (∀ b, b ∈ l → (rd b).mut = true → ∃ o, (b, o) ∈ wr)
  | [], wr, h => by simp [freezes] at h; subst h; exact ⟨fun b o h => by simp at h, fun b h => by simp at h⟩
  | b :: l, wr, h => by
    simp only [freezes] at h
    split at h
    · cases h
    · rename_i r hr
      obtain ⟨ih1, ih2⟩ := freezes_spec hr
      split at h
      · rename_i s es hrd
        cases h
        refine ⟨fun b' o hb => ?_, fun b' hb hm => ?_⟩
        · rcases List.mem_cons.1 hb with h | h
          · cases h; exact ⟨List.mem_cons_self, s, es, rfl, .inl hrd⟩
          · obtain ⟨k1, k2⟩ := ih1 b' o h; exact ⟨List.mem_cons_of_mem _ k1, k2⟩
        · rcases List.mem_cons.1 hb with h | h
          · subst h; exact ⟨_, List.mem_cons_self⟩
          · obtain ⟨o, k⟩ := ih2 b' h hm; exact ⟨o, List.mem_cons_of_mem _ k⟩
      · rename_i s es hrd
        split at h
        · rename_i xs hxs
          cases h
          refine ⟨fun b' o hb => ?_, fun b' hb hm => ?_⟩
          · rcases List.mem_cons.1 hb with h | h
            · cases h; exact ⟨List.mem_cons_self, s, xs, rfl, .inr ⟨es, hrd, hxs⟩⟩
            · obtain ⟨k1, k2⟩ := ih1 b' o h; exact ⟨List.mem_cons_of_mem _ k1, k2⟩
          · rcases List.mem_cons.1 hb with h | h
            · subst h; exact ⟨_, List.mem_cons_self⟩
            · obtain ⟨o, k⟩ := ih2 b' h hm; exact ⟨o, List.mem_cons_of_mem _ k⟩
        · cases h
      · rename_i h1 h2
        cases h
        refine ⟨fun b' o hb => ?_, fun b' hb hm => ?_⟩
        · obtain ⟨k1, k2⟩ := ih1 b' o hb; exact ⟨List.mem_cons_of_mem _ k1, k2⟩
        · rcases List.mem_cons.1 hb with h | h
          · subst h
            cases hq : rd b' with
            | tre s es => exact absurd hq (h1 s es)
            | mix s es => exact absurd hq (h2 s es)
            | _ => rw [hq] at hm; simp [HObj.mut] at hm
          · exact ih2 b' h hm

theorem wrR_get : ∀ (wr : List (Nat × HObj)) (rd : Rd) (b : Nat), (wrR rd wr b = rd b ∧ ∀ o, (b, o) ∉ wr) ∨ ∃ o, (b, o) ∈ wr ∧ wrR rd wr b = o
  | [], rd, b => .inl ⟨rfl, fun o h => by simp at h⟩
  | (x, o) :: r, rd, b => by
    simp only [wrR]
    rcases wrR_get r (upd rd x o) b with ⟨h1, h2⟩ | ⟨o', h1, h2⟩
    · by_cases hx : b = x
      · subst hx; exact .inr ⟨o, List.mem_cons_self, by rw [h1]; simp [upd]⟩
      · refine .inl ⟨by rw [h1]; simp [upd, hx], fun o' h => ?_⟩
        rcases List.mem_cons.1 h with h | h
        · cases h; exact hx rfl
        · exact h2 o' h
    · exact .inr ⟨o', List.mem_cons_of_mem _ h1, h2⟩

/-- The blocks of a list, frozen: with those that were. -/
def Frz (φ : Phi) (rd : Rd) (I : Fz) (l : List Nat) : Fz := ⟨fun g => I g ∨ ∃ b C, b ∈ l ∧ (rd b).mut = true ∧ φ b = some (g, C), I.ps⟩

theorem Frz.lt (sm : Sim φ I rd w) {l : List Nat} : ∀ g, Frz φ rd I l g → g < w.heap.size := by
  intro g hg
  rcases hg with h | ⟨b, C, _, hm, hφ⟩
  · exact sm.old g h
  · exact sm.lt (HObj.mut_alive hm) hφ

theorem Frz.fzOk (sm : Sim φ I rd w) {l : List Nat} : FzOk (Frz φ rd I l) w where
  old := Frz.lt sm
  psI id g hg := by
    obtain ⟨h1, h2⟩ := sm.wok.psI id g hg
    refine ⟨fun h => ?_, h2⟩
    rcases h with h | ⟨b, C, _, hm, hφ⟩
    · exact h1 h
    · exact sm.wok.psM b g C id hm hφ hg
  psinj := sm.wok.psinj

theorem Sim.freeze {I' : Fz} {w' : World} {l : List Nat} {wr : List (Nat × HObj)} (sm : Sim φ I rd w) (hfr : freezes (memN l) rd l = some wr) (h1 : ∀ b, Frz φ rd I l b → I' b) (h2 : ∀ b, I' b → Frz φ rd I l b ∨ w.heap.size ≤ b)
    (h3 : ∀ b, I' b → b < w'.heap.size) (st : Still w w') (hps : I'.ps = I.ps) : Sim φ I' (wrR rd wr) w' ∧ Ext φ I rd w φ I' (wrR rd wr) w' := by
  obtain ⟨f1, f2⟩ := freezes_spec hfr
  have ws : WSame I rd w I' (wrR rd wr) w' := by
    refine ⟨fun id g h => by rw [hps] at h; exact h, fun b G hb => ?_, fun id g hg => st.heap g (sm.wok.psI id g hg).2.1⟩
    rcases wrR_get wr rd b with ⟨k, _⟩ | ⟨o, k, ke⟩
    · rw [k] at hb; exact hb
    · obtain ⟨_, s, xs, rfl, _⟩ := f1 b o k
      rw [ke] at hb; cases hb
  have E : Ext φ I rd w φ I' (wrR rd wr) w' := by
    refine ⟨fun b hb => ?_, fun b hb => ?_, fun g hg => h1 g (.inl hg), fun g hg => ?_, fun b g C hm hφ => ?_, fun g hg _ _ => st.heap g hg, st.size, st.os, st.tape, st.output, ws.wx fun id g h => by rw [hps]; exact h⟩
    · rcases wrR_get wr rd b with ⟨k, _⟩ | ⟨o, k, _⟩
      · rw [k]; exact hb
      · obtain ⟨_, s, xs, _, h | ⟨es, h, _⟩⟩ := f1 b o k <;> rw [hb] at h <;> cases h
    · refine .inr ?_
      rcases wrR_get wr rd b with ⟨k, _⟩ | ⟨o, k, ke⟩
      · rw [k]; exact ⟨hb, rfl, rfl, rfl⟩
      · obtain ⟨_, s, xs, rfl, h | ⟨es, h, hm⟩⟩ := f1 b o k
        · rw [ke, h]; exact ⟨rfl, rfl, rfl, rfl⟩
        · rw [ke, h]; exact ⟨rfl, rfl, rfl, by simp [HObj.els, (mapO_some hm).1]⟩
    · rcases h2 g hg with (h | ⟨b, C, _, hm, hφ⟩) | h
      · exact .inl h
      · exact .inr (.inr ⟨b, C, hm, hφ⟩)
      · exact .inr (.inl h)
    · rcases wrR_get wr rd b with ⟨k, _⟩ | ⟨o, k, ke⟩
      · rw [k] at hm; exact .inr ⟨b, C, hm, hφ⟩
      · obtain ⟨_, s, xs, rfl, _⟩ := f1 b o k
        rw [ke] at hm; cases hm
  refine ⟨sm.update E (fun b => ∃ o, (b, o) ∈ wr) (fun b hS hal => ?_) (fun b hS hal => ?_) (fun b b' g C C' hb hb' hφ hφ' hS => ?_) h3 ws, E⟩
  · rcases wrR_get wr rd b with ⟨k, kn⟩ | ⟨o, k, ke⟩
    · rw [k] at hal
      refine ⟨k, rfl, fun g C hφ => ⟨st.heap g (sm.lt hal hφ), fun hm hI => ?_⟩⟩
      rcases h2 g hI with (h | ⟨b', C', hl, hm', hφ'⟩) | h
      · exact sm.notI hm hφ h
      · have := sm.inj b b' g C C' hm hm' hφ hφ'
        subst this
        obtain ⟨o, ho⟩ := f2 b hl hm
        exact kn o ho
      · have := sm.lt hal hφ; omega
    · exact absurd ⟨o, k⟩ hS
  · obtain ⟨o0, hS⟩ := hS
    rcases wrR_get wr rd b with ⟨k, kn⟩ | ⟨o, k, ke⟩
    · exact absurd hS (kn o0)
    · obtain ⟨hl, s, xs, rfl, hcase⟩ := f1 b o k
      have hmut : (rd b).mut = true := by rcases hcase with h | ⟨es, h, _⟩ <;> rw [h] <;> rfl
      have ha := HObj.mut_alive hmut
      have hsh : (rd b).sh = s := by rcases hcase with h | ⟨es, h, _⟩ <;> rw [h] <;> rfl
      have hlen : xs.length = (rd b).els.length := by
        rcases hcase with h | ⟨es, h, hm⟩ <;> rw [h]
        · simp [HObj.els]
        · simp [HObj.els, (mapO_some hm).1]
      unfold BlkOk
      rw [ke]
      rcases sm.blk b ha with ⟨h0, hn⟩ | ⟨g, C, hφ, _, _, hrow⟩
      · refine .inl ⟨?_, hn⟩
        have : xs = [] := List.eq_nil_of_length_eq_zero (by rw [hlen, h0]; rfl)
        rw [this]; rfl
      · have hg : Frz φ rd I l g := .inr ⟨b, C, hl, hmut, hφ⟩
        refine .inr ⟨g, C, hφ, fun hm => (by cases hm), fun _ => h1 g hg, ?_⟩
        have hT : RowT w (Frz φ rd I l) g 0 s.width xs := by
          have hat := hrow.at
          rw [hsh] at hat
          have hI : I.Le (Frz φ rd I l) := ⟨fun g h => .inl h, fun _ _ h => h⟩
          rcases hcase with h | ⟨es, h, hm⟩
          · rw [show (rd b).els = xs.map .t by rw [h]; rfl] at hat
            exact hat.selfT hI
          · rw [show (rd b).els = es by rw [h]; rfl] at hat
            exact mapO_trees hI (toTree_rep sm hI (fun b g C hok hmm hφ => .inr ⟨b, C, (memN_iff l b).1 hok, hmm, hφ⟩) depth) hat hm
        obtain ⟨arr, T, e1, e2, e3, _⟩ := hrow.lies
        have hheap : w'.heap[g]? = w.heap[g]? := st.heap g (sm.lt ha hφ)
        rw [hsh] at e2
        refine ⟨arr, T, by rw [hheap]; exact e1, e2, by simp [HObj.els]; omega, fun i x hx => ?_⟩
        simp only [HObj.els, List.getElem?_map] at hx
        cases hq : xs[i]? with
        | none => simp [hq] at hx
        | some z =>
          simp [hq] at hx; subst hx
          obtain ⟨⟨q1, q2⟩, q3⟩ := hT i z hq
          refine ⟨⟨by rw [AV.cells_t, List.length_map]; exact q1, by unfold AV.fl; rw [AV.cells_t, List.all_map]; exact q2⟩, fun j y hy => ?_⟩
          rw [AV.cells_t, List.getElem?_map] at hy
          cases hp : z.cells[j]? with
          | none => simp [hp] at hy
          | some u =>
            simp [hp] at hy; subst hy
            obtain ⟨v, hv, hr⟩ := q3 j u hp
            refine ⟨v, by have hv' := hv; simp only [World.cell?, e1, Nat.zero_add, Option.isSome_none, Bool.false_eq_true, if_false] at hv'; exact hv', .t _ _ (hr.mono ⟨h1, fun id g h => by rw [hps]; exact h⟩ fun b' o hb' => cell_of_heap (st.heap b' (Frz.lt sm b' hb')) o)⟩
  · obtain ⟨o0, hS⟩ := hS
    rcases wrR_get wr rd b with ⟨k, kn⟩ | ⟨o, k, ke⟩
    · exact absurd hS (kn o0)
    · obtain ⟨_, s, xs, rfl, _⟩ := f1 b o k
      rw [ke] at hb; cases hb

end

end Go.Proofs.Dw
end

/-
  THE ABSTRACT WALK, 20: calls, as operations.
-/
section
namespace Go.Proofs.Dw

section
variable {φ : Phi} {rd : Rd} {w : World} {I : Fz} {P : Program} {F : Fns}
variable {o : Oper} {a : Act} {c : Nat} {α : Type} {K : AV → Delta → Option α} {r : α}

theorem callable_run {g : Nat} (h : callable P g = true) (args : Array Value) (w : World) : (callFunc g args).run P w = .ok (.enter g args) w := by
  unfold callable at h
  split at h
  · rename_i fn hfn
    simp only [Bool.and_eq_true, Bool.not_eq_true'] at h
    cases hb : fn.body with
    | none => rw [hb] at h; simp at h
    | some b => exact callFunc_enter hfn h.2 hb args w
  · cases h

theorem call_exec {g : Nat} {cl : Call} {x : Operand} {va vc : Array Value} (h : callable P g = true) (ho : o.op = .call cl) (hc : cl.callee = .value x) (hx : a.eval x = .func (.func g) va vc) :
    (execOp a.eval o).run P w = .ok (.enter g (va ++ cl.args.map a.eval ++ vc)) w := by
  simp only [execOp, ho, resolve, hc, hx, Deferred.ofValue]
  simp only [pure_bind, invoke]
  exact callable_run h _ w

/-- A call that is entered. -/
theorem calls_done {g : Nat} {vals : Array Value} {R : Ending → World → Prop} {x : AV} {d : Delta} (hex : (execOp a.eval o).run P w = .ok (.enter g vals) w) (hC : (∀ y, c ≤ y → y < c + d.nw.length → rd y = .unborn) → Calls P g vals w R) (hK : K x d = some r)
    (hR : (∀ y, c ≤ y → y < c + d.nw.length → rd y = .unborn) → ∀ e w', R e w' → ∃ v φ' I', e = .returned v ∧ RepA φ' (appRd rd c d) w' I' x v ∧ Sim φ' I' (appRd rd c d) w' ∧ Ext φ I rd w φ' I' (appRd rd c d) w') : Done φ rd w I P o a c K r := by
  refine ⟨x, d, hK, fun hu next Q hn => ?_⟩
  unfold Oper.wp
  rw [hex]
  refine Calls.mono (hC hu) fun e w' he => ?_
  obtain ⟨v, φ', I', rfl, h1, h2, h3⟩ := hR hu e w' he
  exact hn φ' I' v w' h1 h2 h3

theorem mapO_args (sm : Sim φ I rd w) {l : List Nat} {args : List AV} {xs : List Tree} {vals : List Value} (h : mapO (toTree (memN l) rd depth) args = some xs) (hr : RepL φ rd w I args vals) : RepTL w (Frz φ rd I l) xs vals := by
  obtain ⟨k1, k2⟩ := mapO_some h
  refine ⟨by rw [hr.1, k1], fun i x v hx hv => ?_⟩
  have hi : i < args.length := by have := (List.getElem?_eq_some_iff.1 hx).1; omega
  exact toTree_rep sm (I2 := Frz φ rd I l) ⟨fun g h => .inl h, fun _ _ h => h⟩ (fun b g C hok hmm hφ => .inr ⟨b, C, (memN_iff l b).1 hok, hmm, hφ⟩) depth depth (Nat.le_refl _) _ x v (k2 i (args[i]'hi) x (by simp) hx) (hr.2 i _ v (by simp) hv)

theorem pf_done (hF : FnsOk P F) (sm : Sim φ I rd w) {g : Nat} {xs : List Tree} {vals : Array Value} {s : Sh} (hex : callable P g = true → (execOp a.eval o).run P w = .ok (.enter g vals) w) (hr : RepTL w I xs vals.toList)
    (h : ((F.pf g xs).bind fun y => bif s.ok y then K (.t (s.open y)) .none else none) = some r) : Done φ rd w I P o a c K r := by
  cases hp : F.pf g xs with
  | none => simp [hp] at h
  | some y =>
    simp only [hp, Option.bind_some] at h
    obtain ⟨hok, h⟩ := bif_some h
    rw [Sh.open_eq s y hok] at h
    obtain ⟨hc, hcall⟩ := hF.pf g xs y hp
    refine calls_done (hex hc) (fun _ => hcall w I vals hr sm.fzOk) h fun _ e w' he => ?_
    obtain ⟨v, I', rfl, h1, h2, h3, h4, h5, h6⟩ := he
    obtain ⟨k1, k2⟩ := sm.still h2 h3 h4 h5 h6
    rw [appRd_none]
    exact ⟨v, φ, I', rfl, .t _ _ h1, k1, k2⟩

theorem frozen_done (hF : FnsOk P F) (sm : Sim φ I rd w) {g : Nat} {xs : List Tree} {args : List AV} {vals : Array Value} {s : Sh} {l : List Nat} {wr : List (Nat × HObj)} (hex : callable P g = true → (execOp a.eval o).run P w = .ok (.enter g vals) w) (hr : RepL φ rd w I args vals.toList)
    (hw : freezes (memN l) rd l = some wr) (hx : mapO (toTree (memN l) rd depth) args = some xs)
    (h : ((F.pf g xs).bind fun y => bif s.ok y then K (.t (s.open y)) (bif s.flat then .none else ⟨wr, []⟩) else none) = some r) : Done φ rd w I P o a c K r := by
  cases hp : F.pf g xs with
  | none => simp [hp] at h
  | some y =>
    simp only [hp, Option.bind_some] at h
    obtain ⟨hok, h⟩ := bif_some h
    rw [Sh.open_eq s y hok] at h
    obtain ⟨hc, hcall⟩ := hF.pf g xs y hp
    have hcall := hcall w (Frz φ rd I l) vals (mapO_args sm hx hr) (Frz.fzOk sm)
    cases hfl : s.flat with
    | true =>
      rw [hfl, cond_true] at h
      refine calls_done (hex hc) (fun _ => hcall) h fun _ e w' he => ?_
      obtain ⟨v, I', rfl, h1, h2, h3, h4, h5, h6⟩ := he
      obtain ⟨k1, k2⟩ := sm.still (I' := I) (fun _ h => h) (fun _ h => .inl h) (fun b hb => Nat.lt_of_lt_of_le (sm.old b hb) h5.size) h5 rfl
      rw [appRd_none]
      exact ⟨v, φ, I, rfl, .t _ _ (RepT.flat s y v hfl hok h1), k1, k2⟩
    | false =>
      rw [hfl, cond_false] at h
      refine calls_done (hex hc) (fun _ => hcall) h fun _ e w' he => ?_
      obtain ⟨v, I', rfl, h1, h2, h3, h4, h5, h6⟩ := he
      obtain ⟨k1, k2⟩ := sm.freeze hw h2 h3 h4 h5 h6
      have happ : appRd rd c ⟨wr, []⟩ = wrR rd wr := by
        funext x; simp only [appRd, List.length_nil]; rw [if_neg (by omega)]
      rw [happ]
      exact ⟨v, φ, I', rfl, .t _ _ h1, k1, k2⟩

/-! ### over a heap of its own -/
theorem ltAllN_spec {c : Nat} : ∀ {l : List Nat}, ltAllN c l = true → ∀ b, b ∈ l → b < c
  | [], _, b, h => by simp at h
  | x :: l, h, b, hb => by
    simp only [ltAllN] at h
    obtain ⟨h1, h2⟩ : Nat.blt x c = true ∧ ltAllN c l = true := by
      cases hq : Nat.blt x c with
      | true => rw [hq] at h; exact ⟨rfl, h⟩
      | false => rw [hq] at h; cases h
    have hx : x < c := by simpa [Nat.blt_eq] using h1
    rcases List.mem_cons.1 hb with e | e
    · subst e; exact hx
    · exact ltAllN_spec h2 b e

theorem zipB_get {rd : Rd} {ρ : Nat → Option Nat} : ∀ {seen js : List Nat} {b : Nat} {ob : HObj}, seen.length = js.length → (b, ob) ∈ zipB seen (objs rd ρ js) → ∃ i j : Nat, seen[i]? = some b ∧ js[i]? = some j ∧ ob = (rd j).ren ρ
  | [], [], b, ob, _, h => by simp [zipB, objs] at h
  | [], _ :: _, _, _, h, _ => by simp at h
  | _ :: _, [], _, _, h, _ => by simp at h
  | x :: seen, y :: js, b, ob, hl, h => by
    simp only [objs, zipB, List.mem_cons] at h
    rcases h with h | h
    · cases h; exact ⟨0, y, rfl, rfl, rfl⟩
    · obtain ⟨i, j, h1, h2, h3⟩ := zipB_get (by simpa using hl) h
      exact ⟨i + 1, j, by simpa using h1, by simpa using h2, h3⟩

theorem zipB_mem {rd : Rd} {ρ : Nat → Option Nat} : ∀ {seen js : List Nat} {i b j : Nat}, seen[i]? = some b → js[i]? = some j → (b, (rd j).ren ρ) ∈ zipB seen (objs rd ρ js)
  | [], js, i, b, j, h, _ => by simp at h
  | _ :: _, [], i, b, j, _, h => by simp at h
  | x :: seen, y :: js, 0, b, j, h1, h2 => by simp at h1 h2; subst h1; subst h2; simp [objs, zipB]
  | x :: seen, y :: js, i + 1, b, j, h1, h2 => by
    simp only [objs, zipB]
    exact List.mem_cons_of_mem _ (zipB_mem (by simpa using h1) (by simpa using h2))

theorem objs_length (rd : Rd) (ρ : Nat → Option Nat) : ∀ l : List Nat, (objs rd ρ l).length = l.length
  | [] => rfl
  | b :: l => by simp [objs, objs_length rd ρ l]

/-- Back from a call: where the caller's blocks are. -/
structure Back (φ : Phi) (rd : Rd) (c : Nat) (seen out : List Nat) (φ2 : Phi) (rd2 : Rd) (φ' : Phi) (rd' : Rd) (β : Nat → Option Nat) : Prop where
  ren : Ren φ2 rd2 φ' rd' β
  old : ∀ (i b : Nat), seen[i]? = some b → β i = some b
  new : ∀ b, c ≤ b → b < c + (out.drop seen.length).length → ∃ i, β i = some b
  inv : ∀ i b, β i = some b → seen[i]? = some b ∨ (c ≤ b ∧ b < c + (out.drop seen.length).length)
  same : ∀ b, b ∉ seen → ¬ (c ≤ b ∧ b < c + (out.drop seen.length).length) → rd' b = rd b ∧ φ' b = φ b
  inj : ∀ i j b, β i = some b → β j = some b → i = j

theorem back_of {seen out : List Nat} {φ2 : Phi} {rd2 : Rd} (hn : seen.Nodup) (hlt : ∀ b, b ∈ seen → b < c) (hout : out.Nodup) (hpre : ∃ t, out = upTo seen.length ++ t) :
    ∃ φ' : Phi, Back φ rd c seen out φ2 rd2 φ' (appRd rd c ⟨zipB seen (objs rd2 (backR seen out c seen.length) (upTo seen.length)), objs rd2 (backR seen out c seen.length) (out.drop seen.length)⟩) (backR seen out c seen.length) := by
  obtain ⟨t, ht⟩ := hpre
  have hdrop : out.drop seen.length = t := by
    rw [ht, List.drop_append_of_le_length (by rw [upTo_length]; exact Nat.le_refl _), List.drop_eq_nil_of_le (by rw [upTo_length]; exact Nat.le_refl _), List.nil_append]
  have hlow : ∀ i p : Nat, out[p]? = some i → seen.length ≤ i → seen.length ≤ p := by
    intro i p hp hi
    rcases Nat.lt_or_ge p seen.length with h | h
    · rw [ht, List.getElem?_append_left (by rw [upTo_length]; exact h), upTo_get _ _ h] at hp
      cases hp; omega
    · exact h
  have hhigh : ∀ q i : Nat, t[q]? = some i → seen.length ≤ i ∧ out[seen.length + q]? = some i := by
    intro q i hq
    have ho : out[seen.length + q]? = some i := by
      rw [ht, List.getElem?_append_right (by rw [upTo_length]; omega), upTo_length, Nat.add_sub_cancel_left]; exact hq
    refine ⟨?_, ho⟩
    rcases Nat.lt_or_ge i seen.length with h | h
    · have h1 : out[i]? = some i := by rw [ht, List.getElem?_append_left (by rw [upTo_length]; exact h)]; exact upTo_get _ _ h
      have := idxN_nodup hout h1
      rw [idxN_nodup hout ho] at this
      cases this; omega
    · exact h
  have bOld : ∀ (i b : Nat), seen[i]? = some b → backR seen out c seen.length i = some b := fun i b h => by
    unfold backR; rw [nth_eq, h]
  have bNew : ∀ q i : Nat, t[q]? = some i → backR seen out c seen.length i = some (c + q) := fun q i h => by
    obtain ⟨h1, h2⟩ := hhigh q i h
    unfold backR
    rw [nth_eq, List.getElem?_eq_none h1, idxN_nodup hout h2]
    simp
  have bInv : ∀ i b, backR seen out c seen.length i = some b → seen[i]? = some b ∨ ∃ q, t[q]? = some i ∧ b = c + q := by
    intro i b h
    unfold backR at h
    rw [nth_eq] at h
    split at h
    · rename_i b' hb; cases h; exact .inl hb
    · rename_i hb
      split at h
      · rename_i p hp
        cases h
        have hp' := idxN_some hp
        have hi : seen.length ≤ i := by
          rcases Nat.lt_or_ge i seen.length with h | h
          · rw [List.getElem?_eq_getElem h] at hb; cases hb
          · exact h
        have hpl := hlow i p hp' hi
        refine .inr ⟨p - seen.length, ?_, rfl⟩
        rw [ht, List.getElem?_append_right (by rw [upTo_length]; exact hpl), upTo_length] at hp'
        exact hp'
      · cases h
  have hnl : (objs rd2 (backR seen out c seen.length) (out.drop seen.length)).length = t.length := by rw [objs_length, hdrop]
  have rOld : ∀ (i b : Nat), seen[i]? = some b → appRd rd c ⟨zipB seen (objs rd2 (backR seen out c seen.length) (upTo seen.length)), objs rd2 (backR seen out c seen.length) (out.drop seen.length)⟩ b = (rd2 i).ren (backR seen out c seen.length) := by
    intro i b h
    have hb := hlt b (List.mem_of_getElem? h)
    simp only [appRd]
    rw [if_neg (by omega)]
    have hi : i < seen.length := (List.getElem?_eq_some_iff.1 h).1
    rcases wrR_get (zipB seen (objs rd2 (backR seen out c seen.length) (upTo seen.length))) rd b with ⟨_, k⟩ | ⟨ob, k, ke⟩
    · exact absurd (zipB_mem h (upTo_get _ _ hi)) (k _)
    · obtain ⟨i', j, h1, h2, h3⟩ := zipB_get (by rw [upTo_length]) k
      have : i' = i := by
        have e1 := idxN_nodup hn h1
        rw [idxN_nodup hn h] at e1; cases e1; rfl
      subst this
      rw [upTo_get _ _ hi] at h2; cases h2
      rw [ke, h3]
  have rNew : ∀ q i : Nat, t[q]? = some i → appRd rd c ⟨zipB seen (objs rd2 (backR seen out c seen.length) (upTo seen.length)), objs rd2 (backR seen out c seen.length) (out.drop seen.length)⟩ (c + q) = (rd2 i).ren (backR seen out c seen.length) := by
    intro q i h
    have hq : q < t.length := (List.getElem?_eq_some_iff.1 h).1
    simp only [appRd]
    rw [if_pos ⟨by omega, by rw [hnl]; omega⟩, Nat.add_sub_cancel_left, objs_get, hdrop, h]
    rfl
  refine ⟨fun x => if c ≤ x ∧ x < c + t.length then (t[x - c]?).bind φ2 else match idxN seen x with | some i => φ2 i | none => φ x, ⟨⟨fun i b h => ?_, fun i b h => ?_⟩, bOld, fun b h1 h2 => ?_, fun i b h => ?_, fun b h1 h2 => ?_, fun i j b h1 h2 => ?_⟩⟩
  · rcases bInv i b h with h | ⟨q, hq, rfl⟩
    · exact rOld i b h
    · exact rNew q i hq
  · rcases bInv i b h with h | ⟨q, hq, rfl⟩
    · have hb := hlt b (List.mem_of_getElem? h)
      rw [if_neg (by omega), idxN_nodup hn h]
    · have hl : q < t.length := (List.getElem?_eq_some_iff.1 hq).1
      rw [if_pos ⟨by omega, by omega⟩, Nat.add_sub_cancel_left, hq]; rfl
  · rw [hdrop] at h2
    have hl : b - c < t.length := by omega
    exact ⟨_, by rw [bNew (b - c) _ (List.getElem?_eq_getElem hl)]; congr 1; omega⟩
  · rw [hdrop]
    rcases bInv i b h with h | ⟨q, hq, rfl⟩
    · exact .inl h
    · have hl : q < t.length := (List.getElem?_eq_some_iff.1 hq).1
      exact .inr ⟨by omega, by omega⟩
  · rw [hdrop] at h2
    refine ⟨?_, ?_⟩
    · simp only [appRd]
      rw [hnl, if_neg h2]
      rcases wrR_get (zipB seen (objs rd2 (backR seen out c seen.length) (upTo seen.length))) rd b with ⟨k, _⟩ | ⟨ob, k, _⟩
      · exact k
      · obtain ⟨i', j, e1, _⟩ := zipB_get (by rw [upTo_length]) k
        exact absurd (List.mem_of_getElem? e1) h1
    · rw [if_neg h2]
      cases hq : idxN seen b with
      | none => rfl
      | some i => exact absurd (List.mem_of_getElem? (idxN_some hq)) h1
  · rcases bInv i b h1 with k1 | ⟨q, hq, rfl⟩
    · rcases bInv j b h2 with k2 | ⟨q, hq, rfl⟩
      · have e1 := idxN_nodup hn k1
        rw [idxN_nodup hn k2] at e1; cases e1; rfl
      · have := hlt _ (List.mem_of_getElem? k1); omega
    · rcases bInv j _ h2 with k2 | ⟨q', hq', he⟩
      · have := hlt _ (List.mem_of_getElem? k2); omega
      · have : q = q' := by omega
        subst this
        rw [hq] at hq'; cases hq'; rfl

end

end Go.Proofs.Dw
end

/-
  THE ABSTRACT WALK, 21: calls over a heap of their own.
-/
section
namespace Go.Proofs.Dw

section
variable {φ : Phi} {rd : Rd} {w : World} {I : Fz} {P : Program} {F : Fns}
variable {o : Oper} {a : Act} {c : Nat} {α : Type} {K : AV → Delta → Option α} {r : α}

theorem back_sim {seen out : List Nat} {φ2 φ' : Phi} {rd2 rd' : Rd} {I2 : Fz} {w' : World} {β : Nat → Option Nat} (sm : Sim φ I rd w) (hn : seen.Nodup)
    (B : Back φ rd c seen out φ2 rd2 φ' rd' β) (hlt : ∀ b, b ∈ seen → b < c) (hu : ∀ y, c ≤ y → y < c + (out.drop seen.length).length → rd y = .unborn)
    (hnw : ¬ HasW (rdH (objs rd (idxN seen) seen))) (sm2 : Sim φ2 I2 rd2 w') (E2 : Ext (phiOf φ seen) I (rdH (objs rd (idxN seen) seen)) w φ2 I2 rd2 w') : Sim φ' I2 rd' w' ∧ Ext φ I rd w φ' I2 rd' w' := by
  obtain ⟨R1, sur1⟩ := ren_objs φ rd hn
  have f1 : ∀ (i b : Nat), seen[i]? = some b → rdH (objs rd (idxN seen) seen) i = (rd b).ren (idxN seen) ∧ phiOf φ seen i = φ b := fun i b h =>
    ⟨R1.obj b i (idxN_nodup hn h), R1.phi b i (idxN_nodup hn h)⟩
  have low : ∀ (i g C : Nat), (rdH (objs rd (idxN seen) seen) i).mut = true → phiOf φ seen i = some (g, C) → ∃ b, b ∈ seen ∧ (rd b).mut = true ∧ φ b = some (g, C) := by
    intro i g C hm hφ
    obtain ⟨b, hb⟩ := sur1 i (HObj.mut_alive hm)
    have hs := idxN_some hb
    obtain ⟨e1, e2⟩ := f1 i b hs
    rw [e1, (HObj.ren_facts _ _).2.1] at hm
    rw [e2] at hφ
    exact ⟨b, List.mem_of_getElem? hs, hm, hφ⟩
  have up : ∀ b g C, (rd' b).mut = true → φ' b = some (g, C) → (∃ i, β i = some b ∧ (rd2 i).mut = true ∧ φ2 i = some (g, C)) ∨ (b ∉ seen ∧ (rd b).mut = true ∧ φ b = some (g, C)) := by
    intro b g C hm hφ
    by_cases h : b ∈ seen ∨ (c ≤ b ∧ b < c + (out.drop seen.length).length)
    · have : ∃ i, β i = some b := by
        rcases h with h | ⟨h1, h2⟩
        · obtain ⟨i, hi, rfl⟩ := List.mem_iff_getElem.1 h
          exact ⟨i, B.old i _ (by simp)⟩
        · exact B.new b h1 h2
      obtain ⟨i, hi⟩ := this
      rw [B.ren.obj i b hi, (HObj.ren_facts _ _).2.1] at hm
      rw [B.ren.phi i b hi] at hφ
      exact .inl ⟨i, hi, hm, hφ⟩
    · have h1 : b ∉ seen := fun h' => h (.inl h')
      obtain ⟨e1, e2⟩ := B.same b h1 (fun h' => h (.inr h'))
      rw [e1] at hm; rw [e2] at hφ
      exact .inr ⟨h1, hm, hφ⟩
  have apart : ∀ b g C, b ∉ seen → (rd b).alive = true → φ b = some (g, C) → ∀ i C', (rdH (objs rd (idxN seen) seen) i).mut = true → phiOf φ seen i = some (g, C') → False := by
    intro b g C hb hal hφ i C' hm hφ'
    obtain ⟨b', hs, hm', hφ''⟩ := low i g C' hm hφ'
    rcases HObj.alive_cases hal with hmu | hf
    · have := sm.inj b b' g C C' hmu hm' hφ hφ''
      subst this; exact hb hs
    · rcases sm.blk b hal with ⟨_, h0⟩ | ⟨g1, C1, k1, _, k3, _⟩
      · rw [h0] at hφ; cases hφ
      · rw [k1] at hφ; cases hφ; exact sm.notI hm' hφ'' (k3 hf)
  have ws : WSame I rd w I2 rd' w' := by
    refine ⟨fun id g h => ?_, fun b G hb => ?_, fun id g hg => E2.frame g (sm.wok.psI id g hg).2.1 (fun i C hm hφ => ?_) fun h => (hnw h).elim⟩
    · rcases E2.wx.psnew id g h with h | ⟨h, _⟩
      · exact h
      · exact (hnw h).elim
    · by_cases h : b ∈ seen ∨ (c ≤ b ∧ b < c + (out.drop seen.length).length)
      · exfalso
        have : ∃ i, β i = some b := by
          rcases h with h | ⟨h1, h2⟩
          · obtain ⟨i, hi, rfl⟩ := List.mem_iff_getElem.1 h
            exact ⟨i, B.old i _ (by simp)⟩
          · exact B.new b h1 h2
        obtain ⟨i, hi⟩ := this
        rw [B.ren.obj i b hi] at hb
        exact hnw (E2.wx.hasw ⟨i, G, ren_wld hb⟩)
      · rw [(B.same b (fun h' => h (.inl h')) (fun h' => h (.inr h'))).1] at hb
        exact hb
    · obtain ⟨b, _, hm', hφ'⟩ := low i g C hm hφ
      exact sm.wok.psM b g C id hm' hφ' hg
  have E : Ext φ I rd w φ' I2 rd' w' := by
    refine ⟨fun b hb => ?_, fun b hb => ?_, E2.sub, fun g hg => ?_, fun b g C hm hφ => ?_, fun g hg hno _ => ?_, E2.size, E2.os, E2.tape, E2.output, ws.wx E2.wx.psub⟩
    · by_cases hs : b ∈ seen
      · obtain ⟨i, hi, rfl⟩ := List.mem_iff_getElem.1 hs
        have hi' : seen[i]? = some seen[i] := by simp
        have h1 : rdH (objs rd (idxN seen) seen) i = .dead := by rw [(f1 i _ hi').1, hb]; rfl
        rw [B.ren.obj i _ (B.old i _ hi'), E2.dead i h1]; rfl
      · have hr : ¬ (c ≤ b ∧ b < c + (out.drop seen.length).length) := fun h => by rw [hu b h.1 h.2] at hb; cases hb
        rw [(B.same b hs hr).1]; exact hb
    · by_cases hs : b ∈ seen
      · obtain ⟨i, hi, rfl⟩ := List.mem_iff_getElem.1 hs
        have hi' : seen[i]? = some seen[i] := by simp
        obtain ⟨q1, q2⟩ := f1 i _ hi'
        obtain ⟨r1, _, _, r4, r5⟩ := HObj.ren_facts (idxN seen) (rd seen[i])
        obtain ⟨s1, _, _, s4, s5⟩ := HObj.ren_facts β (rd2 i)
        have ho := B.old i _ hi'
        rcases E2.keep i (by rw [q1, r1]; exact hb) with h | ⟨h1, h2, h3, h4⟩
        · exact .inl (by rw [B.ren.obj i _ ho, h]; rfl)
        · refine .inr ⟨by rw [B.ren.obj i _ ho, s1]; exact h1, by rw [B.ren.phi i _ ho, h2, q2], by rw [B.ren.obj i _ ho, s4, h3, q1, r4], ?_⟩
          rw [B.ren.obj i _ ho, s5, List.length_map, h4, q1, r5, List.length_map]
      · have hr : ¬ (c ≤ b ∧ b < c + (out.drop seen.length).length) := fun h => by rw [hu b h.1 h.2] at hb; cases hb
        obtain ⟨e1, e2⟩ := B.same b hs hr
        exact .inr ⟨by rw [e1]; exact hb, e2, by rw [e1], by rw [e1]⟩
    · rcases E2.inew g hg with h | h | ⟨i, C, hm, hφ⟩
      · exact .inl h
      · exact .inr (.inl h)
      · obtain ⟨b, _, hm', hφ'⟩ := low i g C hm hφ
        exact .inr (.inr ⟨b, C, hm', hφ'⟩)
    · rcases up b g C hm hφ with ⟨i, hi, hm', hφ'⟩ | ⟨_, hm', hφ'⟩
      · rcases E2.mnew i g C hm' hφ' with h | ⟨i0, C0, h1, h2⟩
        · exact .inl h
        · obtain ⟨b0, _, k1, k2⟩ := low i0 g C0 h1 h2
          exact .inr ⟨b0, C0, k1, k2⟩
      · exact .inr ⟨b, C, hm', hφ'⟩
    · refine E2.frame g hg (fun i C hm hφ => ?_) fun h => (hnw h).elim
      obtain ⟨b, _, hm', hφ'⟩ := low i g C hm hφ
      exact hno b C hm' hφ'
  refine ⟨sm.update E (fun b => b ∈ seen ∨ (c ≤ b ∧ b < c + (out.drop seen.length).length)) (fun b hS hal => ?_) (fun b hS hal => ?_) (fun b b' g C C' hb hb' hφ hφ' hS => ?_) sm2.old ws, E⟩
  · have hs : b ∉ seen := fun h => hS (.inl h)
    obtain ⟨e1, e2⟩ := B.same b hs (fun h => hS (.inr h))
    rw [e1] at hal
    refine ⟨e1, e2, fun g C hφ => ⟨E2.frame g (sm.lt hal hφ) (fun i C' hm' hφ' => apart b g C hs hal hφ i C' hm' hφ') (fun h => (hnw h).elim), fun hm hI => ?_⟩⟩
    rcases E2.inew g hI with h | h | ⟨i, C', hm', hφ'⟩
    · exact sm.notI hm hφ h
    · have := sm.lt hal hφ; omega
    · exact apart b g C hs hal hφ i C' hm' hφ'
  · have : ∃ i, β i = some b := by
      rcases hS with h | ⟨h1, h2⟩
      · obtain ⟨i, hi, rfl⟩ := List.mem_iff_getElem.1 h
        exact ⟨i, B.old i _ (by simp)⟩
      · exact B.new b h1 h2
    obtain ⟨i, hi⟩ := this
    rw [B.ren.obj i b hi, (HObj.ren_facts _ _).1] at hal
    exact BlkOk.ren B.ren hi (show BlkOk φ2 rd2 w' I2 i from sm2.blk i hal)
  · rcases up b g C hb hφ with ⟨i, hi, hm, hp⟩ | ⟨hs, hm, hp⟩
    · rcases up b' g C' hb' hφ' with ⟨i', hi', hm', hp'⟩ | ⟨hs', hm', hp'⟩
      · have := sm2.inj i i' g C C' hm hm' hp hp'
        subst this
        rw [hi] at hi'; cases hi'; rfl
      · exfalso
        rcases E2.mnew i g C hm hp with h | ⟨i0, C0, h1, h2⟩
        · have := sm.lt (HObj.mut_alive hm') hp'; omega
        · exact apart b' g C' hs' (HObj.mut_alive hm') hp' i0 C0 h1 h2
    · exfalso
      rcases hS with h | ⟨h1, h2⟩
      · exact hs h
      · rw [hu b h1 h2] at hm; cases hm

theorem noWldL_spec : ∀ {l : List Nat}, noWldL rd l = true → ∀ b, b ∈ l → ∀ G, rd b ≠ .wld G
  | [], _, b, h => by simp at h
  | x :: l, h, b, hb => by
    intro G hG
    simp only [noWldL] at h
    split at h
    · cases h
    · rename_i hx
      rcases List.mem_cons.1 hb with e | e
      · subst e; exact hx G hG
      · exact noWldL_spec h b e G hG

theorem noWld_objs {ρ : Nat → Option Nat} {l : List Nat} (h : noWldL rd l = true) (i : Nat) (G : World') (hi : rdH (objs rd ρ l) i = .wld G) : False := by
  rw [rdH_objs] at hi
  cases hq : l[i]? with
  | none => rw [hq] at hi; cases hi
  | some b => rw [hq] at hi; exact noWldL_spec h b (List.mem_of_getElem? hq) G (ren_wld hi)

theorem callR_done (hF : FnsOk P F) (sm : Sim φ I rd w) {g : Nat} {args : List AV} {vals : Array Value} {seen : List Nat} (hex : callable P g = true → (execOp a.eval o).run P w = .ok (.enter g vals) w) (hr : RepL φ rd w I args vals.toList)
    (h : callR F g args rd c seen K = some r) : Done φ rd w I P o a c K r := by
  unfold callR at h
  obtain ⟨hb, h⟩ := bif_some h
  simp only [Bool.and_eq_true] at hb
  have hn := nodupN_nodup hb.1.1.1
  have hlt := ltAllN_spec hb.1.1.2
  have hnw : ¬ HasW (rdH (objs rd (idxN seen) seen)) := fun ⟨i, G, hi⟩ => noWld_objs hb.1.2 i G hi
  cases hp : F.rf g (AV.renL (idxN seen) args) (objs rd (idxN seen) seen) with
  | none => simp [hp] at h
  | some p =>
    obtain ⟨v1, H2⟩ := p
    simp only [hp, Option.bind_some] at h
    unfold callR.backTo at h
    obtain ⟨hb2, h⟩ := bif_some h
    simp only [Bool.and_eq_true] at hb2
    obtain ⟨hc, hcall⟩ := hF.rf g _ _ v1 H2 hb.2 hp
    obtain ⟨R1, sur1⟩ := ren_objs φ rd hn
    have hcall := hcall (phiOf φ seen) w I vals (hr.ren R1) (sm.ren R1 sur1 fun i G hi => (hnw ⟨i, G, hi⟩).elim)
    refine calls_done (hex hc) (fun _ => hcall) h fun hu e w' he => ?_
    obtain ⟨val, φ2, I2, rfl, h1, h2, h3⟩ := he
    obtain ⟨t, ht⟩ := discover_prefix (rdH H2) 4096 (refsFirst seen.length H2 ++ AV.refsL [v1]) (upTo seen.length)
    obtain ⟨φ', B⟩ := back_of (φ := φ) (rd := rd) (c := c) (φ2 := φ2) (rd2 := rdH H2) hn hlt (nodupN_nodup hb2.2) ⟨t, ht⟩
    rw [objs_length] at hu
    obtain ⟨k1, k2⟩ := back_sim sm hn B hlt hu hnw h2 h3
    exact ⟨val, φ', I2, rfl, h1.ren B.ren, k1, k2⟩

theorem bif_some2 {c : Bool} {x : Bool} (h : (bif c then x else false) = true) : c = true ∧ x = true := by
  cases c with
  | true => exact ⟨rfl, h⟩
  | false => cases h

mutual
theorem shEq_eq : ∀ {s s' : Sh}, shEq s s' = true → s = s'
  | .int k, s', h => by cases s' <;> simp [shEq] at h; rw [kindEq_eq h]
  | .bool, s', h => by cases s' <;> simp [shEq] at h; rfl
  | .str, s', h => by cases s' <;> simp [shEq] at h; rfl
  | .slc, s', h => by cases s' <;> simp [shEq] at h; rfl
  | .any, s', h => by cases s' <;> simp [shEq] at h; rfl
  | .wp, s', h => by cases s' <;> simp [shEq] at h; rfl
  | .wm, s', h => by cases s' <;> simp [shEq] at h; rfl
  | .agg l, s', h => by cases s' <;> simp [shEq] at h; rw [shEqs_eq h]
  | .tup l, s', h => by cases s' <;> simp [shEq] at h; rw [shEqs_eq h]
theorem shEqs_eq : ∀ {l l' : List Sh}, shEqs l l' = true → l = l'
  | [], l', h => by cases l' <;> simp [shEqs] at h; rfl
  | s :: l, l', h => by
    cases l' with
    | nil => simp [shEqs] at h
    | cons s' l' =>
      simp only [shEqs] at h
      obtain ⟨h1, h2⟩ := bif_some2 h
      rw [shEq_eq h1, shEqs_eq h2]
end

theorem rowForm_spec {s : Sh} {H : Heap} {c : Nat} : ∀ {l : List Sh} {cs : List AV}, rowForm s H l cs = true →
    ∃ b, (∃ xs, rdH H b = .tre s xs ∧ rowOf H cs = xs) ∧ AV.refsL cs = [b] ∧ ∀ ρ : Nat → Option Nat, ρ b = some c → AV.renL ρ cs = rowOpen c l cs := by
  intro l cs
  induction cs generalizing l with
  | nil => intro h; cases l with
    | nil => simp [rowForm] at h
    | cons q l => cases q <;> cases l <;> simp [rowForm] at h
  | cons x r ih =>
    intro h
    cases l with
    | nil => simp [rowForm] at h
    | cons q l =>
      cases x with
      | t x =>
        have h' : (bif q.ok x then rowForm s H l r else false) = true := by
          cases q <;> cases l <;> exact h
        obtain ⟨h1, h2⟩ := bif_some2 h'
        obtain ⟨b, ⟨xs, hb, hx⟩, hrf, hren⟩ := ih h2
        refine ⟨b, ⟨xs, hb, ?_⟩, ?_, fun ρ hρ => ?_⟩
        · rw [← hx]; rfl
        · rw [← hrf]; rfl
        · have e1 : rowOpen c (q :: l) (.t x :: r) = .t (q.open x) :: rowOpen c l r := by
            cases l with
            | nil => cases r <;> simp [rowForm] at h2
            | cons q2 l2 => cases q <;> rfl
          rw [e1, Sh.open_eq q x h1, ← hren ρ hρ]
          rfl
      | hsl b k =>
        cases q with
        | slc =>
          cases l with
          | nil =>
            cases r with
            | nil =>
              cases k with
              | none =>
                have h' : (match rdH H b with | .tre s' _ => shEq s s' | _ => false) = true := h
                split at h'
                · rename_i s' xs hb
                  have e := shEq_eq h'
                  subst e
                  refine ⟨b, ⟨xs, hb, by simp [rowOf, hb]⟩, rfl, fun ρ hρ => ?_⟩
                  simp [AV.renL, AV.ren, hρ, rowOpen]
                · cases h'
              | some k => exact absurd h (by simp [rowForm])
            | cons y r => exact absurd h (by simp [rowForm])
          | cons q2 l => exact absurd h (by simp [rowForm])
        | _ => exact absurd h (by simp [rowForm])
      | _ => exact absurd h (by cases q <;> cases l <;> simp [rowForm])

theorem nilForm_spec {ρ : Nat → Option Nat} : ∀ {l : List Sh} {cs : List AV}, nilForm l cs = true → AV.refsL cs = [] ∧ AV.renL ρ cs = nilOpen l cs := by
  intro l cs
  induction cs generalizing l with
  | nil => intro h; cases l with
    | nil => simp [nilForm] at h
    | cons q l => cases q <;> cases l <;> simp [nilForm] at h
  | cons x r ih =>
    intro h
    cases l with
    | nil => simp [nilForm] at h
    | cons q l =>
      cases x with
      | t x =>
        have h' : (bif q.ok x then nilForm l r else false) = true := by
          cases q <;> cases l <;> exact h
        obtain ⟨h1, h2⟩ := bif_some2 h'
        obtain ⟨hrf, hren⟩ := ih h2
        refine ⟨by rw [← hrf]; rfl, ?_⟩
        have e1 : nilOpen (q :: l) (.t x :: r) = .t (q.open x) :: nilOpen l r := by
          cases l with
          | nil => cases r <;> simp [nilForm] at h2
          | cons q2 l2 => cases q <;> rfl
        rw [e1, Sh.open_eq q x h1, ← hren]
        rfl
      | nilS =>
        cases q with
        | slc =>
          cases l with
          | nil =>
            cases r with
            | nil => exact ⟨rfl, rfl⟩
            | cons y r => exact absurd h (by simp [nilForm])
          | cons q2 l => exact absurd h (by simp [nilForm])
        | _ => exact absurd h (by simp [nilForm])
      | _ => exact absurd h (by cases q <;> cases l <;> simp [nilForm])

theorem row_agg {v : AV} {l : List Sh} {H : Heap} {s : Sh} (h : rowForm s H l (aggCs v) = true ∨ nilForm l (aggCs v) = true) : v = .agg (aggCs v) := by
  cases v with
  | agg cs => rfl
  | t x =>
    exfalso
    have key : ∀ (xs : List Tree) (l : List Sh), rowForm s H l (xs.map .t) = false ∧ nilForm l (xs.map .t) = false := by
      intro xs
      induction xs with
      | nil => intro l; cases l with
        | nil => simp [rowForm, nilForm]
        | cons q l => cases q <;> cases l <;> simp [rowForm, nilForm]
      | cons x xs ih =>
        intro l
        cases l with
        | nil => simp [rowForm, nilForm]
        | cons q l =>
          have e1 : rowForm s H (q :: l) ((x :: xs).map .t) = (bif q.ok x then rowForm s H l (xs.map .t) else false) := by cases q <;> cases l <;> rfl
          have e2 : nilForm (q :: l) ((x :: xs).map .t) = (bif q.ok x then nilForm l (xs.map .t) else false) := by cases q <;> cases l <;> rfl
          rw [e1, e2, (ih l).1, (ih l).2]
          cases q.ok x <;> exact ⟨rfl, rfl⟩
    have k2 := key [] l
    cases x <;> first
      | (rename_i cs; have := key cs l; simp only [aggCs] at h; rw [this.1, this.2] at h; simp at h; done)
      | (simp only [aggCs] at h; simp only [List.map_nil] at k2; rw [k2.1, k2.2] at h; simp at h; done)
  | _ =>
    exfalso
    simp only [aggCs] at h
    have k2 : rowForm s H l [] = false ∧ nilForm l [] = false := by
      cases l with
      | nil => simp [rowForm, nilForm]
      | cons q l => cases q <;> cases l <;> simp [rowForm, nilForm]
    rw [k2.1, k2.2] at h
    simp at h

theorem refsL_t : ∀ xs : List Tree, AV.refsL (xs.map .t) = []
  | [] => rfl
  | x :: r => by simp [AV.refsL, AV.refs, refsL_t r]

theorem callO_callR {F : Fns} {g : Nat} {l : List Sh} {args : List AV} {xs : List Tree} (hxs : allT args = some xs) (h : callO F g l args c K = some r) :
    callR F g args rd c (discover rd 4096 (AV.refsL args) []) K = some r := by
  have ha := allT_some hxs
  have hd : discover rd 4096 (AV.refsL args) [] = [] := by rw [ha, refsL_t]; rfl
  rw [hd]
  have hr : AV.renL (idxN []) args = args := by rw [renL_map, ha]; exact map_ren_t _ _
  unfold callO at h
  obtain ⟨hok, h⟩ := bif_some h
  unfold callR
  rw [hr]
  show (bif F.ok g args [] then (F.rf g args []).bind _ else none) = some r
  rw [hok, cond_true]
  cases hp : F.rf g args [] with
  | none => simp [hp] at h
  | some p =>
    obtain ⟨v, H⟩ := p
    simp only [hp, Option.bind_some] at h ⊢
    unfold callR.backTo
    cases hb : rowForm (.agg l) H l (aggCs v) with
    | true =>
      rw [hb, cond_true] at h
      have hv := row_agg (.inl hb)
      generalize aggCs v = cs at hb h hv
      subst hv
      obtain ⟨b, ⟨ys, hrb, hro⟩, hrf, hren⟩ := rowForm_spec (c := c) hb
      have hout : seenFrom ([] : List Nat).length H [.agg cs] = [b] := by
        have e : AV.refsL [.agg cs] = [b] := by simp [AV.refsL, AV.refs, hrf]
        unfold seenFrom
        rw [e]
        show discover (rdH H) 4096 [b] [] = [b]
        show (bif memN [] b then _ else match rdH H b with | .mix _ es => _ | _ => discover (rdH H) 4095 [] ([] ++ [b])) = [b]
        rw [hrb]
        rfl
      simp only [hout]
      have hk : backR [] [b] c 0 b = some c := by
        unfold backR
        simp [nth, idxN]
      show (bif nodupN [b] then K (AV.ren (backR [] [b] c 0) (.agg cs)) ⟨[], [HObj.ren (backR [] [b] c 0) (rdH H b)]⟩ else none) = some r
      have e1 : AV.ren (backR [] [b] c 0) (.agg cs) = .agg (rowOpen c l cs) := by
        show AV.agg (AV.renL (backR [] [b] c 0) cs) = _
        rw [hren _ hk]
      have e2 : HObj.ren (backR [] [b] c 0) (rdH H b) = .tre (.agg l) (rowOf H cs) := by rw [hrb, hro]; rfl
      rw [e1, e2]
      exact h
    | false =>
      rw [hb, cond_false] at h
      obtain ⟨hb2, h3⟩ := bif_some h
      clear h
      have hv := row_agg (s := .agg l) (H := H) (.inr hb2)
      generalize aggCs v = cs at hb hb2 h3 hv
      subst hv
      obtain ⟨hrf, hren⟩ := nilForm_spec (ρ := backR [] [] c 0) hb2
      have hout : seenFrom ([] : List Nat).length H [.agg cs] = [] := by
        have e : AV.refsL [.agg cs] = [] := by simp [AV.refsL, AV.refs, hrf]
        unfold seenFrom
        rw [e]
        rfl
      simp only [hout]
      show (bif nodupN [] then K (AV.ren (backR [] [] c 0) (.agg cs)) ⟨[], []⟩ else none) = some r
      have e1 : AV.ren (backR [] [] c 0) (.agg cs) = .agg (nilOpen l cs) := by
        show AV.agg (AV.renL (backR [] [] c 0) cs) = _
        rw [hren]
      rw [e1]
      exact h3

theorem callC_callR {F : Fns} {g : Nat} {args : List AV} {xs : List Tree} (hxs : allT args = some xs) (h : callC F g args c K = some r) :
    callR F g args rd c (discover rd 4096 (AV.refsL args) []) K = some r := by
  have ha := allT_some hxs
  have hd : discover rd 4096 (AV.refsL args) [] = [] := by rw [ha, refsL_t]; rfl
  rw [hd]
  have hr : AV.renL (idxN []) args = args := by rw [renL_map, ha]; exact map_ren_t _ _
  unfold callC at h
  obtain ⟨hok, h⟩ := bif_some h
  unfold callR
  rw [hr]
  show (bif F.ok g args [] then (F.rf g args []).bind _ else none) = some r
  rw [hok, cond_true]
  cases hp : F.rf g args [] with
  | none => simp [hp] at h
  | some p =>
    obtain ⟨v, H⟩ := p
    simp only [hp, Option.bind_some] at h ⊢
    cases hb : isClip v with
    | false => rw [hb, cond_false] at h; cases h
    | true =>
      rw [hb, cond_true] at h
      cases v <;> first | (cases hb; done) | exact h

theorem callA_done (hF : FnsOk P F) (sm : Sim φ I rd w) {md : Bool} {g : Nat} {s : Sh} {args : List AV} {vals : Array Value} (hex : callable P g = true → (execOp a.eval o).run P w = .ok (.enter g vals) w) (hr : RepL φ rd w I args vals.toList)
    (h : callA F md g s args rd c K = some r) : Done φ rd w I P o a c K r := by
  unfold callA at h
  cases md with
  | true =>
    simp only at h
    split at h
    · rename_i xs l hxs
      exact callR_done hF sm hex hr (callO_callR hxs h)
    · rename_i xs hxs
      exact callR_done hF sm hex hr (callC_callR hxs h)
    · exact callR_done hF sm hex hr h
  | false =>
    simp only at h
    split at h
    · rename_i xs hxs
      rw [allT_some hxs] at hr
      exact pf_done hF sm hex hr.toT h
    · split at h
      · cases h
      · rename_i wr hwr
        split at h
        · cases h
        · rename_i xs hxs
          exact frozen_done hF sm hex hr hwr hxs h

variable {ts : List AV} (hs : RepS φ rd w I ts a.tmps)

include hs in
theorem do_call (hF : FnsOk P F) (sm : Sim φ I rd w) {md : Bool} {g : Nat} {s : Sh} {cl : Call} {args : List Opd} (ho : o.op = .call cl) (hc : cl.callee = .value (.func g)) (ha : compOpds cl.args.toList = some args)
    (h : callA F md g s (evs ts args) rd c K = some r) : Done φ rd w I P o a c K r := by
  refine callA_done hF sm (vals := cl.args.map a.eval) (fun hcb => ?_) (by simpa using evs_rep hs ha) h
  have := call_exec (P := P) (w := w) (a := a) hcb ho hc (x := .func g) (va := #[]) (vc := #[]) rfl
  simpa using this

theorem RepT.fn_inv {g : Nat} {p q : List Tree} {v : Value} (h : RepT w I (.fn g p q) v) : ∃ va vc : Array Value, v = .func (.func g) va vc ∧ RepTL w I p va.toList ∧ RepTL w I q vc.toList := by
  cases h with
  | fn _ _ _ va vc ha hc h1 h2 => exact ⟨va, vc, rfl, ⟨by simpa using ha, fun i x v hx hv => h1 i x v hx (by simpa using hv)⟩, ⟨by simpa using hc, fun i x v hx hv => h2 i x v hx (by simpa using hv)⟩⟩

theorem RepA.fn_inv {g : Nat} {p q : List AV} {v : Value} (h : RepA φ rd w I (.fn g p q) v) : ∃ va vc : Array Value, v = .func (.func g) va vc ∧ RepL φ rd w I p va.toList ∧ RepL φ rd w I q vc.toList := by
  cases h with
  | fn _ _ _ va vc ha hc h1 h2 => exact ⟨va, vc, rfl, ⟨by simpa using ha, fun i x v hx hv => h1 i x v hx (by simpa using hv)⟩, ⟨by simpa using hc, fun i x v hx hv => h2 i x v hx (by simpa using hv)⟩⟩

include hs in
theorem do_callv (hF : FnsOk P F) (sm : Sim φ I rd w) {s : Sh} {cl : Call} {x : Operand} {x' : Opd} {args : List Opd} (ho : o.op = .call cl) (hc : cl.callee = .value x) (hx : compOpd x = some x') (ha : compOpds cl.args.toList = some args)
    (h : callV F (ev ts x') s (evs ts args) rd c K = some r) : Done φ rd w I P o a c K r := by
  have hrx := ev_rep hs hx
  have hra : RepL φ rd w I (evs ts args) (cl.args.map a.eval).toList := by simpa using evs_rep hs ha
  unfold callV at h
  split at h
  · rename_i y hy
    rw [hy] at hrx
    have hrx := hrx.tree
    split at h
    · rename_i xs hxs
      unfold callT at h
      split at h
      · rename_i g p q
        obtain ⟨va, vc, hq, f1, f2⟩ := hrx.fn_inv
        rw [allT_some hxs] at hra
        refine pf_done hF sm (vals := va ++ cl.args.map a.eval ++ vc) (fun hcb => call_exec hcb ho hc hq) ?_ h
        have := ((RepL.ofT (φ := φ) (rd := rd) f1).append hra).append (RepL.ofT f2)
        rw [← List.map_append, ← List.map_append] at this
        simpa using this.toT
      · simp at h
    · split at h
      · rename_i g p q _
        obtain ⟨va, vc, hq, f1, f2⟩ := hrx.fn_inv
        refine callA_done hF sm (vals := va ++ cl.args.map a.eval ++ vc) (fun hcb => call_exec hcb ho hc hq) ?_ h
        simpa using ((RepL.ofT (φ := φ) (rd := rd) f1).append hra).append (RepL.ofT f2)
      · cases h
  · rename_i g p q hy
    rw [hy] at hrx
    obtain ⟨va, vc, hq, f1, f2⟩ := hrx.fn_inv
    refine callA_done hF sm (vals := va ++ cl.args.map a.eval ++ vc) (fun hcb => call_exec hcb ho hc hq) ?_ h
    simpa using (f1.append hra).append f2
  · cases h

include hs in
theorem do_clone (sm : Sim φ I rd w) {g : Nat} {t e : TypeId} {s : Sh} {n : Nat} {x : Operand} {x' : Opd} {cl : Call} (ho : o.op = .call cl) (hc : cl.callee = .value (.func g)) (ha : cl.args.toList = [x]) (hx : compOpd x = some x')
    (hg : cloneOf P g = some t) (hu : P.underlying t = some (.slice e)) (he : shOf P e = some s) (hb : tyBytes P e = some n) (hn : n ≠ 0) (hw0 : s.width ≠ 0)
    (h : (elsOf s rd (ev ts x') fun l => bif Nat.ble (l.length * n) 140737488355328 then K (.hsl c none) ⟨[], [l.row s]⟩ else none) = some r) : Done φ rd w I P o a c K r := by
  have ha : cl.args = #[x] := by cases hq : cl.args; simp [hq] at ha; simp [ha]
  obtain ⟨l, h, hsrc⟩ := elsOf_some sm (ev_rep hs hx) h
  obtain ⟨hle, h⟩ := bif_some h
  have hle := Nat.le_of_ble_eq_true hle
  have hcb : callable P g = true := by
    obtain ⟨fn, code, hfn, hbody, _, _, _, hname⟩ := cloneOf_spec hg
    simp [callable, hfn, hbody]
    simpa using hname
  refine calls_done (vals := #[a.eval x]) (g := g) ?_ (fun hu' => clone_calls sm hg hu he hb hn hw0 hsrc hle (hu' c (Nat.le_refl _) (by simp))) h fun _ e w' he => he
  have := call_exec (P := P) (w := w) (a := a) hcb ho hc (x := .func g) (va := #[]) (vc := #[]) rfl
  simpa [ha] using this

end

end Go.Proofs.Dw
end

/-
  THE ABSTRACT WALK, 21b: the world: objects that many share and write.
-/
section
namespace Go.Proofs.Dw

section
variable {φ : Phi} {rd : Rd} {w : World} {I : Fz} {P : Program} {F : Fns}

/-! ### steps of the world -/
theorem Sim.world {I' : Fz} {w' : World} {G G' : World'} (sm : Sim φ I rd w) (h0 : rd 0 = .wld G) (st : WStep I w I' G' w') :
    Sim φ I' (upd rd 0 (.wld G')) w' ∧ Ext φ I rd w φ I' (upd rd 0 (.wld G')) w' := by
  have hw : HasW rd := ⟨0, G, h0⟩
  have ne : ∀ b, (upd rd 0 (.wld G') b).alive = true → b ≠ 0 ∧ upd rd 0 (.wld G') b = rd b := by
    intro b hb
    have h : b ≠ 0 := by
      rintro rfl
      simp [upd, HObj.alive] at hb
    exact ⟨h, if_neg h⟩
  have E : Ext φ I rd w φ I' (upd rd 0 (.wld G')) w' := by
    refine ⟨fun b hb => ?_, fun b hb => ?_, st.sub, fun g hg => ?_, fun b g C hm hφ => ?_, fun g hg hn hp => st.frame g hg (hp hw), st.size, st.os, st.tape, st.output, ⟨st.psub, fun id g hg => (st.psnew id g hg).imp_right fun h => ⟨hw, h⟩, fun _ => hw⟩⟩
    · have : b ≠ 0 := by rintro rfl; rw [h0] at hb; cases hb
      show upd rd 0 (.wld G') b = .dead
      rw [show upd rd 0 (.wld G') b = rd b from if_neg this]; exact hb
    · have : b ≠ 0 := by rintro rfl; rw [h0] at hb; cases hb
      rw [show upd rd 0 (.wld G') b = rd b from if_neg this]
      exact .inr ⟨hb, rfl, rfl, rfl⟩
    · rcases st.inew g hg with h | h
      · exact .inl h
      · exact .inr (.inl h)
    · rw [(ne b (HObj.mut_alive hm)).2] at hm
      exact .inr ⟨b, C, hm, hφ⟩
  refine ⟨?_, E⟩
  have heap : ∀ b g C, (rd b).alive = true → φ b = some (g, C) → w'.heap[g]? = w.heap[g]? := by
    intro b g C hal hφ
    refine st.frame g (sm.lt hal hφ) fun id hid => ?_
    rcases HObj.alive_cases hal with hm | hf
    · exact sm.wok.psM b g C id hm hφ hid
    · rcases sm.blk b hal with ⟨_, h⟩ | ⟨g2, C2, l1, _, l3, _⟩
      · rw [h] at hφ; cases hφ
      · rw [l1] at hφ; cases hφ; exact (sm.wok.psI id g hid).1 (l3 hf)
  refine ⟨fun b hb => ?_, fun b b' g C C' hb hb' hφ hφ' => ?_, st.fz.old, ⟨st.fz.psI, st.fz.psinj, fun b g C id hm hφ hp => ?_, fun b G0 hb => ?_⟩⟩
  · obtain ⟨_, e⟩ := ne b hb
    rw [e] at hb ⊢
    rcases sm.blk b hb with h | ⟨g, C, h1, h2, h3, h4⟩
    · exact .inl h
    · refine .inr ⟨g, C, h1, fun hm hI => ?_, fun hf => st.sub g (h3 hf), h4.ext E sm (heap b g C hb h1)⟩
      rcases st.inew g hI with h | h
      · exact h2 hm h
      · have := sm.lt hb h1; omega
  · rw [(ne b (HObj.mut_alive hb)).2] at hb
    rw [(ne b' (HObj.mut_alive hb')).2] at hb'
    exact sm.inj b b' g C C' hb hb' hφ hφ'
  · rw [(ne b (HObj.mut_alive hm)).2] at hm
    rcases st.psnew id g hp with h | h
    · exact sm.wok.psM b g C id hm hφ h
    · have := sm.lt (HObj.mut_alive hm) hφ; omega
  · by_cases h : b = 0
    · subst h
      simp only [upd, if_true] at hb
      cases hb
      exact ⟨rfl, st.wld⟩
    · rw [show upd rd 0 (.wld G') b = rd b from if_neg h] at hb
      exact absurd (sm.wok.wld b G0 hb).1 h

theorem withW_some {α : Type} {K : World' → Option α} {r : α} (h : withW rd K = some r) : ∃ G, rd 0 = .wld G ∧ K G = some r := by
  unfold withW at h
  split at h
  · rename_i G hG; exact ⟨G, hG, h⟩
  · cases h

/-- An object is written anew. -/
theorem WStep.upd {G : World'} {w' : World} {id g : Nat} {o : WObj} (fz : FzOk I w) (wl : WldOk w I G) (hid : I.ps id = some g) (hl : id < G.length) (hh : ∀ g' : Nat, g' ≠ g → w'.heap[g']? = w.heap[g']?) (hsz : w'.heap.size = w.heap.size)
    (hos : w'.os = w.os) (htp : w'.tape = w.tape) (hout : w'.output = w.output) (hk : PsKind w' g) (ho : ObjOk w' I g o) : WStep I w I (setN G id o) w' := by
  have hI : ∀ x, I x → x ≠ g := fun x hx e => by subst e; exact (fz.psI id x hid).1 hx
  have mono : ∀ {x : Tree} {v : Value}, RepT w I x v → RepT w' I x v := fun h => h.mono ⟨fun _ h => h, fun _ _ h => h⟩ fun b o hb => cell_of_heap (hh b (hI b hb)) o
  refine ⟨⟨fun x hx => by rw [hsz]; exact fz.old x hx, fun id' g' hg' => ?_, fz.psinj⟩, ⟨fun id' o' ho' => ?_, fun id' g' hg' => by rw [setN_eq, List.length_set]; exact wl.2 id' g' hg'⟩, fun _ h => h, fun _ h => .inl h, fun _ _ h => h, fun _ _ h => .inl h, fun g' _ hn => hh g' fun e => hn id (e ▸ hid), by omega, hos, htp, hout⟩
  · obtain ⟨h1, h2, h3⟩ := fz.psI id' g' hg'
    refine ⟨h1, by rw [hsz]; exact h2, ?_⟩
    by_cases e : g' = g
    · subst e; exact hk
    · exact h3.of (hh g' e)
  · rw [setN_eq, List.getElem?_set] at ho'
    by_cases e : id = id'
    · subst e
      rw [if_pos rfl, if_pos hl] at ho'
      cases ho'
      exact ⟨g, hid, ho⟩
    · rw [if_neg e] at ho'
      obtain ⟨g', h1, h2⟩ := wl.1 id' o' ho'
      have ne : g' ≠ g := fun h => e (fz.psinj id id' g hid (h ▸ h1))
      refine ⟨g', h1, ?_⟩
      cases h2 with
      | dead => exact .dead
      | cells cs arr T h hl' hc =>
        refine .cells cs arr T ((hh g' ne).trans h) hl' fun i x hx => ?_
        obtain ⟨k1, v, k2, k3⟩ := hc i x hx
        exact ⟨k1, v, k2, mono k3⟩
      | map es ms n h hl' hc => exact .map es ms n ((hh g' ne).trans h) hl' fun i p m hp hm => ⟨mono (hc i p m hp hm).1, mono (hc i p m hp hm).2⟩

/-- With an object more. -/
def Fz.more (I : Fz) (n g : Nat) : Fz := ⟨I.fz, fun id => if id = n then some g else I.ps id⟩

theorem WStep.new {G : World'} {o : WObj} {ob : Obj} (fz : FzOk I w) (wl : WldOk w I G) (hk : PsKind (withNew w ob) w.heap.size) (ho : ObjOk (withNew w ob) (I.more G.length w.heap.size) w.heap.size o) :
    WStep I w (I.more G.length w.heap.size) (G ++ [o]) (withNew w ob) := by
  have none : I.ps G.length = Option.none := by
    cases h : I.ps G.length with
    | none => rfl
    | some g => have := wl.2 _ g h; omega
  have le : I.Le (I.more G.length w.heap.size) := ⟨fun _ h => h, fun id g h => by
    show (if id = G.length then _ else _) = _
    rw [if_neg (fun e => by rw [e, none] at h; cases h)]; exact h⟩
  have old : ∀ g : Nat, g < w.heap.size → (withNew w ob).heap[g]? = w.heap[g]? := fun g h => withNew_old w ob g h
  have mono : ∀ {x : Tree} {v : Value}, RepT w I x v → RepT (withNew w ob) (I.more G.length w.heap.size) x v := fun h => h.mono le fun b o hb => cell_of_heap (old b (fz.old b hb)) o
  have sz : (withNew w ob).heap.size = w.heap.size + 1 := by simp [withNew]
  refine ⟨⟨fun x hx => by rw [sz]; have := fz.old x hx; omega, fun id g hg => ?_, fun id id' g h h' => ?_⟩, ⟨fun id o' ho' => ?_, fun id g hg => ?_⟩, fun _ h => h, fun _ h => .inl h, le.2, fun id g hg => ?_, fun g hg _ => old g hg, by omega, rfl, rfl, rfl⟩
  · have hg : (if id = G.length then some w.heap.size else I.ps id) = some g := hg
    split at hg
    · cases hg
      exact ⟨fun hI => Nat.lt_irrefl _ (fz.old _ hI), by rw [sz]; omega, hk⟩
    · obtain ⟨h1, h2, h3⟩ := fz.psI id g hg
      exact ⟨h1, by rw [sz]; omega, h3.of (old g h2)⟩
  · have h : (if id = G.length then some w.heap.size else I.ps id) = some g := h
    have h' : (if id' = G.length then some w.heap.size else I.ps id') = some g := h'
    split at h
    · rename_i e
      split at h'
      · rename_i e'; omega
      · cases h; have := (fz.psI id' _ h').2.1; omega
    · split at h'
      · cases h'; have := (fz.psI id _ h).2.1; omega
      · exact fz.psinj id id' g h h'
  · rcases Nat.lt_or_ge id G.length with hlt | hge
    · rw [List.getElem?_append_left hlt] at ho'
      obtain ⟨g, h1, h2⟩ := wl.1 id o' ho'
      have hg := (fz.psI id g h1).2.1
      refine ⟨g, le.2 id g h1, ?_⟩
      cases h2 with
      | dead => exact .dead
      | cells cs arr T h hl' hc =>
        refine .cells cs arr T ((old g hg).trans h) hl' fun i x hx => ?_
        obtain ⟨k1, v, k2, k3⟩ := hc i x hx
        exact ⟨k1, v, k2, mono k3⟩
      | map es ms n h hl' hc => exact .map es ms n ((old g hg).trans h) hl' fun i p m hp hm => ⟨mono (hc i p m hp hm).1, mono (hc i p m hp hm).2⟩
    · rw [List.getElem?_append_right hge] at ho'
      have hid : id = G.length := by
        have := (List.getElem?_eq_some_iff.1 ho').1
        simp at this; omega
      subst hid
      simp at ho'; subst ho'
      exact ⟨w.heap.size, by simp [Fz.more], ho⟩
  · have hg : (if id = G.length then some w.heap.size else I.ps id) = some g := hg
    split at hg
    · rename_i e; subst e; simp
    · have := wl.2 id g hg; simp; omega
  · have hg : (if id = G.length then some w.heap.size else I.ps id) = some g := hg
    split at hg
    · cases hg; exact .inr (Nat.le_refl _)
    · exact .inl hg

/-! ### values as trees -/
theorem freezes_wld {ok : Nat → Bool} {l : List Nat} {wr : List (Nat × HObj)} (h : freezes ok rd l = some wr) (b : Nat) (G : World') (hb : rd b = .wld G) : wrR rd wr b = .wld G := by
  rcases wrR_get wr rd b with ⟨k, _⟩ | ⟨o, k, ke⟩
  · rw [k]; exact hb
  · obtain ⟨_, s, xs, rfl, h | ⟨es, h, _⟩⟩ := (freezes_spec h).1 b o k <;> rw [hb] at h <;> cases h

theorem treesOf_some' {α : Type} {args : List AV} {vals : List Value} {K : List Tree → List (Nat × HObj) → Option α} {r : α} (sm : Sim φ I rd w) (hr : RepL φ rd w I args vals) (h : treesOf args rd K = some r) :
    ∃ xs wr I1, K xs wr = some r ∧ RepTL w I1 xs vals ∧ Sim φ I1 (wrR rd wr) w ∧ Ext φ I rd w φ I1 (wrR rd wr) w ∧ (∀ b, rd b = .unborn → wrR rd wr b = .unborn) := by
  unfold treesOf at h
  split at h
  · rename_i xs hxs
    rw [allT_some hxs] at hr
    exact ⟨xs, [], I, h, hr.toT, sm, .refl _ _ _ _, fun _ h => h⟩
  · split at h
    · cases h
    · rename_i wr hwr
      split at h
      · cases h
      · rename_i xs hxs
        obtain ⟨k1, k2⟩ := sm.freeze (I' := Frz φ rd I (discover rd 4096 (AV.refsL args) [])) (w' := w) hwr (fun _ h => h) (fun _ h => .inl h) (fun b hb => Frz.lt sm b hb) ⟨fun _ _ => rfl, Nat.le_refl _, rfl, rfl, rfl⟩ rfl
        refine ⟨xs, wr, _, h, mapO_args sm hxs hr, k1, k2, fun b hb => ?_⟩
        rcases wrR_get wr rd b with ⟨k, _⟩ | ⟨o, k, ke⟩
        · rw [k]; exact hb
        · obtain ⟨_, s, xs, rfl, h | ⟨es, h, _⟩⟩ := (freezes_spec hwr).1 b o k <;> rw [hb] at h <;> cases h

theorem treesOf_some {α : Type} {args : List AV} {vals : List Value} {K : List Tree → List (Nat × HObj) → Option α} {r : α} (sm : Sim φ I rd w) (hr : RepL φ rd w I args vals) (h : treesOf args rd K = some r) :
    ∃ xs wr I1, K xs wr = some r ∧ RepTL w I1 xs vals ∧ Sim φ I1 (wrR rd wr) w ∧ Ext φ I rd w φ I1 (wrR rd wr) w ∧ (∀ b G, rd b = .wld G → wrR rd wr b = .wld G) := by
  unfold treesOf at h
  split at h
  · rename_i xs hxs
    rw [allT_some hxs] at hr
    exact ⟨xs, [], I, h, hr.toT, sm, .refl _ _ _ _, fun _ _ h => h⟩
  · split at h
    · cases h
    · rename_i wr hwr
      split at h
      · cases h
      · rename_i xs hxs
        obtain ⟨k1, k2⟩ := sm.freeze (I' := Frz φ rd I (discover rd 4096 (AV.refsL args) [])) (w' := w) hwr (fun _ h => h) (fun _ h => .inl h) (fun b hb => Frz.lt sm b hb) ⟨fun _ _ => rfl, Nat.le_refl _, rfl, rfl, rfl⟩ rfl
        exact ⟨xs, wr, _, h, mapO_args sm hxs hr, k1, k2, fun b G hb => freezes_wld hwr b G hb⟩

theorem zTree_rep {v : AV} {x : Tree} {u : Value} (h : zTree v = some x) (hr : RepA φ rd w I v u) : RepT w I x u := by
  unfold zTree at h
  split at h
  · cases h; exact hr.tree
  · cases h; rw [hr.nilS_inv]; exact .slc0 none 0
  · cases h

theorem app_wr0 (c : Nat) (wr : List (Nat × HObj)) (o : HObj) : appRd rd c ⟨wr ++ [(0, o)], []⟩ = Dw.upd (wrR rd wr) 0 o := by
  have key : ∀ (wr : List (Nat × HObj)) (rd : Rd), wrR rd (wr ++ [(0, o)]) = Dw.upd (wrR rd wr) 0 o := by
    intro wr
    induction wr with
    | nil => intro rd; rfl
    | cons p wr ih => intro rd; obtain ⟨b, q⟩ := p; exact ih _
  funext x
  simp only [appRd, List.length_nil]
  rw [if_neg (by omega), key]

theorem app_wrs (c : Nat) (wr : List (Nat × HObj)) : appRd rd c ⟨wr, []⟩ = wrR rd wr := by
  funext x
  simp only [appRd, List.length_nil]
  rw [if_neg (by omega)]

/-! ### loads -/
/-- A shape in the world's words. -/
def ShIs (s s0 : Sh) : Prop := s = s0 ∨ (s0 = .any ∧ (s = .wp ∨ s = .wm))

theorem ShIs.ok {s s0 : Sh} (h : ShIs s s0) {x : Tree} (hx : s.ok x = true) : s0.ok x = true := by
  rcases h with rfl | ⟨rfl, rfl | rfl⟩
  · exact hx
  · cases x <;> simp_all [Sh.ok, Tree.isSc]
  · cases x <;> simp_all [Sh.ok, Tree.isSc]

theorem ShIs.width {s s0 : Sh} (h : ShIs s s0) : s.width = s0.width := by
  rcases h with rfl | ⟨rfl, rfl | rfl⟩ <;> rfl

theorem loadBy_sh {α : Type} {s s0 : Sh} (hs : ShIs s s0) {j : Nat} {cs : List AV} {K : AV → Option α} {r : α} (h : loadBy s j cs K = some r) : loadBy s0 j cs K = some r := by
  rcases hs with rfl | ⟨rfl, hs⟩
  · exact h
  · have hh : ∀ s, (s = .wp ∨ s = .wm) → loadBy s j cs K = some r → loadBy .any j cs K = some r := by
      intro s hs h
      have key : (match nth cs j with
        | some (.t x) => bif s.ok x then K (.t (s.open x)) else none
        | some v => bif v.isSc then K v else none
        | none => none) = some r := by
        rcases hs with rfl | rfl <;> exact h
      show (match nth cs j with
        | some (.t x) => bif Sh.ok .any x then K (.t (Sh.open .any x)) else none
        | some v => bif v.isSc then K v else none
        | none => none) = some r
      split at key
      · rename_i x hx
        obtain ⟨hok, key⟩ := bif_some key
        rw [Sh.open_eq s x hok] at key
        rw [ShIs.ok (s0 := .any) (.inr ⟨rfl, hs⟩) hok, cond_true]
        exact key
      · rename_i v hv _
        exact key
      · cases key
    exact hh s hs h

theorem wcells_some {α : Type} {G : World'} {id : Nat} : ∀ {l : List Sh} {j : Nat} {K : List Tree → Option α} {r : α}, wcells G id j l K = some r →
    (l = [] ∧ K [] = some r) ∨ ∃ cs, nth G id = some (.cells cs) ∧ j + l.length ≤ cs.length ∧ K ((cs.drop j).take l.length) = some r
  | [], j, K, r, h => .inl ⟨rfl, h⟩
  | s :: l, j, K, r, h => by
    simp only [wcells] at h
    cases hc : wcell G id j with
    | none => simp [hc] at h
    | some x =>
      simp only [hc, Option.bind_some] at h
      obtain ⟨hok, h⟩ := bif_some h
      rw [Sh.open_eq s x hok] at h
      have hc' := hc
      unfold wcell at hc'
      split at hc'
      · rename_i cs hcs
        rw [nth_eq] at hc'
        have hj := (List.getElem?_eq_some_iff.1 hc').1
        have hd : cs.drop j = x :: cs.drop (j + 1) := by
          rw [List.drop_eq_getElem_cons hj]
          congr 1
          rw [List.getElem?_eq_getElem hj] at hc'; cases hc'; rfl
        refine .inr ⟨cs, hcs, ?_⟩
        rcases wcells_some h with ⟨rfl, h⟩ | ⟨cs', hcs', hle, h⟩
        · refine ⟨by simp; omega, ?_⟩
          rw [hd]; exact h
        · rw [hcs] at hcs'; cases hcs'
          refine ⟨by simp; omega, ?_⟩
          rw [hd, List.length_cons, List.take_succ_cons]; exact h
      · cases hc'

theorem allT_map (l : List Tree) : allT (l.map .t) = some l := by
  induction l with
  | nil => rfl
  | cons x l ih => simp [allT, ih]

theorem loadW_some {α : Type} {s : Sh} {G : World'} {id j : Nat} {K : AV → Option α} {r : α} (h : loadW s G id j K = some r) : ∃ cs, nth G id = some (.cells cs) ∧ loadBy s j (cs.map .t) K = some r := by
  unfold loadW at h
  split at h
  · cases h
  · rename_i l hl
    rcases wcells_some h with ⟨e, h⟩ | ⟨cs, hcs, hle, h⟩
    · exact absurd e hl
    · refine ⟨cs, hcs, ?_⟩
      simp only [loadBy, List.length_map]
      rw [Nat.ble_eq_true_of_le hle, cond_true, ← List.map_drop, ← List.map_take]
      unfold mkAgg
      rw [allT_map]; exact h
  · rename_i h1 h2
    cases hc : wcell G id j with
    | none => simp [hc] at h
    | some x =>
      simp only [hc, Option.bind_some] at h
      unfold wcell at hc
      split at hc
      · rename_i cs hcs
        refine ⟨cs, hcs, ?_⟩
        have key : (match nth (cs.map AV.t) j with
          | some (.t x) => bif s.ok x then K (.t (s.open x)) else none
          | some v => bif v.isSc then K v else none
          | none => none) = some r := by
          rw [nth_eq, List.getElem?_map, ← nth_eq, hc]; exact h
        cases s <;> first | exact key | exact absurd rfl (h2 _)
      · cases hc

/-- Where an object of the world lies. -/
theorem Sim.cellsW {G : World'} {id : Nat} {cs : List Tree} (sm : Sim φ I rd w) (h0 : rd 0 = .wld G) (hc : nth G id = some (.cells cs)) {g : Nat} (hg : I.ps id = some g) :
    CellsAt φ rd w I g 0 (cs.map .t) ∧ (∀ x ∈ cs.map AV.t, x.isSc = true) ∧ ∃ arr T, w.heap[g]? = some (.cells arr T (0, 0)) ∧ cs.length ≤ arr.size := by
  rw [nth_eq] at hc
  obtain ⟨g', h1, h2⟩ := (sm.wok.wld 0 G h0).2.1 id _ hc
  rw [hg] at h1; cases h1
  cases h2 with
  | cells _ arr T h hl hcs =>
    refine ⟨fun k y hy => ?_, fun x hx => ?_, arr, T, h, hl⟩
    · rw [List.getElem?_map] at hy
      cases hq : cs[k]? with
      | none => simp [hq] at hy
      | some z =>
        simp [hq] at hy; subst hy
        obtain ⟨_, v, k2, k3⟩ := hcs k z hq
        refine ⟨v, ?_, .t _ _ k3⟩
        simp [World.cell?, h, k2]
    · rw [List.mem_map] at hx
      obtain ⟨z, hz, rfl⟩ := hx
      obtain ⟨i, hi⟩ := List.mem_iff_getElem?.1 hz
      exact (hcs i z hi).1

variable {o : Oper} {a : Act} {c : Nat} {α : Type} {K : AV → Delta → Option α} {r : α} {ts : List AV} (hs : RepS φ rd w I ts a.tmps)

theorem RepT.wp_inv {id off : Nat} {v : Value} (h : RepT w I (.wp id off) v) : ∃ g, I.ps id = some g ∧ v = .pointer (some ⟨g, off, none⟩) := by
  cases h with
  | wp _ _ g h => exact ⟨g, h, rfl⟩

theorem RepT.wm_inv {id : Nat} {v : Value} (h : RepT w I (.wm id) v) : ∃ g, I.ps id = some g ∧ v = .map (some g) := by
  cases h with
  | wm _ g h => exact ⟨g, h, rfl⟩

include hs in
theorem do_nonnilW {x : Operand} {y : Opd} {i j : Nat} (ho : o.op = .nilCheck x) (hx : compOpd x = some y) (hv : ev ts y = .t (.wp i j)) (h : K (.t (.wp i j)) .none = some r) : Gives φ rd w I P o a K r := by
  have hr := ev_rep hs hx
  rw [hv] at hr
  obtain ⟨g, _, e⟩ := hr.tree.wp_inv
  refine ⟨_, _, h, ?_, hr⟩
  simp [execOp, ho, e]

include hs in
theorem do_faW {s : TypeId} {x : Operand} {x' : Opd} {f i j : Nat} {fs : Array Field} {fl : Field} {n : Nat} (ho : o.op = .fieldAddr s x f) (hu : P.underlying s = some (.struct fs)) (hfl : fs[f]? = some fl)
    (hn : tySize P fl.type = some (n + 1)) (hx : compOpd x = some x') (hv : ev ts x' = .t (.wp i j)) (h : K (.t (.wp i (j + fl.offset))) .none = some r) : Gives φ rd w I P o a K r := by
  have hr := ev_rep hs hx
  rw [hv] at hr
  obtain ⟨g, hg, e⟩ := hr.tree.wp_inv
  have hp : ∀ A : Addr, (fieldPlace A fl).run P w = .ok (A.add fl.offset) w := fun A => by
    simp [fieldPlace, run_sizeOf' hn]
  refine ⟨_, _, h, ?_, .t _ _ (.wp i (j + fl.offset) g hg)⟩
  simp [execOp, ho, e, Instr.fieldAt, run_underlying' hu, hfl, Instr.sureAddr, hp, Addr.add_none]

include hs in
theorem do_ldW {t : TypeId} {x : Operand} {y : Opd} {s s0 : Sh} {i j : Nat} (sm : Sim φ I rd w) (ho : o.op = .load t x) (ht : shOf P t = some s0) (hsh : ShIs s s0) (hx : compOpd x = some y) (hv : ev ts y = .t (.wp i j))
    (h : (withW rd fun G => loadW s G i j fun v => K v .none) = some r) : Gives φ rd w I P o a K r := by
  have hr := ev_rep hs hx
  rw [hv] at hr
  obtain ⟨g, hg, e⟩ := hr.tree.wp_inv
  obtain ⟨G, h0, h⟩ := withW_some h
  obtain ⟨cs, hcs, h⟩ := loadW_some h
  obtain ⟨k1, k2, _⟩ := sm.cellsW h0 hcs hg
  obtain ⟨x', v', m1, m2, m3⟩ := loadBy_run ht k1 k2 (loadBy_sh hsh h)
  rw [Nat.zero_add] at m2
  refine ⟨x', v', m1, ?_, m3⟩
  simp [execOp, ho, e, Instr.loadAt, Instr.sureAddr, m2]

end

end Go.Proofs.Dw
end

/-
  THE ABSTRACT WALK, 21c: the world: stores, new objects, maps.
-/
section
namespace Go.Proofs.Dw

section
variable {φ : Phi} {rd : Rd} {w : World} {I : Fz} {P : Program} {F : Fns}

theorem setL_length : ∀ (new : List Tree) (cs : List Tree) (j : Nat), (setL cs j new).length = cs.length
  | [], _, _ => rfl
  | x :: r, cs, j => by rw [setL, setL_length r, setN_eq, List.length_set]

theorem setL_get : ∀ (new : List Tree) (cs : List Tree) (o k : Nat), o + new.length ≤ cs.length → (setL cs o new)[k]? = if o ≤ k ∧ k < o + new.length then new[k - o]? else cs[k]?
  | [], cs, o, k, _ => by simp [setL]; omega
  | v :: r, cs, o, k, h => by
    simp only [List.length_cons] at h
    rw [setL, setL_get r _ (o + 1) k (by rw [setN_eq, List.length_set]; omega), setN_eq, List.getElem?_set]
    simp only [List.length_cons]
    by_cases h1 : o + 1 ≤ k ∧ k < o + 1 + r.length
    · rw [if_pos h1, if_pos (by omega), show k - o = (k - (o + 1)) + 1 by omega]; simp
    · rw [if_neg h1]
      by_cases h2 : o = k
      · subst h2; rw [if_pos rfl, if_pos (by omega), if_pos (by omega)]; simp
      · rw [if_neg h2, if_neg (by omega)]

theorem wset_some {G G' : World'} {id j : Nat} {new : List Tree} (h : wset G id j new = some G') : ∃ cs, G[id]? = some (.cells cs) ∧ j + new.length ≤ cs.length ∧ (∀ x ∈ new, x.isSc = true) ∧ G' = setN G id (.cells (setL cs j new)) := by
  unfold wset at h
  split at h
  · rename_i cs hcs
    obtain ⟨hb, h⟩ := bif_some h
    cases h
    simp only [Bool.and_eq_true, List.all_eq_true] at hb
    exact ⟨cs, by rw [← nth_eq]; exact hcs, Nat.le_of_ble_eq_true hb.1, hb.2, rfl⟩
  · cases h

theorem RepTL.one_inv {xs : List Tree} {v : Value} (h : RepTL w I xs [v]) : ∃ y, xs = [y] ∧ RepT w I y v := by
  match xs, h with
  | [y], h => exact ⟨y, rfl, h.2 0 y v rfl rfl⟩
  | [], h => have := h.1; simp at this
  | _ :: _ :: _, h => have := h.1; simp at this

theorem RepTL.two {xs : List Tree} {u v : Value} (h : RepTL w I xs [u, v]) : ∃ x y, xs = [x, y] ∧ RepT w I x u ∧ RepT w I y v := by
  match xs, h with
  | [x, y], h => exact ⟨x, y, rfl, h.2 0 x u rfl rfl, h.2 1 y v rfl rfl⟩
  | [], h => have := h.1; simp at this
  | [_], h => have := h.1; simp at this
  | _ :: _ :: _ :: _, h => have := h.1; simp at this

/-- A store into an object of the world. -/
theorem WStep.store {G G' : World'} {id j g : Nat} {new : List Tree} {vs : List Value} (fz : FzOk I w) (wl : WldOk w I G) (hid : I.ps id = some g) (h : wset G id j new = some G') (hr : RepTL w I new vs) :
    WStep I w I G' (w.setCells g j vs) ∧ ∃ arr T, w.heap[g]? = some (.cells arr T (0, 0)) ∧ j + vs.length ≤ arr.size := by
  obtain ⟨cs, hcs, hfit, hsc, rfl⟩ := wset_some h
  obtain ⟨g', h1, h2⟩ := wl.1 id _ hcs
  rw [hid] at h1; cases h1
  cases h2 with
  | cells _ arr T hh hl hc =>
    obtain ⟨k1, k2, k3, k4, k5, k6⟩ := setCells_heap g T vs j w arr hh
    have hlen : vs.length = new.length := hr.1
    have hI : ∀ x, I x → x ≠ g := fun x hx e => by subst e; exact (fz.psI id x hid).1 hx
    have mono : ∀ {x : Tree} {v : Value}, RepT w I x v → RepT (w.setCells g j vs) I x v := fun h => h.mono ⟨fun _ h => h, fun _ _ h => h⟩ fun b o hb => cell_of_heap (k2 b (hI b hb)) o
    refine ⟨WStep.upd fz wl hid (List.getElem?_eq_some_iff.1 hcs).1 k2 k3 k4 k5 k6 (.inl ⟨_, _, k1⟩) (.cells _ _ T k1 (by rw [setL_length, setArr_size]; exact hl) fun i x hx => ?_), arr, T, hh, by omega⟩
    rw [setL_get new cs j i hfit] at hx
    rw [setArr_get vs arr j i (by omega)]
    by_cases hi : j ≤ i ∧ i < j + new.length
    · rw [if_pos hi] at hx
      rw [if_pos (by omega)]
      have hlt : i - j < vs.length := by omega
      exact ⟨hsc x (List.mem_of_getElem? hx), vs[i - j], List.getElem?_eq_getElem hlt, mono (hr.2 (i - j) x _ hx (List.getElem?_eq_getElem hlt))⟩
    · rw [if_neg hi] at hx
      rw [if_neg (by omega)]
      obtain ⟨q1, v, q2, q3⟩ := hc i x hx
      exact ⟨q1, v, q2, mono q3⟩

theorem more_le {G : World'} (wl : WldOk w I G) (g : Nat) : I.Le (I.more G.length g) := by
  refine ⟨fun _ h => h, fun id g' h => ?_⟩
  have := wl.2 id g' h
  show (if id = G.length then _ else _) = _
  rw [if_neg (by omega)]; exact h

theorem RepT.more {G : World'} {x : Tree} {v : Value} (fz : FzOk I w) (wl : WldOk w I G) (ob : Obj) (h : RepT w I x v) : RepT (withNew w ob) (I.more G.length w.heap.size) x v :=
  h.mono (more_le wl _) fun b o hb => cell_of_heap (withNew_old w ob b (fz.old b hb)) o

variable {o : Oper} {a : Act} {c : Nat} {α : Type} {K : AV → Delta → Option α} {r : α} {ts : List AV} (hs : RepS φ rd w I ts a.tmps) (sm : Sim φ I rd w)

include hs sm in
theorem do_stW {t : TypeId} {s : Sh} {x v : Operand} {x' v' : Opd} {i j : Nat} (ho : o.op = .store t x v) (hs' : shOf P t = some s) (hx : compOpd x = some x') (hv : compOpd v = some v') (he : ev ts x' = .t (.wp i j))
    (h : (treesOf [ev ts v'] rd fun xs wr => withW rd fun G => storeW s G i j (xs.headD .nilp) fun G' => K .undef ⟨wr ++ [(0, .wld G')], []⟩) = some r) : Done φ rd w I P o a c K r := by
  have hrx := ev_rep hs hx
  rw [he] at hrx
  obtain ⟨g, hg, ea⟩ := hrx.tree.wp_inv
  obtain ⟨xs, wr, I1, h, hr, sm1, E1, hwl⟩ := treesOf_some sm (vals := [a.eval v]) (.cons (ev_rep hs hv) .nil) h
  obtain ⟨y, rfl, hy⟩ := hr.one_inv
  obtain ⟨G, h0, h⟩ := withW_some h
  simp only [List.headD_cons] at h
  have h01 := hwl 0 G h0
  have wl := (sm1.wok.wld 0 G h01).2
  have hg1 := E1.wx.psub i g hg
  have key : ∃ new G', wset G i j new = some G' ∧ K .undef ⟨wr ++ [(0, .wld G')], []⟩ = some r ∧ RepTL w I1 new (a.eval v).cells.toList ∧ new.length = s.width := by
    have one : ∀ (hw : s.width = 1), ((wset G i j [y]).bind fun G' => K .undef ⟨wr ++ [(0, .wld G')], []⟩) = some r → ∃ new G', wset G i j new = some G' ∧ K .undef ⟨wr ++ [(0, .wld G')], []⟩ = some r ∧ RepTL w I1 new (a.eval v).cells.toList ∧ new.length = s.width := by
      intro hw h
      cases hq : wset G i j [y] with
      | none => simp [hq] at h
      | some G' =>
        simp only [hq, Option.bind_some] at h
        obtain ⟨_, _, _, hsc, _⟩ := wset_some hq
        rw [oneCell_cells (hy.one (hsc y (by simp)))]
        exact ⟨[y], G', hq, h, ⟨rfl, fun k x v hx hv => by
          match k with
          | 0 => simp at hx hv; subst hx; subst hv; exact hy
          | k + 1 => simp at hx⟩, by rw [hw]; rfl⟩
    unfold storeW at h
    split at h
    · rename_i l
      split at h
      · rename_i cs
        obtain ⟨hb, h⟩ := bif_some h
        cases hq : wset G i j cs with
        | none => simp [hq] at h
        | some G' =>
          simp only [hq, Option.bind_some] at h
          obtain ⟨vs, ev, hvs, _⟩ := hy.agg_inv
          rw [ev]
          exact ⟨cs, G', hq, h, hvs, Nat.eq_of_beq_eq_true hb⟩
      · cases h
    · rename_i hne
      exact one (by cases s <;> first | rfl | exact absurd rfl (hne _)) h
  obtain ⟨new, G', hset, h, hnew, hlen⟩ := key
  obtain ⟨st, arr, T, hh, hfit⟩ := WStep.store sm1.fzOk wl hg1 hset hnew
  obtain ⟨k1, k2⟩ := sm1.world h01 st
  refine done_skip h fun _ => ?_
  rw [app_wr0]
  refine ⟨φ, I1, _, ?_, k1, E1.trans k2⟩
  have hz := (shOf_spec hs').1
  obtain ⟨_, _, _, hsc, _⟩ := wset_some hset
  have hcs : (a.eval v).cells.size = s.width := by rw [← hlen]; have := hnew.1; simpa using this
  have ones : ∀ u ∈ (a.eval v).cells.toList, u.oneCell' = true := by
    intro u hu
    obtain ⟨k, hk, rfl⟩ := List.mem_iff_getElem.1 hu
    have hk' : k < new.length := by rw [← hnew.1]; exact hk
    exact (hnew.2 k new[k] _ (by simp) (by simp)).one (hsc _ (List.getElem_mem _))
  have hrun := run_storeVar hz hh (a.eval v) hcs (o := j) (by rw [← hcs]; simpa using hfit) ones
  simp [execOp, ho, ea, Instr.storeAt, Instr.sureAddr, hrun]

omit hs in
include sm in
theorem do_wnew {t : TypeId} {s : Sh} {z : AV} (ho : o.op = .alloc t) (hz : tyZeroAV P t = some z)
    (h : (cellsBy s z fun cs => match mapO zTree cs with
      | some xs => withW rd fun G => bif xs.all Tree.isSc then K (.t (.wp G.length 0)) ⟨[(0, .wld (G ++ [.cells xs]))], []⟩ else none
      | none => none) = some r) : Done φ rd w I P o a c K r := by
  unfold tyZeroAV at hz
  split at hz
  · rename_i zv hzv
    have hr : RepA φ rd w I z zv := avOf_rep hz
    obtain ⟨h, hl, hf, hc⟩ := cellsBy_some hr h
    split at h
    · rename_i xs hxs
      obtain ⟨G, h0, h⟩ := withW_some h
      obtain ⟨hb, h⟩ := bif_some h
      rw [List.all_eq_true] at hb
      obtain ⟨k1, k2⟩ := mapO_some hxs
      have wl := (sm.wok.wld 0 G h0).2
      have hn : (withNew w (.cells zv.cells t (0, 0))).heap[w.heap.size]? = some (.cells zv.cells t (0, 0)) := withNew_new w _
      have hsz : zv.cells.size = z.cells.length := by have := hc.1; simpa using this
      have st := WStep.new (o := .cells xs) (ob := .cells zv.cells t (0, 0)) sm.fzOk wl (.inl ⟨_, _, hn⟩) (.cells xs _ t hn (by omega) fun i x hx => by
        have hi : i < z.cells.length := by have := (List.getElem?_eq_some_iff.1 hx).1; omega
        have hi' : i < zv.cells.size := by omega
        refine ⟨hb x (List.mem_of_getElem? hx), zv.cells[i], by simp [hi'], RepT.more sm.fzOk wl _ (zTree_rep (k2 i _ x (List.getElem?_eq_getElem hi) hx) (hc.2 i _ _ (List.getElem?_eq_getElem hi) (by simp [hi'])))⟩)
      obtain ⟨m1, m2⟩ := sm.world h0 st
      refine done_value h fun _ => ?_
      rw [show (⟨[(0, HObj.wld (G ++ [.cells xs]))], []⟩ : Delta) = ⟨[] ++ [(0, .wld (G ++ [.cells xs]))], []⟩ from rfl, app_wr0]
      refine ⟨φ, _, .pointer (some ⟨w.heap.size, 0, none⟩), withNew w (.cells zv.cells t (0, 0)), ?_, .t _ _ (.wp G.length 0 w.heap.size (by simp [Fz.more])), m1, m2⟩
      simp [execOp, ho, Instr.alloc, run_zeroValue' hzv, newVar, newRow, withNew]
    · cases h
  · cases hz

include hs sm in
theorem do_wbox {t : TypeId} {s : Sh} {x : Operand} {x' : Opd} (ho : o.op = .box t x) (hx : compOpd x = some x')
    (h : (cellsBy s (ev ts x') fun cs => treesOf cs rd fun xs wr => withW rd fun G => bif xs.all Tree.isSc then K (.t (.wp G.length 0)) ⟨wr ++ [(0, .wld (G ++ [.cells xs]))], []⟩ else none) = some r) : Done φ rd w I P o a c K r := by
  have hr := ev_rep hs hx
  obtain ⟨h, hl, hf, hc⟩ := cellsBy_some hr h
  obtain ⟨xs, wr, I1, h, hrt, sm1, E1, hwl⟩ := treesOf_some sm hc h
  obtain ⟨G, h0, h⟩ := withW_some h
  obtain ⟨hb, h⟩ := bif_some h
  rw [List.all_eq_true] at hb
  have h01 := hwl 0 G h0
  have wl := (sm1.wok.wld 0 G h01).2
  have hn : (withNew w (.cells (a.eval x).cells t (0, 0))).heap[w.heap.size]? = some (.cells (a.eval x).cells t (0, 0)) := withNew_new w _
  have hsz : (a.eval x).cells.size = xs.length := by have := hrt.1; simpa using this
  have st := WStep.new (o := .cells xs) (ob := .cells (a.eval x).cells t (0, 0)) sm1.fzOk wl (.inl ⟨_, _, hn⟩) (.cells xs _ t hn (by omega) fun i y hy => by
    have hi : i < xs.length := (List.getElem?_eq_some_iff.1 hy).1
    have hi' : i < (a.eval x).cells.size := by omega
    exact ⟨hb y (List.mem_of_getElem? hy), (a.eval x).cells[i], by simp [hi'], RepT.more sm1.fzOk wl _ (hrt.2 i _ _ hy (by simp [hi']))⟩)
  obtain ⟨m1, m2⟩ := sm1.world h01 st
  refine done_value h fun _ => ?_
  rw [app_wr0]
  refine ⟨φ, _, .pointer (some ⟨w.heap.size, 0, none⟩), withNew w (.cells (a.eval x).cells t (0, 0)), ?_, .t _ _ (.wp G.length 0 w.heap.size (by simp [Fz.more])), m1, E1.trans m2⟩
  simp [execOp, ho, Instr.box, newVar, newRow, withNew]

omit hs in
include sm in
theorem do_wmk {t : TypeId} {q : Option Operand} (ho : o.op = .makeMap t q) (hq : q = none ∨ ∃ k n key e, q = some (.const (.int k n)) ∧ P.underlying t = some (.map key e))
    (h : (withW rd fun G => K (.t (.wm G.length)) ⟨[(0, .wld (G ++ [.map []]))], []⟩) = some r) : Done φ rd w I P o a c K r := by
  obtain ⟨G, h0, h⟩ := withW_some h
  have wl := (sm.wok.wld 0 G h0).2
  have hn : (withNew w (.map #[] 0)).heap[w.heap.size]? = some (.map #[] 0) := withNew_new w _
  have st := WStep.new (o := .map []) (ob := .map #[] 0) sm.fzOk wl (.inr ⟨_, _, hn⟩) (.map [] #[] 0 hn rfl fun i p m hp _ => by simp at hp)
  obtain ⟨m1, m2⟩ := sm.world h0 st
  refine done_value h fun _ => ?_
  rw [show (⟨[(0, HObj.wld (G ++ [.map []]))], []⟩ : Delta) = ⟨[] ++ [(0, .wld (G ++ [.map []]))], []⟩ from rfl, app_wr0]
  refine ⟨φ, _, .map (some w.heap.size), withNew w (.map #[] 0), ?_, .t _ _ (.wm G.length w.heap.size (by simp [Fz.more])), m1, m2⟩
  rcases hq with rfl | ⟨k, n, key, e, rfl, hu⟩
  · simp [execOp, ho, Instr.makeMap, withNew]
  · simp [execOp, ho, Instr.makeMap, run_underlying' hu, Act.eval, asInt, asIntOf, withNew]

end

end Go.Proofs.Dw
end

/-
  THE ABSTRACT WALK, 21d: the world: maps, and calls that are handed it.
-/
section
namespace Go.Proofs.Dw

section
variable {φ : Phi} {rd : Rd} {w : World} {I : Fz} {P : Program} {F : Fns}

theorem keyC_spec {t : TypeId} {q : KeyC} (h : keyC P t = some q) : ∃ d, P.underlying t = some d ∧
    ((q = .int ∧ ∃ k, d = .int k) ∨ (q = .str ∧ d = .string) ∨ (q = .ptr ∧ ∃ e m, d = .pointer e ∧ tySize P e = some (m + 1)) ∨
      ∃ n e e' m, q = .arr n ∧ d = .array n e ∧ tySize P e = some 1 ∧ P.underlying e = some (.pointer e') ∧ tySize P e' = some (m + 1)) := by
  unfold keyC at h
  split at h
  · rename_i k hu; cases h; exact ⟨_, hu, .inl ⟨rfl, k, rfl⟩⟩
  · rename_i hu; cases h; exact ⟨_, hu, .inr (.inl ⟨rfl, rfl⟩)⟩
  · rename_i e hu
    split at h
    · rename_i m hm; cases h; exact ⟨_, hu, .inr (.inr (.inl ⟨rfl, e, m, rfl, hm⟩))⟩
    · cases h
  · rename_i n e hu
    split at h
    · rename_i e' h1 h2
      split at h
      · rename_i m hm; cases h; exact ⟨_, hu, .inr (.inr (.inr ⟨n, e, e', m, rfl, rfl, h1, h2, hm⟩))⟩
      · cases h
    · cases h
  · cases h

theorem ptrEqs_cons {x : Tree} {xs ys0 : List Tree} {b : Bool} (h : ptrEqs (x :: xs) ys0 = some b) : ∃ a p a' p' ys, x = .wp a p ∧ ys0 = .wp a' p' :: ys ∧ (bif Nat.beq a a' && Nat.beq p p' then ptrEqs xs ys else some false) = some b := by
  cases ys0 with
  | nil => cases x <;> simp [ptrEqs] at h
  | cons y ys =>
    cases x <;> cases y <;> first | (simp [ptrEqs] at h; done) | exact ⟨_, _, _, _, _, rfl, rfl, h⟩

theorem ptrEqs_run (wk : WOk φ I rd w) {d : Nat} {e e' m : Nat} (hu : P.underlying e = some (.pointer e')) (hz : tySize P e' = some (m + 1)) : ∀ (n i : Nat) (xs ys : List Tree) (us vs : Array Value) (b : Bool), ptrEqs xs ys = some b → xs.length = n →
    (∀ (j : Nat) x, xs[j]? = some x → ∃ v, us[i + j]? = some v ∧ RepT w I x v) → (∀ (j : Nat) x, ys[j]? = some x → ∃ v, vs[i + j]? = some v ∧ RepT w I x v) →
    (Op.eqItems (d + 1) e 1 us vs (List.range' i n)).run P w = .ok b w
  | 0, i, xs, ys, us, vs, b, hb, hl, _, _ => by
    have : xs = [] := List.eq_nil_of_length_eq_zero hl
    subst this
    cases ys <;> simp [ptrEqs] at hb
    subst hb; simp [Op.eqItems]
  | n + 1, i, xs, ys, us, vs, b, hb, hl, hx, hy => by
    cases xs with
    | nil => simp at hl
    | cons x xs =>
      obtain ⟨a, p, a', p', ys, rfl, rfl, hb2⟩ := ptrEqs_cons hb
      clear hb
      obtain ⟨u, hu', ru⟩ := hx 0 _ rfl
      obtain ⟨v, hv', rv⟩ := hy 0 _ rfl
      cases ru with | wp _ _ g hg => ?_
      cases rv with | wp _ _ g' hg' => ?_
      have e1 := equalIn_wptr d hu hz (i := p) (j := p') (wk.psI _ g hg).2.2 (wk.psI _ g' hg').2.2
      have eb : decide (g = g' ∧ p = p') = (Nat.beq a a' && Nat.beq p p') := by
        rw [Bool.eq_iff_iff]
        simp only [decide_eq_true_eq, Bool.and_eq_true, Nat.beq_eq]
        constructor
        · rintro ⟨rfl, h⟩; exact ⟨wk.psinj _ _ g hg hg', h⟩
        · rintro ⟨rfl, h⟩; rw [hg] at hg'; cases hg'; exact ⟨rfl, h⟩
      rw [eb] at e1
      have ha : tyAgg P e = some false := by simp [tyAgg, hu]
      simp only [Nat.add_zero] at hu' hv'
      simp only [List.range'_succ, Op.eqItems, Nat.mul_one, Sem.run_bind, part, run_isAgg' ha, hu', hv', Result.andThen_ok, Bool.false_eq_true, if_false, Sem.run_pure, e1]
      cases hc : (Nat.beq a a' && Nat.beq p p') with
      | false => rw [hc] at hb2; cases hb2; simp
      | true =>
        rw [hc, cond_true] at hb2
        have ih := ptrEqs_run wk (d := d) hu hz n (i + 1) xs ys us vs b hb2 (by simpa using hl) (fun j z hz => by have := hx (j + 1) z (by simpa using hz); rwa [show i + (j + 1) = i + 1 + j by omega] at this)
          (fun j z hz => by have := hy (j + 1) z (by simpa using hz); rwa [show i + (j + 1) = i + 1 + j by omega] at this)
        simpa using ih

theorem ptrEqs_same {w : World} {I : Fz} : ∀ (xs ys : List Tree) (us vs : List Value), ptrEqs xs ys = some true → RepTL w I xs us → RepTL w I ys vs → us = vs ∧ (∀ n, ((us.zip vs).all fun (x, y) => Instr.sameBits n x y) = true)
  | [], ys, us, vs, h, hx, hy => by
    cases ys <;> simp [ptrEqs] at h
    have h1 := hx.1; have h2 := hy.1
    simp at h1 h2
    subst h1; subst h2
    exact ⟨rfl, fun n => rfl⟩
  | x :: xs, ys0, us, vs, h, hx, hy => by
    obtain ⟨a, p, a', p', ys, rfl, rfl, h2⟩ := ptrEqs_cons h
    clear h
    cases hc : (Nat.beq a a' && Nat.beq p p') with
    | false => rw [hc] at h2; cases h2
    | true =>
      rw [hc, cond_true] at h2
      simp only [Bool.and_eq_true, Nat.beq_eq] at hc
      obtain ⟨rfl, rfl⟩ := hc
      match us, vs, hx, hy with
      | u :: us, v :: vs, hx, hy =>
        have ru := hx.2 0 _ u rfl rfl
        have rv := hy.2 0 _ v rfl rfl
        cases ru with | wp _ _ g hg => ?_
        cases rv with | wp _ _ g' hg' => ?_
        rw [hg] at hg'; cases hg'
        obtain ⟨e, k⟩ := ptrEqs_same xs ys us vs h2 ⟨by have := hx.1; simpa using this, fun i x v h1 h2 => hx.2 (i + 1) x v (by simpa using h1) (by simpa using h2)⟩ ⟨by have := hy.1; simpa using this, fun i x v h1 h2 => hy.2 (i + 1) x v (by simpa using h1) (by simpa using h2)⟩
        subst e
        refine ⟨rfl, fun n => ?_⟩
        simp only [List.zip_cons_cons, List.all_cons, k n, Bool.and_true]
        cases n <;> simp [Instr.sameBits]
      | [], _, hx, _ => have := hx.1; simp at this
      | _ :: _, [], _, hy => have := hy.1; simp at this

/-- Two keys that are compared. -/
theorem key_run (wk : WOk φ I rd w) {t : TypeId} {q : KeyC} (hq : keyC P t = some q) {x y : Tree} {u v : Value} {b : Bool} (h : keyEq q x y = some b) (hu : RepT w I x u) (hv : RepT w I y v) :
    ∃ d, P.underlying t = some d ∧ (q.now = true → Instr.sameNow d u v = some b) ∧ (q.now = false → Instr.sameNow d u v = none ∧ (Op.equal t u v).run P w = .ok b w) ∧ (b = true → u = v ∧ Instr.sameBits 10000 v u = true) := by
  obtain ⟨d, hd, hc⟩ := keyC_spec hq
  refine ⟨d, hd, ?_⟩
  rcases hc with ⟨rfl, k, rfl⟩ | ⟨rfl, rfl⟩ | ⟨rfl, e, m, rfl, hz⟩ | ⟨n, e, e', m, rfl, rfl, hz, hu', hz'⟩
  · unfold keyEq at h
    cases x <;> cases y <;> first | (simp at h; done) | skip
    rename_i k1 a k2 b'
    obtain ⟨hk, h1⟩ := bif_some h
    clear h
    have hk' := kindEq_eq hk
    subst hk'
    cases h1; cases hu; cases hv
    refine ⟨fun _ => by simp [Instr.sameNow], (fun h => by cases h), fun h => ?_⟩
    have := eq_of_beq h; subst this
    exact ⟨rfl, by simp [Instr.sameBits]⟩
  · unfold keyEq at h
    cases x <;> cases y <;> first | (simp at h; done) | skip
    rename_i s1 s2
    cases h; cases hu; cases hv
    have e1 : ((⟨s1.toArray⟩ : ByteArray) == ⟨s2.toArray⟩) = (s1 == s2) := by
      rw [Bool.eq_iff_iff, MapKept.bytes_beq]
      simp
    refine ⟨fun _ => by simp [Instr.sameNow, e1], (fun h => by cases h), fun h => ?_⟩
    have := eq_of_beq h; subst this
    exact ⟨rfl, by simp [Instr.sameBits, MapKept.bytes_beq]⟩
  · unfold keyEq at h
    cases x <;> cases y <;> first | (simp at h; done) | skip
    rename_i a p a' p'
    cases hu with | wp _ _ g hg => ?_
    cases hv with | wp _ _ g' hg' => ?_
    cases h
    have e1 := equalIn_wptr 9999 hd hz (i := p) (j := p') (wk.psI _ g hg).2.2 (wk.psI _ g' hg').2.2
    have eb : decide (g = g' ∧ p = p') = (Nat.beq a a' && Nat.beq p p') := by
      rw [Bool.eq_iff_iff]
      simp only [decide_eq_true_eq, Bool.and_eq_true, Nat.beq_eq]
      constructor
      · rintro ⟨rfl, h⟩; exact ⟨wk.psinj _ _ g hg hg', h⟩
      · rintro ⟨rfl, h⟩; rw [hg] at hg'; cases hg'; exact ⟨rfl, h⟩
    rw [eb] at e1
    refine ⟨(fun h => by cases h), fun _ => ⟨by simp [Instr.sameNow], e1⟩, fun h => ?_⟩
    simp only [Bool.and_eq_true, Nat.beq_eq] at h
    obtain ⟨rfl, rfl⟩ := h
    rw [hg] at hg'; cases hg'
    exact ⟨rfl, by simp [Instr.sameBits]⟩
  · unfold keyEq at h
    cases x <;> cases y <;> first | (simp at h; done) | skip
    rename_i l r
    obtain ⟨hn, h⟩ := bif_some h
    simp only [Bool.and_eq_true] at hn
    obtain ⟨us, rfl, hus, _⟩ := hu.agg_inv
    obtain ⟨vs, rfl, hvs, _⟩ := hv.agg_inv
    have look : ∀ {xs : List Tree} {us : Array Value}, RepTL w I xs us.toList → ∀ (j : Nat) x, xs[j]? = some x → ∃ v, us[0 + j]? = some v ∧ RepT w I x v := by
      intro xs us hl j x hx
      have hlt : j < us.size := by have h1 := (List.getElem?_eq_some_iff.1 hx).1; have := hl.1; simp at this; omega
      exact ⟨us[j], by simp [hlt], hl.2 j x _ hx (by simp [hlt])⟩
    obtain ⟨inf, hinf⟩ : ∃ i, P.info? e = some i := by
      unfold tySize at hz; cases hq : P.info? e with
      | none => simp [hq] at hz
      | some i => exact ⟨i, rfl⟩
    have hcells : P.cellsOf e = 1 := by unfold tySize at hz; simp [hinf] at hz; simp [Program.cellsOf, hinf, hz]
    refine ⟨(fun h => by cases h), fun _ => ⟨by simp [Instr.sameNow], ?_⟩, fun hb => ?_⟩
    · show (Op.equalIn (9999 + 1) t (.agg us) (.agg vs)).run P w = .ok b w
      rw [run_equalIn_array w 9999 us vs hd hinf, hcells, List.range_eq_range']
      exact ptrEqs_run wk (d := 9998) hu' hz' n 0 l r us vs b h (Nat.eq_of_beq_eq_true hn.1) (look hus) (look hvs)
    · subst hb
      obtain ⟨e, k⟩ := ptrEqs_same l r us.toList vs.toList h hus hvs
      have e' : us = vs := by simpa using e
      subst e'
      refine ⟨rfl, ?_⟩
      have := k 9999
      simpa [Instr.sameBits] using this

/-- Where a key is found. -/
theorem find_run (wk : WOk φ I rd w) {t : TypeId} {d : TypeDesc} {q : KeyC} (hq : keyC P t = some q) (hd : P.underlying t = some d) {x : Tree} {u : Value} (hu : RepT w I x u) :
    ∀ (es : List (Tree × Tree)) (ms : List MapEntry) (i : Nat) (res : Option (Nat × Tree)), ms.length = es.length → (∀ (k : Nat) p m, es[k]? = some p → ms[k]? = some m → RepT w I p.1 m.key ∧ RepT w I p.2 m.val) → mfind q x es i = some res →
      ∃ res', (q.now = true → Instr.findNow d u ms i = some res') ∧ (q.now = false → (Instr.findAsking t u ms i).run P w = .ok res' w ∧ (ms ≠ [] → Instr.findNow d u ms i = none)) ∧
        ((res = none ∧ res' = none) ∨ ∃ j y v m, res = some (i + j, v) ∧ es[j]? = some (y, v) ∧ ms[j]? = some m ∧ res' = some (i + j, m.val) ∧ m.key = u ∧ Instr.sameBits 10000 m.key u = true)
  | [], ms, i, res, hl, _, h => by
    simp [mfind] at h; subst h
    have : ms = [] := List.eq_nil_of_length_eq_zero hl
    subst this
    exact ⟨none, fun _ => rfl, fun _ => ⟨rfl, fun h => absurd rfl h⟩, .inl ⟨rfl, rfl⟩⟩
  | (y, v) :: es, [], i, res, hl, _, h => by simp at hl
  | (y, v) :: es, m :: ms, i, res, hl, hc, h => by
    obtain ⟨hk, hv⟩ := hc 0 _ _ rfl rfl
    simp only [mfind] at h
    split at h
    · rename_i hkq
      cases h
      obtain ⟨d', hd', h1, h2, h3⟩ := key_run wk hq hkq hu hk
      rw [hd] at hd'; cases hd'
      obtain ⟨e, sb⟩ := h3 rfl
      refine ⟨some (i, m.val), fun hn => by simp [Instr.findNow, h1 hn], fun hn => ⟨?_, fun _ => by simp [Instr.findNow, (h2 hn).1]⟩, .inr ⟨0, y, v, m, rfl, rfl, rfl, rfl, e.symm, by rw [← e] at sb ⊢; exact sb⟩⟩
      simp [Instr.findAsking, (h2 hn).2]
    · rename_i hkq
      obtain ⟨d', hd', h1, h2, h3⟩ := key_run wk hq hkq hu hk
      rw [hd] at hd'; cases hd'
      obtain ⟨res', k1, k2, k3⟩ := find_run wk hq hd hu es ms (i + 1) res (by simpa using hl) (fun k p m h1 h2 => hc (k + 1) p m (by simpa using h1) (by simpa using h2)) h
      refine ⟨res', fun hn => by simp [Instr.findNow, h1 hn, k1 hn], fun hn => ⟨?_, fun _ => by simp [Instr.findNow, (h2 hn).1]⟩, ?_⟩
      · have := (k2 hn).1
        simp [Instr.findAsking, (h2 hn).2, this]
      · rcases k3 with h | ⟨j, y', v', m', e1, e2, e3, e4, e5, e6⟩
        · exact .inl h
        · exact .inr ⟨j + 1, y', v', m', by rw [e1]; congr 2; omega, by simpa using e2, by simpa using e3, by rw [e4]; congr 2; omega, e5, e6⟩
    · cases h

theorem findKey_run (wk : WOk φ I rd w) {t : TypeId} {q : KeyC} (hq : keyC P t = some q) {x : Tree} {u : Value} (hu : RepT w I x u) {es : List (Tree × Tree)} {ms : List MapEntry} {res : Option (Nat × Tree)} (hl : ms.length = es.length)
    (hc : ∀ (k : Nat) p m, es[k]? = some p → ms[k]? = some m → RepT w I p.1 m.key ∧ RepT w I p.2 m.val) (h : mfind q x es 0 = some res) :
      ∃ res', (Instr.findKey t u ms).run P w = .ok res' w ∧ ((res = none ∧ res' = none) ∨ ∃ j y v m, res = some (j, v) ∧ es[j]? = some (y, v) ∧ ms[j]? = some m ∧ res' = some (j, m.val) ∧ m.key = u ∧ Instr.sameBits 10000 m.key u = true) := by
  obtain ⟨d, hd, _⟩ := keyC_spec hq
  obtain ⟨res', k1, k2, k3⟩ := find_run wk hq hd hu es ms 0 res hl hc h
  refine ⟨res', ?_, ?_⟩
  · cases hn : q.now with
    | true => simp [Instr.findKey, run_underlying' hd, k1 hn]
    | false =>
      obtain ⟨h1, h2⟩ := k2 hn
      cases ms with
      | nil => simp [Instr.findKey, run_underlying' hd, Instr.findNow]; simpa [Instr.findAsking] using h1
      | cons m ms => simp [Instr.findKey, run_underlying' hd, h2 (by simp), h1]
  · rcases k3 with h | ⟨j, y, v, m, e1, e2, e3, e4, e5, e6⟩
    · exact .inl h
    · exact .inr ⟨j, y, v, m, by rw [e1, Nat.zero_add], e2, e3, by rw [e4, Nat.zero_add], e5, e6⟩

theorem checkKey_run {t : TypeId} {q : KeyC} (hq : keyC P t = some q) {x : Tree} {u : Value} (hi : keyIs q x = true) (hu : RepT w I x u) (em : Bool) : (Instr.checkKey em 10000 t u).run P w = .ok () w := by
  obtain ⟨d, hd, hc⟩ := keyC_spec hq
  rcases hc with ⟨rfl, k, rfl⟩ | ⟨rfl, rfl⟩ | ⟨rfl, e, m, rfl, hz⟩ | ⟨n, e, e', m, rfl, rfl, hz, hu', hz'⟩
  · unfold keyIs at hi
    cases x <;> first | (simp at hi; done) | skip
    cases hu
    rw [show (10000 : Nat) = 9999 + 1 from rfl, Instr.checkKey]
    simp [run_underlying' hd]
  · unfold keyIs at hi
    cases x <;> first | (simp at hi; done) | skip
    cases hu
    rw [show (10000 : Nat) = 9999 + 1 from rfl, Instr.checkKey]
    simp [run_underlying' hd]
  · unfold keyIs at hi
    cases x <;> first | (simp at hi; done) | skip
    cases hu
    rw [show (10000 : Nat) = 9999 + 1 from rfl, Instr.checkKey]
    simp [run_underlying' hd]
  · unfold keyIs at hi
    cases x <;> first | (simp at hi; done) | skip
    rename_i l
    have hn := Nat.eq_of_beq_eq_true hi
    obtain ⟨us, rfl, hus, _⟩ := hu.agg_inv
    have hsz : us.size = n := by have := hus.1; simp at this; omega
    rw [show (10000 : Nat) = 9999 + 1 from rfl, Instr.checkKey]
    simp only [Sem.run_bind, run_underlying' hd, Result.andThen_ok]
    simp only [Std.Legacy.Range.forIn_eq_forIn_range', Std.Legacy.Range.size, Nat.sub_zero, Nat.add_one_sub_one, Nat.div_one]
    have ha : tyAgg P e = some false := by simp [tyAgg, hu']
    have each : ∀ j, j ∈ List.range' 0 n → j < us.size := fun j hj => by rw [List.mem_range'] at hj; obtain ⟨i, h1, h2⟩ := hj; omega
    generalize List.range' 0 n = is at each
    induction is with
    | nil => simp
    | cons j is ih =>
      have hj := each j (by simp)
      have hk : ∀ v : Value, (Instr.checkKey em 9999 e v).run P w = .ok () w := fun v => by
        rw [show (9999 : Nat) = 9998 + 1 from rfl, Instr.checkKey]
        simp [run_underlying' hu']
      simp only [List.forIn_cons, Sem.run_bind, run_sizeOf' hz, Result.andThen_ok, part, run_isAgg' ha, Nat.mul_one, Array.getElem?_eq_getElem hj, Bool.false_eq_true, if_false, Sem.run_pure, hk]
      exact ih fun y hy => each y (by simp [hy])

/-- A map of the world, as it lies. -/
theorem Sim.mapW {G : World'} {id : Nat} {es : List (Tree × Tree)} (sm : Sim φ I rd w) (h0 : rd 0 = .wld G) (hc : nth G id = some (.map es)) {g : Nat} (hg : I.ps id = some g) :
    ∃ ms n, w.heap[g]? = some (.map ms n) ∧ ms.toList.length = es.length ∧ ∀ (k : Nat) p m, es[k]? = some p → ms.toList[k]? = some m → RepT w I p.1 m.key ∧ RepT w I p.2 m.val := by
  rw [nth_eq] at hc
  obtain ⟨g', h1, h2⟩ := (sm.wok.wld 0 G h0).2.1 id _ hc
  rw [hg] at h1; cases h1
  cases h2 with
  | map _ ms n h hl hc => exact ⟨ms, n, h, by simpa using hl, fun k p m h1 h2 => hc k p m h1 (by simpa using h2)⟩

variable {o : Oper} {a : Act} {c : Nat} {α : Type} {K : AV → Delta → Option α} {r : α} {ts : List AV} (hs : RepS φ rd w I ts a.tmps) (sm : Sim φ I rd w)

theorem wlook_some {q : KeyC} {G : World'} {id : Nat} {k z : Tree} {y : Bool × Tree} (h : wlook q G id k z = some y) : ∃ es, nth G id = some (.map es) ∧ ((mfind q k es 0 = some none ∧ y = (false, z)) ∨ ∃ i v, mfind q k es 0 = some (some (i, v)) ∧ y = (true, v)) := by
  unfold wlook at h
  split at h
  · rename_i es hes
    split at h
    · rename_i i v hm; cases h; exact ⟨es, hes, .inr ⟨i, v, hm, rfl⟩⟩
    · rename_i hm; cases h; exact ⟨es, hes, .inl ⟨hm, rfl⟩⟩
    · cases h
  · cases h

include hs sm in
theorem do_wget {t key elem : TypeId} {q : KeyC} {ok : Bool} {s : Sh} {z : AV} {zt : Tree} {x k : Operand} {x' k' : Opd} {i : Nat} (ho : o.op = .lookup t x k ok) (hu : P.underlying t = some (.map key elem)) (hq : keyC P key = some q) (hz : tyZeroAV P elem = some z) (hzt : zTree z = some zt)
    (hx : compOpd x = some x') (hk : compOpd k = some k') (he : ev ts x' = .t (.wm i))
    (h : (treesOf [ev ts k'] rd fun ks wr => bif keyIs q (ks.headD .nilp) then withW rd fun G => (wlook q G i (ks.headD .nilp) zt).bind fun y =>
        (match ok with
         | true => bif y.1 then (bif s.ok y.2 then K (.t (.tup [s.open y.2, .bool true])) ⟨wr, []⟩ else none) else K (.t (.tup [zt, .bool false])) ⟨wr, []⟩
         | false => bif s.ok y.2 then K (.t (s.open y.2)) ⟨wr, []⟩ else none) else none) = some r) : Done φ rd w I P o a c K r := by
  have hrx := ev_rep hs hx
  rw [he] at hrx
  obtain ⟨g, hg, ea⟩ := hrx.tree.wm_inv
  obtain ⟨ks, wr, I1, h, hr, sm1, E1, hwl⟩ := treesOf_some sm (vals := [a.eval k]) (.cons (ev_rep hs hk) .nil) h
  obtain ⟨y, rfl, hy⟩ := hr.one_inv
  simp only [List.headD_cons] at h
  obtain ⟨hki, h⟩ := bif_some h
  obtain ⟨G, h0, h⟩ := withW_some h
  have h01 := hwl 0 G h0
  have hg1 := E1.wx.psub i g hg
  cases hw : wlook q G i y zt with
  | none => simp [hw] at h
  | some p =>
    simp only [hw, Option.bind_some] at h
    obtain ⟨es, hes, hcase⟩ := wlook_some hw
    obtain ⟨ms, n, hb, hl, hc⟩ := sm1.mapW h01 hes hg1
    have hzr : ∃ zv, tyZero P elem = some zv ∧ RepT w I1 zt zv := by
      unfold tyZeroAV at hz
      split at hz
      · rename_i zv hzv
        exact ⟨zv, hzv, zTree_rep hzt (avOf_rep (φ := φ) (rd := rd) hz)⟩
      · cases hz
    obtain ⟨zv, hzv, hzrep⟩ := hzr
    have hck := checkKey_run hq hki hy ms.isEmpty
    have run : ∃ p2v : Value, RepT w I1 p.2 p2v ∧ (Instr.lookup t (.map (some g)) (a.eval k) ok).run P w = .ok (if ok = true then .tuple #[p2v, .bool p.1] else p2v) w := by
      rcases hcase with ⟨hm, rfl⟩ | ⟨j, v, hm, rfl⟩
      · obtain ⟨res', k1, k2⟩ := findKey_run sm1.wok hq hy hl hc hm
        rcases k2 with ⟨_, rfl⟩ | ⟨_, _, _, _, e, _⟩
        · exact ⟨zv, hzrep, by simp [Instr.lookup, run_underlying' hu, MapKept.run_getObj_map hb, hck, k1, run_zeroValue' hzv]⟩
        · cases e
      · obtain ⟨res', k1, k2⟩ := findKey_run sm1.wok hq hy hl hc hm
        rcases k2 with ⟨e, _⟩ | ⟨j', y', v', m', e1, e2, e3, rfl, e5, e6⟩
        · cases e
        · cases e1
          exact ⟨m'.val, (hc _ _ _ e2 e3).2, by simp [Instr.lookup, run_underlying' hu, MapKept.run_getObj_map hb, hck, k1]⟩
    obtain ⟨p2v, hp2, hrun⟩ := run
    have fin : ∀ {yt : Tree}, K (.t yt) ⟨wr, []⟩ = some r → RepT w I1 yt (if ok = true then .tuple #[p2v, .bool p.1] else p2v) → Done φ rd w I P o a c K r := by
      intro yt hK hyt
      refine done_value hK fun _ => ?_
      rw [app_wrs]
      exact ⟨φ, I1, _, w, by simp [execOp, ho, ea, hrun], .t _ _ hyt, sm1, E1⟩
    have tup : ∀ (b : Bool) (yt : Tree), RepT w I1 yt p2v → RepT w I1 (.tup [yt, .bool b]) (.tuple #[p2v, .bool b]) := fun b yt hyt => .tup _ _ rfl fun k x v hx hv => by
      match k with
      | 0 => simp at hx hv; subst hx; subst hv; exact hyt
      | 1 => simp at hx hv; subst hx; subst hv; exact .bool b
      | k + 2 => simp at hx
    cases ok with
    | false =>
      simp only at h
      obtain ⟨hok, h⟩ := bif_some h
      rw [Sh.open_eq s _ hok] at h
      exact fin h (by simpa using hp2)
    | true =>
      simp only at h
      rcases hcase with ⟨hm, rfl⟩ | ⟨j, v, hm, rfl⟩
      · simp only [cond_false] at h
        exact fin h (by simpa using tup false zt hp2)
      · simp only [cond_true] at h
        obtain ⟨hok, h⟩ := bif_some h
        rw [Sh.open_eq s _ hok] at h
        exact fin h (by simpa using tup true v hp2)

theorem wput_some {q : KeyC} {G G' : World'} {id : Nat} {k v : Tree} (h : wput q G id k v = some G') : ∃ es, nth G id = some (.map es) ∧ ((mfind q k es 0 = some none ∧ G' = setN G id (.map (es ++ [(k, v)]))) ∨ ∃ i u, mfind q k es 0 = some (some (i, u)) ∧ G' = setN G id (.map (setN es i (k, v)))) := by
  unfold wput at h
  split at h
  · rename_i es hes
    split at h
    · rename_i i u hm; cases h; exact ⟨es, hes, .inr ⟨i, u, hm, rfl⟩⟩
    · rename_i hm; cases h; exact ⟨es, hes, .inl ⟨hm, rfl⟩⟩
    · cases h
  · cases h

theorem setObj_world {g : Nat} {ob : Obj} (h : g < w.heap.size) (o' : Obj) : ({ w with heap := w.heap.setIfInBounds g o' } : World).heap[g]? = some o' ∧ (∀ g' : Nat, g' ≠ g → ({ w with heap := w.heap.setIfInBounds g o' } : World).heap[g']? = w.heap[g']?) ∧ ({ w with heap := w.heap.setIfInBounds g o' } : World).heap.size = w.heap.size := by
  refine ⟨by simp [h], fun g' hne => by simp [Array.getElem?_setIfInBounds, Ne.symm hne], by simp⟩

include hs sm in
theorem do_wput {t key elem : TypeId} {q : KeyC} {x k v : Operand} {x' k' v' : Opd} {i : Nat} (ho : o.op = .mapUpdate t x k v ∨ o.op = .insert t x k v) (hu : P.underlying t = some (.map key elem)) (hq : keyC P key = some q)
    (hx : compOpd x = some x') (hk : compOpd k = some k') (hv : compOpd v = some v') (he : ev ts x' = .t (.wm i))
    (h : (treesOf [ev ts k', ev ts v'] rd fun xs wr => bif keyIs q (xs.headD .nilp) then withW rd fun G => (wput q G i (xs.headD .nilp) (xs.tail.headD .nilp)).bind fun G' => K .undef ⟨wr ++ [(0, .wld G')], []⟩ else none) = some r) : Done φ rd w I P o a c K r := by
  have hrx := ev_rep hs hx
  rw [he] at hrx
  obtain ⟨g, hg, ea⟩ := hrx.tree.wm_inv
  obtain ⟨xs, wr, I1, h, hr, sm1, E1, hwl⟩ := treesOf_some sm (vals := [a.eval k, a.eval v]) (.cons (ev_rep hs hk) (.cons (ev_rep hs hv) .nil)) h
  obtain ⟨y, z, rfl, hy, hz⟩ := hr.two
  simp only [List.headD_cons, List.tail_cons] at h
  obtain ⟨hki, h⟩ := bif_some h
  obtain ⟨G, h0, h⟩ := withW_some h
  have h01 := hwl 0 G h0
  have wl := (sm1.wok.wld 0 G h01).2
  have hg1 := E1.wx.psub i g hg
  cases hw : wput q G i y z with
  | none => simp [hw] at h
  | some G' =>
    simp only [hw, Option.bind_some] at h
    obtain ⟨es, hes, hcase⟩ := wput_some hw
    obtain ⟨ms, n, hb, hl, hc⟩ := sm1.mapW h01 hes hg1
    have hck := checkKey_run hq hki hy false
    have hgs : g < w.heap.size := (Array.getElem?_eq_some_iff.1 hb).1
    have hlt : i < G.length := by rw [nth_eq] at hes; exact (List.getElem?_eq_some_iff.1 hes).1
    have hI : ∀ x, I1 x → x ≠ g := fun x hx e => by subst e; exact (sm1.wok.psI i x hg1).1 hx
    have step : ∀ (ms' : Array MapEntry) (n' : Nat) (es' : List (Tree × Tree)), ms'.size = es'.length → (∀ (k : Nat) p m, es'[k]? = some p → ms'[k]? = some m → RepT w I1 p.1 m.key ∧ RepT w I1 p.2 m.val) →
        WStep I1 w I1 (setN G i (.map es')) { w with heap := w.heap.setIfInBounds g (.map ms' n') } := by
      intro ms' n' es' hl' hc'
      obtain ⟨s1, s2, s3⟩ := setObj_world (ob := .map ms n) hgs (.map ms' n')
      have mono : ∀ {x : Tree} {v : Value}, RepT w I1 x v → RepT { w with heap := w.heap.setIfInBounds g (.map ms' n') } I1 x v := fun h => h.mono ⟨fun _ h => h, fun _ _ h => h⟩ fun b o hb => cell_of_heap (s2 b (hI b hb)) o
      exact WStep.upd sm1.fzOk wl hg1 hlt s2 s3 rfl rfl rfl (.inr ⟨_, _, s1⟩) (.map es' ms' n' s1 hl' fun k p m h1 h2 => ⟨mono (hc' k p m h1 h2).1, mono (hc' k p m h1 h2).2⟩)
    have fin : ∀ {w' : World}, WStep I1 w I1 G' w' → (Instr.mapUpdate t (.map (some g)) (a.eval k) (a.eval v)).run P w = .ok () w' → Done φ rd w I P o a c K r := by
      intro w' st hrun
      obtain ⟨k1, k2⟩ := sm1.world h01 st
      refine done_skip h fun _ => ?_
      rw [app_wr0]
      refine ⟨φ, I1, w', ?_, k1, E1.trans k2⟩
      rcases ho with ho | ho <;> simp [execOp, ho, ea, hrun]
    rcases hcase with ⟨hm, rfl⟩ | ⟨j, u, hm, rfl⟩
    · obtain ⟨res', k1, k2⟩ := findKey_run sm1.wok hq hy hl hc hm
      rcases k2 with ⟨_, rfl⟩ | ⟨_, _, _, _, e, _⟩
      · refine fin (step (ms.push { key := a.eval k, val := a.eval v, born := n }) (n + 1) _ (by simp at hl ⊢; exact hl) fun k' p m h1 h2 => ?_) (by simp [Instr.mapUpdate, run_underlying' hu, MapKept.run_getObj_map hb, hck, k1, MapKept.run_setObj_map _ hb])
        rw [Array.getElem?_push] at h2
        rcases Nat.lt_or_ge k' es.length with hk' | hk'
        · rw [List.getElem?_append_left hk'] at h1
          rw [if_neg (by simp at hl; omega)] at h2
          exact hc k' p m h1 (by simpa using h2)
        · rw [List.getElem?_append_right hk'] at h1
          have : k' = es.length := by have := (List.getElem?_eq_some_iff.1 h1).1; simp at this; omega
          subst this
          simp at h1; subst h1
          rw [if_pos (by simp at hl; omega)] at h2
          cases h2
          exact ⟨hy, hz⟩
      · cases e
    · obtain ⟨res', k1, k2⟩ := findKey_run sm1.wok hq hy hl hc hm
      rcases k2 with ⟨e, _⟩ | ⟨j', y', v', m', e1, e2, e3, rfl, e5, e6⟩
      · cases e
      · cases e1
        have hms : ms[j]? = some m' := by simpa using e3
        refine fin (step (ms.modify j fun e => { e with key := a.eval k, val := a.eval v }) n _ (by rw [setN_eq]; simp at hl ⊢; exact hl) fun k' p m h1 h2 => ?_) (by
          simp [Instr.mapUpdate, run_underlying' hu, MapKept.run_getObj_map hb, hck, k1, MapKept.run_setObj_map _ hb, hms, Instr.keyThatStays, e6])
        rw [setN_eq, List.getElem?_set] at h1
        rw [Array.getElem?_modify] at h2
        by_cases hj : j = k'
        · subst hj
          rw [if_pos rfl, if_pos (List.getElem?_eq_some_iff.1 e2).1] at h1
          rw [if_pos rfl, hms] at h2
          cases h1; cases h2
          exact ⟨hy, hz⟩
        · rw [if_neg hj] at h1
          rw [if_neg hj] at h2
          exact hc k' p m h1 (by simpa using h2)

end

end Go.Proofs.Dw
end

/-
  THE ABSTRACT WALK, 21e: the world: calls that are handed it.
-/
section
namespace Go.Proofs.Dw

section
variable {φ : Phi} {rd : Rd} {w : World} {I : Fz} {P : Program} {F : Fns}
variable {o : Oper} {a : Act} {c : Nat} {α : Type} {K : AV → Delta → Option α} {r : α} {ts : List AV} (hs : RepS φ rd w I ts a.tmps) (sm : Sim φ I rd w)

include hs sm in
theorem do_wlen {cl : Call} {t key elem : TypeId} {x : Operand} {x' : Opd} {i : Nat} (ho : o.op = .call cl) (hcl : cl.callee = .builtin .len) (ha : cl.args.toList = [x]) (ht : cl.argTypes[0]? = some t) (hu : P.underlying t = some (.map key elem))
    (hx : compOpd x = some x') (he : ev ts x' = .t (.wm i)) (h : (withW rd fun G => (wlenM G i).bind fun n => K (.t (.int .i64 n)) .none) = some r) : Done φ rd w I P o a c K r := by
  have hrx := ev_rep hs hx
  rw [he] at hrx
  obtain ⟨g, hg, ea⟩ := hrx.tree.wm_inv
  obtain ⟨G, h0, h⟩ := withW_some h
  cases hq : wlenM G i with
  | none => simp [hq] at h
  | some n =>
    simp only [hq, Option.bind_some] at h
    unfold wlenM at hq
    split at hq
    · rename_i es hes
      cases hq
      obtain ⟨ms, n, hb, hl, hc⟩ := sm.mapW h0 hes hg
      have ha' : cl.args = #[x] := by cases hq : cl.args; simp [hq] at ha; simp [ha]
      have hsz : ms.size = es.length := by simpa using hl
      refine Gives.done sm ⟨_, .int .i64 es.length, h, ?_, .t _ _ (.int _ _)⟩
      simp [execOp, ho, resolve, hcl, invoke, builtin, ha', ea, Builtin.len_, ht, run_underlying' hu, MapKept.run_getObj_map hb, goInt, hsz]
    · cases hq

include sm in
omit hs in
theorem callW_done (hF : FnsOk P F) {g : Nat} {s : Sh} {args : List AV} {vals : Array Value} (hex : callable P g = true → (execOp a.eval o).run P w = .ok (.enter g vals) w) (hr : RepL φ rd w I args vals.toList)
    (h : callW F g s args rd K = some r) : Done φ rd w I P o a c K r := by
  unfold callW at h
  obtain ⟨xs, wr, I1, h, hr, sm1, E1, hwl⟩ := treesOf_some sm hr h
  obtain ⟨G, h0, h⟩ := withW_some h
  have h01 := hwl 0 G h0
  have wl := (sm1.wok.wld 0 G h01).2
  cases hp : F.wf g xs G with
  | none => simp [hp] at h
  | some p =>
    obtain ⟨y, G'⟩ := p
    simp only [hp, Option.bind_some] at h
    obtain ⟨hok, h⟩ := bif_some h
    rw [Sh.open_eq s y hok] at h
    obtain ⟨hc, hcall⟩ := hF.wf g xs G y G' hp
    refine calls_done (hex hc) (fun _ => hcall w I1 vals hr sm1.fzOk wl) h fun _ e w' he => ?_
    obtain ⟨v, I', rfl, h1, st⟩ := he
    obtain ⟨k1, k2⟩ := sm1.world h01 st
    rw [app_wr0]
    exact ⟨v, φ, I', rfl, .t _ _ h1, k1, E1.trans k2⟩

include hs sm in
theorem do_callw (hF : FnsOk P F) {g : Nat} {s : Sh} {cl : Call} {args : List Opd} (ho : o.op = .call cl) (hc : cl.callee = .value (.func g)) (ha : compOpds cl.args.toList = some args)
    (h : callW F g s (evs ts args) rd K = some r) : Done φ rd w I P o a c K r := by
  refine callW_done sm hF (vals := cl.args.map a.eval) (fun hcb => ?_) (by simpa using evs_rep hs ha) h
  have := call_exec (P := P) (w := w) (a := a) hcb ho hc (x := .func g) (va := #[]) (vc := #[]) rfl
  simpa using this

omit hs sm in
theorem wrF_eq : ∀ (wr : List (Nat × HObj)) (rd : Rd), wrF rd wr = wrR rd wr
  | [], _ => rfl
  | (b, o) :: r, rd => by
    simp only [wrF, wrR]
    rw [show (fun x => bif Nat.beq x b then o else rd x) = upd rd b o from ?_, wrF_eq r]
    funext x
    unfold upd
    by_cases h : x = b
    · subst h; rw [if_pos rfl, Nat.beq_refl]; rfl
    · rw [if_neg h]
      cases hq : Nat.beq x b with
      | true => exact absurd (Nat.eq_of_beq_eq_true hq) h
      | false => rfl

theorem wrR_app : ∀ (u v : List (Nat × HObj)) (rd : Rd), wrR rd (u ++ v) = wrR (wrR rd u) v
  | [], _, _ => rfl
  | (b, o) :: r, v, rd => by simp only [List.cons_append, wrR]; exact wrR_app r v _

theorem appRd_app (wr : List (Nat × HObj)) (c : Nat) (d : Delta) : appRd rd c ⟨wr ++ d.wr, d.nw⟩ = appRd (wrR rd wr) c d := by
  funext x
  simp only [appRd, wrR_app]

theorem pickM_rep : ∀ {mask : List Bool} {args : List AV} {vals : List Value}, RepL φ rd w I args vals → ∃ us, RepL φ rd w I (pickM mask args) us ∧
    ∀ {φ' : Phi} {rd' : Rd} {w' : World} {I' : Fz} {xs : List Tree}, (∀ x v, RepA φ rd w I x v → RepA φ' rd' w' I' x v) → RepTL w' I' xs us → RepL φ' rd' w' I' (putM mask args xs) vals
  | [], args, vals, h => ⟨[], by cases args <;> exact .nil, fun hm hx => by
      cases args <;> exact ⟨h.1, fun i x v h1 h2 => hm _ _ (h.2 i x v h1 h2)⟩⟩
  | b :: m, [], vals, h => ⟨[], by cases b <;> exact .nil, fun hm hx => by
      cases b <;> exact ⟨h.1, fun i x v h1 h2 => hm _ _ (h.2 i x v h1 h2)⟩⟩
  | b :: m, x :: l, [], h => by have := h.1; simp at this
  | b :: m, x :: l, v :: vs, h => by
    have h1 : RepA φ rd w I x v := h.2 0 x v rfl rfl
    have h2 : RepL φ rd w I l vs := ⟨by have := h.1; simpa using this, fun i y u hy hu => h.2 (i + 1) y u (by simpa using hy) (by simpa using hu)⟩
    obtain ⟨us, k1, k2⟩ := pickM_rep (mask := m) h2
    cases b with
    | false => exact ⟨us, k1, fun hm hx => .cons (hm _ _ h1) (k2 hm hx)⟩
    | true =>
      refine ⟨v :: us, .cons h1 k1, fun {φ' rd' w' I' xs} hm hx => ?_⟩
      match xs, hx with
      | [], hx => have := hx.1; simp at this
      | y :: ys, hx =>
        exact .cons (.t _ _ (hx.2 0 y v rfl rfl)) (k2 hm ⟨by have := hx.1; simpa using this, fun i z u hz hu => hx.2 (i + 1) z u (by simpa using hz) (by simpa using hu)⟩)

include sm in
theorem callM_done (hF : FnsOk P F) {mask : List Bool} {g : Nat} {args : List AV} {vals : Array Value} (hex : callable P g = true → (execOp a.eval o).run P w = .ok (.enter g vals) w) (hr : RepL φ rd w I args vals.toList)
    (h : callM F mask g args rd c K = some r) : Done φ rd w I P o a c K r := by
  unfold callM at h
  obtain ⟨us, p1, p2⟩ := pickM_rep (mask := mask) hr
  obtain ⟨xs, wr, I1, h, hrt, sm1, E1, hub⟩ := treesOf_some' sm p1 h
  rw [wrF_eq] at h
  obtain ⟨x, d, hK, hD⟩ := callR_done (K := fun v d => K v ⟨wr ++ d.wr, d.nw⟩) hF sm1 hex (p2 (fun x v hx => hx.ext E1 sm) hrt) h
  refine ⟨x, _, hK, fun hu next Q hn => ?_⟩
  refine hD (fun y h1 h2 => hub y (hu y h1 h2)) next Q fun φ' I' v w' h1 h2 h3 => ?_
  rw [appRd_app] at hn
  exact hn φ' I' v w' h1 h2 (E1.trans h3)

include hs sm in
theorem do_callm (hF : FnsOk P F) {mask : List Bool} {g : Nat} {cl : Call} {args : List Opd} (ho : o.op = .call cl) (hc : cl.callee = .value (.func g)) (ha : compOpds cl.args.toList = some args)
    (h : callM F mask g (evs ts args) rd c K = some r) : Done φ rd w I P o a c K r := by
  refine callM_done sm hF (vals := cl.args.map a.eval) (fun hcb => ?_) (by simpa using evs_rep hs ha) h
  have := call_exec (P := P) (w := w) (a := a) hcb ho hc (x := .func g) (va := #[]) (vc := #[]) rfl
  simpa using this

include hs sm in
theorem do_extf {x : Operand} {x' : Opd} {n : Nat} (ho : o.op = .extract x n) (hx : compOpd x = some x')
    (h : extfA n (ev ts x') rd K = some r) : Done φ rd w I P o a c K r := by
  unfold extfA at h
  have hg := fun y => do_ext (φ := φ) (rd := rd) (w := w) (I := I) (P := P) (K := fun v _ => some v) (r := y) hs ho hx
  split at h
  · rename_i l q
    cases hn : nth l n with
    | none => simp [hn] at h
    | some y =>
      simp only [hn, Option.bind_some] at h
      obtain ⟨x1, v, h1, h2, h3⟩ := hg (.t y) (by rw [q]; simp only [hn, Option.bind_some])
      cases h1
      exact Gives.done sm ⟨_, v, h, h2, h3⟩
  · rename_i l q
    cases hn : nth l n with
    | none => simp [hn] at h
    | some y =>
      simp only [hn, Option.bind_some] at h
      obtain ⟨x1, v, h1, h2, h3⟩ := hg y (by rw [q]; simp only [hn, Option.bind_some])
      cases h1
      obtain ⟨xs, wr, I1, h, hr, sm1, E1, hub⟩ := treesOf_some' sm (vals := [v]) (.cons h3 .nil) h
      obtain ⟨z, rfl, hz⟩ := hr.one_inv
      refine done_value h fun _ => ?_
      have e : appRd rd c ⟨wr, []⟩ = wrR rd wr := by
        funext b
        simp only [appRd, List.length_nil]
        rw [if_neg (by omega)]
      rw [e]
      exact ⟨φ, I1, v, w, h2, .t _ _ hz, sm1, E1⟩
  · cases h

omit hs sm in
theorem run_makeInterface {t : TypeId} {d : TypeDesc} (hu : P.underlying t = some d) (hd : ∀ ms, d ≠ .interface ms) (v : Value) : (Instr.makeInterface t v).run P w = .ok (.iface t v) w := by
  cases d <;> first | exact absurd rfl (hd _) | simp [Instr.makeInterface, run_underlying' hu]

include hs sm in
theorem do_mki {t : TypeId} {d : TypeDesc} {x : Operand} {x' : Opd} (ho : o.op = .makeInterface t x) (hu : P.underlying t = some d) (hd : ∀ ms, d ≠ .interface ms) (hx : compOpd x = some x')
    (h : (treesOf [ev ts x'] rd fun xs wr => K (.t (.ifc t (xs.headD .nilp))) ⟨wr, []⟩) = some r) : Done φ rd w I P o a c K r := by
  obtain ⟨xs, wr, I1, h, hr, sm1, E1, hub⟩ := treesOf_some' sm (vals := [a.eval x]) (.cons (ev_rep hs hx) .nil) h
  obtain ⟨z, rfl, hz⟩ := hr.one_inv
  refine done_value h fun _ => ?_
  have e : appRd rd c ⟨wr, []⟩ = wrR rd wr := by
    funext b
    simp only [appRd, List.length_nil]
    rw [if_neg (by omega)]
  rw [e]
  exact ⟨φ, I1, .iface t (a.eval x), w, by simp [execOp, ho, run_makeInterface hu hd], .t _ _ (.ifc t z _ hz), sm1, E1⟩

omit hs sm in
theorem run_typeAssert {xt t : TypeId} {d : TypeDesc} (hu : P.underlying t = some d) (hd : ∀ ms, d ≠ .interface ms) (v : Value) (ok : Bool) : (Instr.typeAssert (.iface t v) xt t ok).run P w = .ok (if ok then .tuple #[v, .bool true] else v) w := by
  cases d <;> first | exact absurd rfl (hd _) | (cases ok <;> simp [Instr.typeAssert, run_underlying' hu])

omit hs sm in
theorem run_typeAssert_no {xt t t' : TypeId} {d : TypeDesc} {z : Value} (hu : P.underlying t = some d) (hd : ∀ ms, d ≠ .interface ms) (hz : tyZero P t = some z) (v : Value) (hne : t' ≠ t) : (Instr.typeAssert (.iface t' v) xt t true).run P w = .ok (.tuple #[z, .bool false]) w := by
  cases d <;> first | exact absurd rfl (hd _) | simp [Instr.typeAssert, run_underlying' hu, hne, run_zeroValue' hz]

omit hs sm in
theorem run_typeAssert_nil {xt t : TypeId} {d : TypeDesc} {z : Value} (hu : P.underlying t = some d) (hd : ∀ ms, d ≠ .interface ms) (hz : tyZero P t = some z) : (Instr.typeAssert .nilIface xt t true).run P w = .ok (.tuple #[z, .bool false]) w := by
  cases d <;> first | exact absurd rfl (hd _) | simp [Instr.typeAssert, run_underlying' hu, run_zeroValue' hz]

omit hs sm in
theorem RepT.ifc_inv {t : Nat} {x : Tree} {v : Value} (h : RepT w I (.ifc t x) v) : ∃ u, v = .iface t u ∧ RepT w I x u := by
  cases h with
  | ifc _ _ u h => exact ⟨u, rfl, h⟩

include hs in
omit sm in
theorem do_tas {ok : Bool} {xt t : TypeId} {d : TypeDesc} {s : Sh} {z : AV} {x : Operand} {x' : Opd} (ho : o.op = .typeAssert x xt t ok) (hu : P.underlying t = some d) (hd : ∀ ms, d ≠ .interface ms) (hz : tyZeroAV P t = some z) (hx : compOpd x = some x')
    (h : evOp F (.tas ok t s z x') ts rd c K = some r) : Gives φ rd w I P o a K r := by
  simp only [evOp] at h
  have hr := ev_rep hs hx
  have tup2 : ∀ {p : Tree} {b : Bool} {v : Value}, RepT w I p v → RepA φ rd w I (.t (.tup [p, .bool b])) (.tuple #[v, .bool b]) := fun {p b v} h => .t _ _ (.tup _ _ rfl fun i y u hy hu => by
    match i with
    | 0 => simp at hy hu; subst hy; subst hu; exact h
    | 1 => simp at hy hu; subst hy; subst hu; exact .bool b
    | i + 2 => simp at hy)
  have hzr : ∀ {zt : Tree}, zTree z = some zt → ∃ zv, tyZero P t = some zv ∧ RepT w I zt zv := by
    intro zt hzt
    unfold tyZeroAV at hz
    split at hz
    · rename_i zv hzv
      exact ⟨zv, hzv, zTree_rep hzt (avOf_rep (φ := φ) (rd := rd) hz)⟩
    · cases hz
  split at h
  · rename_i t' v q
    rw [q] at hr
    obtain ⟨u, e, hu'⟩ := hr.tree.ifc_inv
    cases hb : Nat.beq t' t with
    | true =>
      rw [hb, cond_true] at h
      obtain ⟨hok, h⟩ := bif_some h
      rw [Sh.open_eq s v hok] at h
      have := Nat.eq_of_beq_eq_true hb
      subst this
      cases ok with
      | true => exact ⟨_, _, h, by simp [execOp, ho, e, run_typeAssert hu hd], tup2 hu'⟩
      | false => exact ⟨_, _, h, by simp [execOp, ho, e, run_typeAssert hu hd], .t _ _ hu'⟩
    | false =>
      rw [hb, cond_false] at h
      split at h
      · rename_i zt ho hzt
        obtain ⟨zv, h1, h2⟩ := hzr hzt
        exact ⟨_, _, h, by simp [execOp, ho, e, run_typeAssert_no hu hd h1 u (Nat.ne_of_beq_eq_false hb)], tup2 h2⟩
      · cases h
  · rename_i q
    rw [q] at hr
    have e : a.eval x = .nilIface := by
      have := hr.tree
      generalize a.eval x = v at this
      cases this; rfl
    split at h
    · rename_i zt ho hzt
      obtain ⟨zv, h1, h2⟩ := hzr hzt
      exact ⟨_, _, h, by simp [execOp, ho, e, run_typeAssert_nil hu hd h1], tup2 h2⟩
    · cases h
  · cases h

omit hs sm in
theorem isC_const {x : Operand} {x' : Opd} (h1 : compOpd x = some x') (h2 : x'.isC = true) : ∃ v, x = .const v := by
  cases x <;> simp [compOpd] at h1 ⊢
  · subst h1; cases h2
  · subst h1; cases h2

omit hs sm in
theorem eqGuard_nil (op : BinOp) (t : TypeId) (x y : Operand) (h : (∃ v, x = .const v) ∨ ∃ v, y = .const v) : (eqGuard op t x y .nilIface .nilIface).run P w = .ok () w := by
  unfold eqGuard
  rcases h with ⟨v, rfl⟩ | ⟨v, rfl⟩ <;> cases op <;> simp

omit hs sm in
theorem eqGuard_some (op : BinOp) (t : TypeId) (x y : Operand) (t' : TypeId) (v : Value) : (eqGuard op t x y .nilIface (.iface t' v)).run P w = .ok () w ∧ (eqGuard op t x y (.iface t' v) .nilIface).run P w = .ok () w := by
  unfold eqGuard
  cases op <;> simp

omit hs sm in
theorem eqA_ifc {x y : AV} {b : Bool} (h : eqA .ifc x y = some b) : (x = .t .nili ∧ y = .t .nili ∧ b = true) ∨ (x = .t .nili ∧ (∃ t v, y = .t (.ifc t v)) ∧ b = false) ∨ ((∃ t v, x = .t (.ifc t v)) ∧ y = .t .nili ∧ b = false) := by
  unfold eqA at h
  split at h <;> simp_all

omit hs sm in
theorem equalIn_ifc {t : TypeId} {ms : Array (String × TypeId)} (h : P.underlying t = some (.interface ms)) (d : Nat) : (Op.equalIn (d + 1) t .nilIface .nilIface).run P w = .ok true w ∧
    (∀ t' v, (Op.equalIn (d + 1) t .nilIface (.iface t' v)).run P w = .ok false w) ∧ ∀ t' v, (Op.equalIn (d + 1) t (.iface t' v) .nilIface).run P w = .ok false w := by
  refine ⟨?_, fun t' v => ?_, fun t' v => ?_⟩ <;> simp [Op.equalIn, run_underlying' h]

omit hs sm in
theorem eqi_run {t : TypeId} {ms : Array (String × TypeId)} (hu : P.underlying t = some (.interface ms)) {x y : AV} {b : Bool} (h : eqA .ifc x y = some b) {u v : Value} (hu' : RepA φ rd w I x u) (hv : RepA φ rd w I y v) (X Y : Operand) (hl : (∃ v, X = .const v) ∨ ∃ v, Y = .const v) (o : BinOp) :
    (eqGuard o t X Y u v).run P w = .ok () w ∧ (binOp .eql t u v).run P w = .ok (.bool b) w ∧ (binOp .neq t u v).run P w = .ok (.bool (!b)) w := by
  have nil : ∀ {v : Value}, RepA φ rd w I (.t .nili) v → v = .nilIface := fun h => by
    have := h.tree
    cases this; rfl
  have fin : ∀ {u v : Value} {b : Bool}, (Op.equalIn (9999 + 1) t u v).run P w = .ok b w → (u = .nilIface ∨ ∃ t v, u = .iface t v) → (v = .nilIface ∨ ∃ t u, v = .iface t u) → (binOp .eql t u v).run P w = .ok (.bool b) w ∧ (binOp .neq t u v).run P w = .ok (.bool (!b)) w := by
    intro u v b h h1 h2
    have he : (Op.equal t u v).run P w = .ok b w := h
    rcases h1 with rfl | ⟨_, _, rfl⟩ <;> rcases h2 with rfl | ⟨_, _, rfl⟩ <;> simp [binOp, he]
  rcases eqA_ifc h with ⟨rfl, rfl, rfl⟩ | ⟨rfl, ⟨t', q, rfl⟩, rfl⟩ | ⟨⟨t', q, rfl⟩, rfl, rfl⟩
  · rw [nil hu', nil hv]
    exact ⟨eqGuard_nil o t X Y hl, fin (equalIn_ifc hu 9999).1 (.inl rfl) (.inl rfl)⟩
  · obtain ⟨p, rfl, _⟩ := hv.tree.ifc_inv
    rw [nil hu']
    exact ⟨(eqGuard_some o t X Y _ _).1, fin ((equalIn_ifc hu 9999).2.1 _ _) (.inl rfl) (.inr ⟨_, _, rfl⟩)⟩
  · obtain ⟨p, rfl, _⟩ := hu'.tree.ifc_inv
    rw [nil hv]
    exact ⟨(eqGuard_some o t X Y _ _).2, fin ((equalIn_ifc hu 9999).2.2 _ _) (.inr ⟨_, _, rfl⟩) (.inl rfl)⟩

include hs in
omit sm in
/-- An interface's value and nil, one of them written out. -/
theorem do_eqi {t t' : TypeId} {ms : Array (String × TypeId)} {x y : Operand} {x' y' : Opd} {neq : Bool} (ho : o.op = .binOp (if neq = true then .neq else .eql) t x y t') (hu : P.underlying t = some (.interface ms)) (hx : compOpd x = some x') (hy : compOpd y = some y')
    (hc : (x'.isC || y'.isC) = true) (h : evOp F (.eqs neq .ifc x' y') ts rd c K = some r) : Gives φ rd w I P o a K r := by
  simp only [evOp] at h
  split at h
  · rename_i b hb
    have lit : (∃ v, x = .const v) ∨ ∃ v, y = .const v := by
      rcases Bool.or_eq_true_iff.1 hc with hc | hc
      · exact .inl (isC_const hx hc)
      · exact .inr (isC_const hy hc)
    obtain ⟨h1, h2, h3⟩ := eqi_run hu hb (ev_rep hs hx) (ev_rep hs hy) x y lit (if neq = true then .neq else .eql)
    cases neq with
    | true => exact ⟨_, _, h, by simp only [execOp, ho]; simp at h1; simp [h1, h3], .t _ _ (.bool _)⟩
    | false => exact ⟨_, _, h, by simp only [execOp, ho]; simp at h1; simp [h1, h2], .t _ _ (.bool _)⟩
  · cases h

include hs sm in
theorem do_callvw (hF : FnsOk P F) {s : Sh} {cl : Call} {x : Operand} {x' : Opd} {args : List Opd} (ho : o.op = .call cl) (hc : cl.callee = .value x) (hx : compOpd x = some x') (ha : compOpds cl.args.toList = some args)
    (h : callVW F (ev ts x') s (evs ts args) rd K = some r) : Done φ rd w I P o a c K r := by
  have hrx := ev_rep hs hx
  have hra : RepL φ rd w I (evs ts args) (cl.args.map a.eval).toList := by simpa using evs_rep hs ha
  unfold callVW at h
  split at h
  · rename_i g p q hy
    rw [hy] at hrx
    obtain ⟨va, vc, hq, f1, f2⟩ := hrx.tree.fn_inv
    refine callW_done sm hF (vals := va ++ cl.args.map a.eval ++ vc) (fun hcb => call_exec hcb ho hc hq) ?_ h
    simpa using ((RepL.ofT (φ := φ) (rd := rd) f1).append hra).append (RepL.ofT f2)
  · rename_i g p q hy
    rw [hy] at hrx
    obtain ⟨va, vc, hq, f1, f2⟩ := hrx.fn_inv
    refine callW_done sm hF (vals := va ++ cl.args.map a.eval ++ vc) (fun hcb => call_exec hcb ho hc hq) ?_ h
    simpa using (f1.append hra).append f2
  · cases h

end

end Go.Proofs.Dw
end

/-
  THE ABSTRACT WALK, 21f: calls whose heap is laid out when they come back.
-/
section
namespace Go.Proofs.Dw

section
variable {φ : Phi} {rd : Rd} {w : World} {I : Fz} {P : Program} {F : Fns}

/-- What is told of a call's end, seen from a heap of m blocks before. -/
def Ends (φ0 : Phi) (I0 : Fz) (rd0 : Rd) (w0 : World) (v : AV) (rd : Rd) (w : World) (val : Value) : Prop :=
  ∃ φ I, RepA φ rd w I v val ∧ Sim φ I rd w ∧ Ext φ0 I0 rd0 w0 φ I rd w

theorem Ends.ren {φ0 : Phi} {I0 : Fz} {rd0 : Rd} {w0 : World} {v : AV} {val : Value} {rd1 : Rd} {ρ : Nat → Option Nat} {φ1 : Phi} (hv : RepA φ rd w I v val) (sm : Sim φ I rd w) (E : Ext φ0 I0 rd0 w0 φ I rd w)
    (R : Ren φ rd φ1 rd1 ρ) (hm : ∀ b, rd0 b ≠ .unborn → ρ b = some b ∨ rd1 b = .dead) (sur : ∀ c, (rd1 c).alive = true → ∃ b, ρ b = some c) (hw : ∀ c G, rd1 c ≠ .wld G) : Ends φ0 I0 rd0 w0 (v.ren ρ) rd1 w val :=
  ⟨φ1, I, hv.ren R, sm.ren R sur fun c G h => (hw c G h).elim, E.ren' R hm sur hw⟩

theorem rdH_rep (m i : Nat) (H : Heap) : rdH (List.replicate m .dead ++ H) i = if i < m then .dead else rdH H (i - m) := by
  unfold rdH
  rw [nth_eq, nth_eq]
  by_cases h : i < m
  · rw [if_pos h, List.getElem?_append_left (by simpa using h)]; simp [h]
  · rw [if_neg h, List.getElem?_append_right (by simpa using h)]; simp

theorem rdH_one (o : HObj) (i : Nat) : rdH [o] i = if i = 0 then o else .unborn := by
  cases i <;> rfl

theorem rdH_cons (o : HObj) (H : Heap) (i : Nat) : rdH (o :: H) i = if i = 0 then o else rdH H (i - 1) := by
  cases i <;> rfl

theorem isT_spec {s : Sh} {v : AV} (h : isT s v = true) : v = .t (s.open (avT v)) := by
  unfold isT at h
  split at h
  · rename_i x; simp only [avT]; rw [Sh.open_eq s x h]
  · cases h

theorem upTo_pre {m n : Nat} (h : m ≤ n) : ∃ t, upTo n = upTo m ++ t := by
  induction n with
  | zero => exact ⟨[], by rw [Nat.le_zero.1 h]; rfl⟩
  | succ n ih =>
    rcases Nat.lt_or_ge n m with h1 | h1
    · have : m = n + 1 := by omega
      exact ⟨[], by rw [this]; simp⟩
    · obtain ⟨t, ht⟩ := ih h1
      exact ⟨t ++ [n], by simp only [upTo, ht, List.append_assoc]⟩

theorem nRes_spec {ty ns : Sh} {v : AV} {H : Heap} {y : Tree} {o : Option (Nat × List Tree)} {val : Value} (hn : nRes ty ns v H = some (y, o)) (h1 : RepA φ (rdH H) w I v val) (h2 : Sim φ I (rdH H) w) :
    ∃ wr I1 u1 u2, val = .tuple #[u1, u2] ∧ RepT w I1 y u1 ∧ Sim φ I1 (wrR (rdH H) wr) w ∧ Ext φ I (rdH H) w φ I1 (wrR (rdH H) wr) w ∧ ty.ok y = true ∧
      ((o = none ∧ u2 = .slice none 0 0) ∨ ∃ b rows, o = some (b, rows) ∧ wrR (rdH H) wr b = .tre ns rows ∧ RepA φ (wrR (rdH H) wr) w I1 (.hsl b none) u2) := by
  have two : ∀ {x z : AV}, v = .tup [x, z] → ∃ u1 u2, val = .tuple #[u1, u2] ∧ RepA φ (rdH H) w I x u1 ∧ RepA φ (rdH H) w I z u2 := by
    intro x z e
    subst e
    cases h1 with
    | tup _ vs hl hv =>
      obtain ⟨vs⟩ := vs
      match vs, hl, hv with
      | [u1, u2], hl, hv => exact ⟨u1, u2, rfl, hv 0 x u1 rfl rfl, hv 1 z u2 rfl rfl⟩
      | [], hl, _ => simp at hl
      | [_], hl, _ => simp at hl
      | _ :: _ :: _ :: _, hl, _ => simp at hl
  unfold nRes at hn
  split at hn
  · rename_i x b'
    obtain ⟨u1, u2, e, r1, r2⟩ := two rfl
    obtain ⟨xs, wr, I1, hn, hr, sm1, E1, hub⟩ := treesOf_some' h2 (vals := [u1]) (.cons r1 .nil) hn
    obtain ⟨z, rfl, hz⟩ := hr.one_inv
    rw [wrF_eq] at hn
    split at hn
    · rename_i s1 rows' hq
      obtain ⟨hb, hn⟩ := bif_some hn
      simp only [Bool.and_eq_true, List.headD_cons] at hb
      simp only [Option.some.injEq, Prod.mk.injEq, List.headD_cons] at hn
      obtain ⟨rfl, rfl⟩ := hn
      have e3 := shEq_eq hb.1
      subst e3
      exact ⟨wr, I1, u1, u2, e, hz, sm1, E1, hb.2, .inr ⟨b', rows', rfl, hq, r2.ext E1 h2⟩⟩
    · cases hn
  · rename_i x
    obtain ⟨u1, u2, e, r1, r2⟩ := two rfl
    obtain ⟨xs, wr, I1, hn, hr, sm1, E1, hub⟩ := treesOf_some' h2 (vals := [u1]) (.cons r1 .nil) hn
    obtain ⟨z, rfl, hz⟩ := hr.one_inv
    obtain ⟨hb, hn⟩ := bif_some hn
    simp only [List.headD_cons] at hb
    simp only [Option.some.injEq, Prod.mk.injEq, List.headD_cons] at hn
    obtain ⟨rfl, rfl⟩ := hn
    exact ⟨wr, I1, u1, u2, e, hz, sm1, E1, hb, .inl ⟨rfl, r2.nilS_inv⟩⟩
  · cases hn

theorem rowIs_spec {s : Sh} {o : HObj} (h : rowIs s o = true) : ∃ xs, o = .tre s xs := by
  unfold rowIs at h
  split at h
  · rename_i s1 xs
    have e := shEq_eq h
    subst e
    exact ⟨xs, rfl⟩
  · cases h

theorem layG_some {α : Type} {k : GK} {s : Sh} {m : Nat} {v : AV} {H : Heap} {K : AV × Heap → Option α} {r : α} (h : layG k s m (v, H) K = some r) :
    ∃ v' H', K (v', H') = some r ∧ m ≤ H'.length ∧ ∀ (φ0 : Phi) (I0 : Fz) (rd0 : Rd) (w0 w : World) (val : Value), (∀ b, m ≤ b → rd0 b = .unborn) → Ends φ0 I0 rd0 w0 v (rdH H) w val → Ends φ0 I0 rd0 w0 v' (rdH H') w val := by
  unfold layG at h
  split at h
  · rename_i gs ns
    obtain ⟨hb, h⟩ := bif_some h
    simp only [Bool.and_eq_true] at hb
    obtain ⟨hm, hT, hg⟩ := hb
    have hm : 0 < m := by simpa [Nat.blt_eq] using hm
    refine ⟨_, _, h, by simp; omega, fun φ0 I0 rd0 w0 w val hu he => ?_⟩
    obtain ⟨φ, I, h1, h2, h3⟩ := he
    simp only [gForm] at hg
    split at hg
    · rename_i s0 b hq
      simp only [Bool.and_eq_true] at hg
      obtain ⟨e1, hg⟩ := hg
      have e1 := shEq_eq e1
      split at hg
      · rename_i s1 xs hq2
        have e2 := shEq_eq hg
        subst e1; subst e2
        have hrow : gRow H = xs := by simp only [gRow, hq, hq2]
        show Ends φ0 I0 rd0 w0 _ (rdH (HObj.mix gs [.agg [.hsl m none]] :: (List.replicate (m - 1) .dead ++ [.tre ns (gRow H)]))) w val
        rw [hrow, ← isT_spec hT]
        have hv : v = v.ren fun x => if x = 0 then some 0 else if x = b + 1 then some m else none := by rw [isT_spec hT]; rfl
        rw [hv]
        have key : ∀ x, rdH (HObj.mix gs [.agg [.hsl m none]] :: (List.replicate (m - 1) .dead ++ [.tre ns xs])) x = if x = 0 then .mix gs [.agg [.hsl m none]] else if x < m then .dead else if x = m then .tre ns xs else .unborn := by
          intro x
          rw [rdH_cons, rdH_rep, rdH_one]
          by_cases h0 : x = 0
          · rw [if_pos h0, if_pos h0]
          · rw [if_neg h0, if_neg h0]
            by_cases h1 : x < m
            · rw [if_pos (by omega), if_pos h1]
            · rw [if_neg (by omega), if_neg h1]
              by_cases h2 : x = m
              · rw [if_pos (by omega), if_pos h2]
              · rw [if_neg (by omega), if_neg h2]
        refine Ends.ren (φ1 := fun x => if x = 0 then φ 0 else if x = m then φ (b + 1) else none) h1 h2 h3 ⟨fun x y hx => ?_, fun x y hx => ?_⟩ (fun x hx => ?_) (fun x hx => ?_) fun x G hx => ?_
        · rw [key]
          by_cases h0 : x = 0
          · subst h0; rw [if_pos rfl] at hx; cases hx
            rw [if_pos rfl, hq]
            simp [HObj.ren, AV.renL, AV.ren]
          · rw [if_neg h0] at hx
            by_cases hxb : x = b + 1
            · subst hxb; rw [if_pos rfl] at hx; cases hx
              rw [if_neg (by omega), if_neg (by omega), if_pos rfl, hq2]; rfl
            · rw [if_neg hxb] at hx; cases hx
        · by_cases h0 : x = 0
          · subst h0; rw [if_pos rfl] at hx; cases hx; rfl
          · rw [if_neg h0] at hx
            by_cases hxb : x = b + 1
            · subst hxb; rw [if_pos rfl] at hx; cases hx
              rw [if_neg (by omega), if_pos rfl]
            · rw [if_neg hxb] at hx; cases hx
        · have hlt : x < m := Nat.lt_of_not_le fun hge => hx (hu x hge)
          by_cases h0 : x = 0
          · subst h0; exact .inl rfl
          · exact .inr (by rw [key, if_neg h0, if_pos hlt])
        · rw [key] at hx
          by_cases h0 : x = 0
          · exact ⟨0, by rw [h0]; rfl⟩
          · rw [if_neg h0] at hx
            by_cases h1 : x < m
            · rw [if_pos h1] at hx; cases hx
            · rw [if_neg h1] at hx
              by_cases h2 : x = m
              · exact ⟨b + 1, by rw [h2]; simp⟩
              · rw [if_neg h2] at hx; cases hx
        · rw [key] at hx
          split at hx
          · cases hx
          · split at hx
            · cases hx
            · split at hx <;> cases hx
      · cases hg
    · cases hg
  · rename_i ms
    obtain ⟨hb, h'⟩ := bif_some h
    clear h
    simp only [Bool.and_eq_true] at hb
    obtain ⟨hm, hT, hg⟩ := hb
    have hm : m = 1 := Nat.eq_of_beq_eq_true hm
    subst hm
    refine ⟨_, _, h', Nat.le_refl _, fun φ0 I0 rd0 w0 w val hu he => ?_⟩
    obtain ⟨φ, I, h1, h2, h3⟩ := he
    simp only [mForm] at hg
    split at hg
    · rename_i s1 xs hq
      have e2 := shEq_eq hg
      subst e2
      have hrow : mRow H = xs := by simp only [mRow, hq]
      show Ends φ0 I0 rd0 w0 _ (rdH [.tre ms (mRow H)]) w val
      rw [hrow, ← isT_spec hT]
      have hv : v = v.ren fun x => if x = 0 then some 0 else none := by rw [isT_spec hT]; rfl
      rw [hv]
      refine Ends.ren (φ1 := fun x => if x = 0 then φ 0 else none) h1 h2 h3 ⟨fun x y hx => ?_, fun x y hx => ?_⟩ (fun x hx => ?_) (fun x hx => ?_) fun x G hx => ?_
      · by_cases h0 : x = 0
        · subst h0; rw [if_pos rfl] at hx; cases hx
          rw [rdH_one, if_pos rfl, hq]; rfl
        · rw [if_neg h0] at hx; cases hx
      · by_cases h0 : x = 0
        · subst h0; rw [if_pos rfl] at hx; cases hx; rfl
        · rw [if_neg h0] at hx; cases hx
      · have hlt : x < 1 := Nat.lt_of_not_le fun hge => hx (hu x hge)
        have h0 : x = 0 := by omega
        subst h0; exact .inl rfl
      · rw [rdH_one] at hx
        split at hx
        · rename_i h0; exact ⟨0, by rw [h0]; rfl⟩
        · cases hx
      · rw [rdH_one] at hx
        split at hx <;> cases hx
    · cases hg
  · rename_i ty ns
    cases hn : nRes ty ns v H with
    | none =>
      have f1 : nForm ty ns v H = false := by simp only [nForm, hn]
      have f2 : nNil ty ns v H = false := by simp only [nNil, hn]
      simp only [f1, f2, cond_false, Bool.false_and] at h
      cases h
    | some p =>
      obtain ⟨y, o⟩ := p
      have e1 : nTy ty ns v H = y := by simp only [nTy, hn]
      cases o with
      | some q =>
        obtain ⟨b, rows⟩ := q
        have f1 : nForm ty ns v H = true := by simp only [nForm, hn]
        have e2 : nRow ty ns v H = rows := by simp only [nRow, hn]
        simp only [f1, cond_true, e1, e2] at h
        refine ⟨_, _, h, by simp, fun φ0 I0 rd0 w0 w val hu he => ?_⟩
        obtain ⟨φ, I, h1, h2, h3⟩ := he
        obtain ⟨wr, I1, u1, u2, rfl, hz, sm1, E1, hok, ⟨hc, _⟩ | ⟨b', rows', hc, hq, r2⟩⟩ := nRes_spec hn h1 h2
        · cases hc
        · cases hc
          rw [Sh.open_eq ty y hok]
          have hv : RepA φ (wrR (rdH H) wr) w I1 (.tup [.t y, .hsl b none]) (.tuple #[u1, u2]) := .tup _ _ rfl fun i x v hx hv => by
            match i with
            | 0 => simp at hx hv; subst hx; subst hv; exact .t _ _ hz
            | 1 => simp at hx hv; subst hx; subst hv; exact r2
            | i + 2 => simp at hx
          have := Ends.ren (φ1 := fun x => if x = m then φ b else none) (rd1 := rdH (List.replicate m .dead ++ [.tre ns rows])) (ρ := fun x => if x = b then some m else none) hv sm1 (h3.trans E1) ⟨fun x y hx => ?_, fun x y hx => ?_⟩ (fun x hx => ?_) (fun x hx => ?_) fun x G hx => ?_
          · simpa [AV.ren, AV.renL] using this
          · by_cases h0 : x = b
            · subst h0; rw [if_pos rfl] at hx; cases hx
              rw [rdH_rep, if_neg (by omega), rdH_one, if_pos (by omega), hq]; rfl
            · rw [if_neg h0] at hx; cases hx
          · by_cases h0 : x = b
            · subst h0; rw [if_pos rfl] at hx; cases hx
              simp
            · rw [if_neg h0] at hx; cases hx
          · have hlt : x < m := Nat.lt_of_not_le fun hge => hx (hu x hge)
            exact .inr (by rw [rdH_rep, if_pos hlt])
          · rw [rdH_rep] at hx
            split at hx
            · cases hx
            · rw [rdH_one] at hx
              split at hx
              · rename_i h0 h1
                exact ⟨b, by simp; omega⟩
              · cases hx
          · rw [rdH_rep] at hx
            split at hx
            · cases hx
            · rw [rdH_one] at hx
              split at hx <;> cases hx
      | none =>
        have f1 : nForm ty ns v H = false := by simp only [nForm, hn]
        have f2 : nNil ty ns v H = true := by simp only [nNil, hn]
        simp only [f1, f2, cond_false, Bool.true_and, e1] at h
        obtain ⟨hm, h'⟩ := bif_some h
        clear h
        have hm : m = 0 := Nat.eq_of_beq_eq_true hm
        subst hm
        refine ⟨_, _, h', Nat.le_refl _, fun φ0 I0 rd0 w0 w val hu he => ?_⟩
        obtain ⟨φ, I, h1, h2, h3⟩ := he
        obtain ⟨wr, I1, u1, u2, rfl, hz, sm1, E1, hok, ⟨_, rfl⟩ | ⟨b', rows', hc, _⟩⟩ := nRes_spec hn h1 h2
        · rw [Sh.open_eq ty y hok]
          have hv : RepA φ (wrR (rdH H) wr) w I1 (.tup [.t y, .nilS]) (.tuple #[u1, .slice none 0 0]) := .tup _ _ rfl fun i x v hx hv => by
            match i with
            | 0 => simp at hx hv; subst hx; subst hv; exact .t _ _ hz
            | 1 => simp at hx hv; subst hx; subst hv; exact .nilS
            | i + 2 => simp at hx
          have := Ends.ren (φ1 := fun _ => none) (rd1 := rdH []) (ρ := fun _ => none) hv sm1 (h3.trans E1) ⟨(fun x y hx => by cases hx), (fun x y hx => by cases hx)⟩ (fun x hx => (hx (hu x (Nat.zero_le _))).elim) (fun x hx => by cases hx) fun x G hx => by cases hx
          simpa [AV.ren, AV.renL] using this
        · cases hc
  · rename_i a b
    cases hf : bForm a b v H with
    | true =>
      simp only [hf, cond_true] at h
      refine ⟨_, _, h, by simp, fun φ0 I0 rd0 w0 w val hu he => ?_⟩
      obtain ⟨φ, I, h1, h2, h3⟩ := he
      unfold bForm at hf
      split at hf
      · rename_i i j x
        simp only [Bool.and_eq_true, Bool.not_eq_true'] at hf
        obtain ⟨hx, hij, ha, hb⟩ := hf
        have hij : i ≠ j := fun e => by rw [e, Nat.beq_refl] at hij; cases hij
        obtain ⟨xs, hq1⟩ := rowIs_spec ha
        obtain ⟨ys, hq2⟩ := rowIs_spec hb
        have hr1 : bRow1 (.tup [.agg [.hsl i none, .hsl j none], .t x]) H = xs := by simp only [bRow1, hq1, rowIn]
        have hr2 : bRow2 (.tup [.agg [.hsl i none, .hsl j none], .t x]) H = ys := by simp only [bRow2, hq2, rowIn]
        show Ends φ0 I0 rd0 w0 (.tup [.agg [.hsl m none, .hsl (m + 1) none], .t (Sh.bool.open x)]) (rdH (List.replicate m .dead ++ [.tre a (bRow1 (.tup [.agg [.hsl i none, .hsl j none], .t x]) H), .tre b (bRow2 (.tup [.agg [.hsl i none, .hsl j none], .t x]) H)])) w val
        rw [hr1, hr2, Sh.open_eq Sh.bool x hx]
        have key : ∀ y, rdH (List.replicate m .dead ++ [.tre a xs, .tre b ys]) y = if y < m then .dead else if y = m then .tre a xs else if y = m + 1 then .tre b ys else .unborn := by
          intro y
          rw [rdH_rep, rdH_cons, rdH_one]
          by_cases h1 : y < m
          · rw [if_pos h1, if_pos h1]
          · rw [if_neg h1, if_neg h1]
            by_cases h2 : y = m
            · rw [if_pos (by omega), if_pos h2]
            · rw [if_neg (by omega), if_neg h2]
              by_cases h3 : y = m + 1
              · rw [if_pos (by omega), if_pos h3]
              · rw [if_neg (by omega), if_neg h3]
        have hmn : m ≠ m + 1 := by omega
        have hv : AV.ren (fun y => if y = i then some m else if y = j then some (m + 1) else none) (.tup [.agg [.hsl i none, .hsl j none], .t x]) = .tup [.agg [.hsl m none, .hsl (m + 1) none], .t x] := by
          simp [AV.ren, AV.renL, hij.symm]
        rw [← hv]
        refine Ends.ren (φ1 := fun y => if y = m then φ i else if y = m + 1 then φ j else none) h1 h2 h3 ⟨fun y z hy => ?_, fun y z hy => ?_⟩ (fun y hy => ?_) (fun y hy => ?_) fun y G hy => ?_
        · rw [key]
          by_cases h0 : y = i
          · subst h0; rw [if_pos rfl] at hy; cases hy
            rw [if_neg (by omega), if_pos rfl, hq1]; rfl
          · rw [if_neg h0] at hy
            by_cases h0 : y = j
            · subst h0; rw [if_pos rfl] at hy; cases hy
              rw [if_neg (by omega), if_neg (by omega), if_pos rfl, hq2]; rfl
            · rw [if_neg h0] at hy; cases hy
        · by_cases h0 : y = i
          · subst h0; rw [if_pos rfl] at hy; cases hy
            rw [if_pos rfl]
          · rw [if_neg h0] at hy
            by_cases h0 : y = j
            · subst h0; rw [if_pos rfl] at hy; cases hy
              rw [if_neg (by omega), if_pos rfl]
            · rw [if_neg h0] at hy; cases hy
        · have hlt : y < m := Nat.lt_of_not_le fun hge => hy (hu y hge)
          exact .inr (by rw [key, if_pos hlt])
        · rw [key] at hy
          by_cases h1 : y < m
          · rw [if_pos h1] at hy; cases hy
          · rw [if_neg h1] at hy
            by_cases h2 : y = m
            · exact ⟨i, by rw [h2]; simp⟩
            · rw [if_neg h2] at hy
              by_cases h3 : y = m + 1
              · exact ⟨j, by rw [h3]; simp [hij.symm]⟩
              · rw [if_neg h3] at hy; cases hy
        · rw [key] at hy
          split at hy
          · cases hy
          · split at hy
            · cases hy
            · split at hy <;> cases hy
      · cases hf
    | false =>
      simp only [hf, cond_false] at h
      obtain ⟨hb, h'⟩ := bif_some h
      clear h
      simp only [Bool.and_eq_true] at hb
      obtain ⟨hb, hm⟩ := hb
      have hm : m = 0 := Nat.eq_of_beq_eq_true hm
      subst hm
      refine ⟨_, _, h', Nat.le_refl _, fun φ0 I0 rd0 w0 w val hu he => ?_⟩
      obtain ⟨φ, I, h1, h2, h3⟩ := he
      unfold bNil at hb
      split at hb
      · rename_i x
        show Ends φ0 I0 rd0 w0 (.tup [.agg [.nilS, .nilS], .t (Sh.bool.open x)]) (rdH []) w val
        rw [Sh.open_eq Sh.bool x hb]
        have := Ends.ren (φ1 := fun _ => none) (rd1 := rdH []) (ρ := fun _ => none) h1 h2 h3 ⟨(fun x y hx => by cases hx), (fun x y hx => by cases hx)⟩ (fun x hx => (hx (hu x (Nat.zero_le _))).elim) (fun x hx => by cases hx) fun x G hx => by cases hx
        simpa [AV.ren, AV.renL] using this
      · cases hb

theorem callGR_done {o : Oper} {a : Act} {c : Nat} {α : Type} {K : AV → Delta → Option α} {r : α} {k : GK} {s : Sh} (hF : FnsOk P F) (sm : Sim φ I rd w) {g : Nat} {args : List AV} {vals : Array Value} {seen : List Nat} (hex : callable P g = true → (execOp a.eval o).run P w = .ok (.enter g vals) w) (hr : RepL φ rd w I args vals.toList)
    (h : callGR F k s g args rd c seen K = some r) : Done φ rd w I P o a c K r := by
  unfold callGR at h
  obtain ⟨hb, h⟩ := bif_some h
  simp only [Bool.and_eq_true] at hb
  have hn := nodupN_nodup hb.1.1.1
  have hlt := ltAllN_spec hb.1.1.2
  have hnw : ¬ HasW (rdH (objs rd (idxN seen) seen)) := fun ⟨i, G, hi⟩ => noWld_objs hb.1.2 i G hi
  cases hp : F.rf g (AV.renL (idxN seen) args) (objs rd (idxN seen) seen) with
  | none => simp [hp] at h
  | some p =>
    obtain ⟨v1, H1⟩ := p
    simp only [hp, Option.bind_some] at h
    obtain ⟨v2, H2, h, hle, hlay⟩ := layG_some h
    unfold callR.backTo at h
    obtain ⟨hb2, h⟩ := bif_some h
    simp only [Bool.and_eq_true] at hb2
    obtain ⟨hc, hcall⟩ := hF.rf g _ _ v1 H1 hb.2 hp
    obtain ⟨R1, sur1⟩ := ren_objs φ rd hn
    have hcall := hcall (phiOf φ seen) w I vals (hr.ren R1) (sm.ren R1 sur1 fun i G hi => (hnw ⟨i, G, hi⟩).elim)
    refine calls_done (hex hc) (fun _ => hcall) h fun hu e w' he => ?_
    obtain ⟨val, φ1, I1, rfl, h1, h2, h3⟩ := he
    obtain ⟨φ2, I2, h1, h2, h3⟩ := hlay (phiOf φ seen) I _ w w' val (fun b hb' => by rw [rdH_objs, List.getElem?_eq_none hb']) ⟨φ1, I1, h1, h2, h3⟩
    obtain ⟨φ', B⟩ := back_of (φ := φ) (rd := rd) (c := c) (φ2 := φ2) (rd2 := rdH H2) hn hlt (nodupN_nodup hb2.2) (upTo_pre hle)
    rw [objs_length] at hu
    obtain ⟨k1, k2⟩ := back_sim sm hn B hlt hu hnw h2 h3
    exact ⟨val, φ', I2, rfl, h1.ren B.ren, k1, k2⟩

theorem callG_done {o : Oper} {a : Act} {c : Nat} {α : Type} {K : AV → Delta → Option α} {r : α} {k : GK} {s : Sh} (hF : FnsOk P F) (sm : Sim φ I rd w) {mask : List Bool} {g : Nat} {args : List AV} {vals : Array Value} (hex : callable P g = true → (execOp a.eval o).run P w = .ok (.enter g vals) w) (hr : RepL φ rd w I args vals.toList)
    (h : callG F k s mask g args rd c K = some r) : Done φ rd w I P o a c K r := by
  unfold callG at h
  obtain ⟨us, p1, p2⟩ := pickM_rep (mask := mask) hr
  obtain ⟨xs, wr, I1, h, hrt, sm1, E1, hub⟩ := treesOf_some' sm p1 h
  rw [wrF_eq] at h
  obtain ⟨x, d, hK, hD⟩ := callGR_done (K := fun v d => K v ⟨wr ++ d.wr, d.nw⟩) hF sm1 hex (p2 (fun x v hx => hx.ext E1 sm) hrt) h
  refine ⟨x, _, hK, fun hu next Q hn => ?_⟩
  refine hD (fun y h1 h2 => hub y (hu y h1 h2)) next Q fun φ' I' v w' h1 h2 h3 => ?_
  rw [appRd_app] at hn
  exact hn φ' I' v w' h1 h2 (E1.trans h3)

theorem do_callg {o : Oper} {a : Act} {c : Nat} {α : Type} {K : AV → Delta → Option α} {r : α} {ts : List AV} {k : GK} {s : Sh} (hs : RepS φ rd w I ts a.tmps) (sm : Sim φ I rd w) (hF : FnsOk P F) {mask : List Bool} {g : Nat} {cl : Call} {args : List Opd} (ho : o.op = .call cl) (hc : cl.callee = .value (.func g)) (ha : compOpds cl.args.toList = some args)
    (h : callG F k s mask g (evs ts args) rd c K = some r) : Done φ rd w I P o a c K r := by
  refine callG_done hF sm (vals := cl.args.map a.eval) (fun hcb => ?_) (by simpa using evs_rep hs ha) h
  have := call_exec (P := P) (w := w) (a := a) hcb ho hc (x := .func g) (va := #[]) (vc := #[]) rfl
  simpa using this

end

end Go.Proofs.Dw
end
