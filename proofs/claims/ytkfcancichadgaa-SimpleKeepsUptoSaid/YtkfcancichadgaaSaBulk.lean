/-
  SIMPLE: a row's readings as trees, of a size that is at most the reading's bulk.
-/
import Derived.Test.YtkfcancichadgaaAw4
import Derived.Test.YtkfcancichadgaaRows
set_option linter.unusedSimpArgs false
set_option linter.unusedVariables false
set_option linter.unusedSimpArgs false
set_option linter.unusedVariables false
namespace Go.Proofs.Aw.Sa
open Go.Proofs Go.Proofs.Ytkfcancichadgaa

mutual
/-- Values and letters. -/
def tsz : Tree → Nat
  | .str s => s.length + 1
  | .slc es => tszs es + 1
  | .agg cs => tszs cs
  | _ => 1
def tszs : List Tree → Nat
  | [] => 0
  | x :: r => tsz x + tszs r
end

theorem tszs_append : ∀ a b : List Tree, tszs (a ++ b) = tszs a + tszs b
  | [], b => by simp [tszs]
  | x :: a, b => by simp only [List.cons_append, tszs, tszs_append a b]; omega

section
variable {H : Type} {enc : TypeId × Value → H} {P : Program} {w : World} {sp : Nat → Bool} {held : Bool} {L : List Nat}

/-- What a reading of cells gives, and how much at most. -/
def ReadB (P : Program) (w : World) (t : TypeId) (cs : List Value) (B : Nat) : Prop := ∃ ts : List Tree, RepTL w (oldI w) ts cs ∧ TV P t ts ∧ (∀ x, x ∈ ts → x.isSc = true) ∧ tszs ts ≤ B

theorem tsz_mkTree {t : TypeId} {cs : List Tree} (h : TV P t cs) : tsz (mkTree P t cs) ≤ tszs cs := by
  unfold mkTree
  split
  · simp [tsz]
  · rename_i ha
    obtain ⟨x, rfl, hx⟩ := h.one (fun e => ha e)
    simp [tszs]

theorem tszs_range (g : Nat → Tree) (b : Nat → Nat) : ∀ n, (∀ i, i < n → tsz (g i) ≤ b i) → tszs ((List.range n).map g) ≤ ((List.range n).map b).sum
  | 0, _ => by simp [tszs]
  | n + 1, h => by
    rw [List.range_succ, List.map_append, List.map_append, tszs_append, List.sum_append]
    have := tszs_range g b n fun i hi => h i (by omega)
    have := h n (by omega)
    simp [tszs]
    omega

/-- A slice whose elements are read one by one. -/
theorem readB_slice {t e : TypeId} {a : Addr} {len cap : Nat} {b : Nat → Nat} (ht : P.underlying t = some (.slice e)) (hc1 : 1 ≤ P.cellsOf e) (hcap : len ≤ cap) (hm : len ≤ maxLen) (hb : len * P.bytesOf e ≤ reachBytes)
    (hr : ∀ i, i < len → ∃ cs, w.cells? 0 (a.add (i * P.cellsOf e)) (P.cellsOf e) = some cs ∧ ReadB P w e cs (b i)) : ReadB P w t [.slice (some a) len cap] (((List.range len).map b).sum + 1) := by
  have hch : ∃ f : Nat → List Tree, ∀ i, i < len → ∃ cs, w.cells? 0 (a.add (i * P.cellsOf e)) (P.cellsOf e) = some cs ∧ RepTL w (oldI w) (f i) cs ∧ TV P e (f i) ∧ (∀ x, x ∈ f i → x.isSc = true) ∧ tszs (f i) ≤ b i := by
    refine ⟨fun i => if h : i < len then (hr i h).choose_spec.2.choose else [], fun i hi => ?_⟩
    simp only [dif_pos hi]
    exact ⟨_, (hr i hi).choose_spec.1, (hr i hi).choose_spec.2.choose_spec⟩
  obtain ⟨f, hf⟩ := hch
  have hel : ∀ (i : Nat) x, ((List.range len).map fun i => mkTree P e (f i))[i]? = some x → i < len ∧ x = mkTree P e (f i) := by
    intro i x hx
    rw [List.getElem?_map] at hx
    rcases Nat.lt_or_ge i len with hi | hi
    · simp [hi] at hx; exact ⟨hi, hx.symm⟩
    · simp [List.getElem?_range, hi] at hx
  have hlen : ((List.range len).map fun i => mkTree P e (f i)).length = len := by simp
  have hwt : ∀ x, x ∈ ((List.range len).map fun i => mkTree P e (f i)) → WT P e x := by
    intro x hx
    obtain ⟨i, hi, rfl⟩ := List.mem_map.1 hx
    obtain ⟨cs, _, _, h3, h4, _⟩ := hf i (by simpa using hi)
    exact mkTree_WT h3 h4
  refine ⟨[.slc ((List.range len).map fun i => mkTree P e (f i))], RepTL.one ?_, .slc t e _ ht (by rw [hlen]; exact hb) (by rw [hlen]; exact hm) (fun x hx => ⟨(hwt x hx).1, (hwt x hx).2.1⟩) (fun x hx => (hwt x hx).2.2), fun x hx => by simp at hx; subst hx; rfl, ?_⟩
  · rcases Nat.eq_zero_or_pos len with h0 | hpos
    · subst h0; exact .slc0 (some a) cap
    · obtain ⟨b, o, s⟩ := a
      have hsp : s = none := by
        obtain ⟨cs, h1, h2, _⟩ := hf 0 hpos
        obtain ⟨k1, k2⟩ := cells_some h1
        have := k2 0 (by omega)
        rw [show ((⟨b, o, s⟩ : Addr).add (0 * P.cellsOf e)).add 0 = ⟨b, o, s⟩ by simp [Addr.add], List.getElem?_eq_getElem (by omega)] at this
        exact (cell_lt this).2
      subst hsp
      have hcells : ∀ (i j : Nat) x y, ((List.range len).map fun i => mkTree P e (f i))[i]? = some x → x.cells[j]? = some y → ∃ v, w.cell? ⟨b, o + i * P.cellsOf e + j, none⟩ = some v ∧ RepT w (oldI w) y v := by
        intro i j x y hx hy
        obtain ⟨hi, rfl⟩ := hel i x hx
        obtain ⟨cs, h1, h2, h3, h4, _⟩ := hf i hi
        obtain ⟨k1, k2⟩ := cells_some h1
        rw [mkTree_cells h3] at hy
        have hj : j < cs.length := by have := (List.getElem?_eq_some_iff.1 hy).1; have := h2.1; omega
        have := k2 j (by omega)
        rw [Addr.add_none, Addr.add_none, List.getElem?_eq_getElem hj] at this
        exact ⟨_, this, h2.2 j y _ hy (by simp)⟩
      have hlt : oldI w b := by
        obtain ⟨cs, h1, h2, _⟩ := hf 0 hpos
        obtain ⟨k1, k2⟩ := cells_some h1
        have := k2 0 (by omega)
        rw [Addr.add_none, Addr.add_none, List.getElem?_eq_getElem (by omega)] at this
        exact (cell_lt this).1
      have := RepT.slc (w := w) (I := oldI w) ((List.range len).map fun i => mkTree P e (f i)) b o cap (P.cellsOf e) (fun i j => (w.cell? ⟨b, o + i * P.cellsOf e + j, none⟩).getD undef) hlt (by rw [hlen]; exact hcap)
        (fun i x hx => by
          obtain ⟨hi, rfl⟩ := hel i x hx
          obtain ⟨cs, h1, h2, h3, h4, _⟩ := hf i hi
          rw [mkTree_cells h3]
          have := h2.1; have := (cells_some h1).1; omega)
        (fun x hx => (hwt x hx).1)
        (fun i j x y hx hy => by obtain ⟨v, hv, _⟩ := hcells i j x y hx hy; rw [hv]; rfl)
        (fun i j x y hx hy => by obtain ⟨v, hv, hr⟩ := hcells i j x y hx hy; rw [hv]; exact hr)
      rw [hlen] at this
      exact this
  · simp only [tszs, tsz, Nat.add_zero]
    have := tszs_range (fun i => mkTree P e (f i)) b len fun i hi => by
      obtain ⟨cs, h1, h2, h3, h4, h5⟩ := hf i hi
      exact Nat.le_trans (tsz_mkTree h3) h5
    omega

/-- Parts one behind the other. -/
theorem readB_parts (total : Nat) : ∀ (fs : List Field) (bs : List Nat) (off : Nat) (cs : List Value), bs.length = fs.length → cs.length = total → tiles P L total off fs = true → off ≤ total →
    (∀ (i : Nat) f b, fs[i]? = some f → bs[i]? = some b → f.type ∈ L → ReadB P w f.type ((cs.drop f.offset).take (P.cellsOf f.type)) b) →
    ∃ ts : List Tree, RepTL w (oldI w) ts (cs.drop off) ∧ (∀ x, x ∈ ts → x.isSc = true) ∧ (∀ f, f ∈ fs → off ≤ f.offset ∧ TV P f.type ((ts.drop (f.offset - off)).take (P.cellsOf f.type))) ∧ tszs ts ≤ bs.sum
  | [], bs, off, cs, hbl, hl, ht, hle, _ => by
    simp only [tiles] at ht
    have := Nat.eq_of_beq_eq_true ht
    refine ⟨[], ?_, fun x h => by simp at h, fun f h => by simp at h, by simp [tszs]⟩
    rw [List.drop_eq_nil_of_le (by omega)]
    exact RepTL.nil'
  | f :: fs, [], _, _, hbl, _, _, _, _ => by simp at hbl
  | f :: fs, b :: bs, off, cs, hbl, hl, ht, hle, hr => by
    simp only [tiles, Bool.and_eq_true] at ht
    obtain ⟨h1, h2, h3⟩ := ht
    have h2 := Nat.eq_of_beq_eq_true h2
    have hle2 : ∀ (fs : List Field) (o : Nat), tiles P L total o fs = true → o ≤ total := by
      intro fs
      induction fs with
      | nil => intro o h; simp only [tiles] at h; have := Nat.eq_of_beq_eq_true h; omega
      | cons g gs ih =>
        intro o h
        simp only [tiles, Bool.and_eq_true] at h
        have := ih _ h.2.2
        omega
    have hb := hle2 fs _ h3
    obtain ⟨t1, k1, k2, k3, k4⟩ := hr 0 f b rfl rfl ((memN_iff _ _).1 h1)
    obtain ⟨t2, m1, m2, m3, m4⟩ := readB_parts total fs bs (off + P.cellsOf f.type) cs (by simpa using hbl) hl h3 hb fun i g b hg hbb hgL => hr (i + 1) g b (by simpa using hg) (by simpa using hbb) hgL
    have hl1 : t1.length = P.cellsOf f.type := by
      have := k1.1
      rw [List.length_take, List.length_drop] at this
      omega
    refine ⟨t1 ++ t2, ?_, fun x hx => ?_, fun g hg => ?_, ?_⟩
    · have hsplit : cs.drop off = (cs.drop f.offset).take (P.cellsOf f.type) ++ cs.drop (off + P.cellsOf f.type) := by
        rw [h2, ← List.drop_drop, List.take_append_drop]
      rw [hsplit]
      exact k1.append m1
    · rcases List.mem_append.1 hx with h | h
      · exact k3 x h
      · exact m2 x h
    · rcases List.mem_cons.1 hg with e | hg
      · subst e
        refine ⟨by omega, ?_⟩
        rw [h2, Nat.sub_self, List.drop_zero, ← hl1, List.take_left]
        exact k2
      · obtain ⟨p1, p2⟩ := m3 g hg
        refine ⟨by omega, ?_⟩
        rw [show g.offset - off = t1.length + (g.offset - (off + P.cellsOf f.type)) by omega, List.drop_append]
        rw [List.drop_eq_nil_of_le (by omega), List.nil_append, show t1.length + (g.offset - (off + P.cellsOf f.type)) - t1.length = g.offset - (off + P.cellsOf f.type) by omega]
        exact p2
    · rw [tszs_append, List.sum_cons]; omega

theorem bulk_pos (d : DataW H) : 1 ≤ Rows.uptoBulk d := by
  cases d with
  | lit l => cases l <;> simp [Rows.uptoBulk]
  | nil => simp [Rows.uptoBulk]
  | ptr d => simp [Rows.uptoBulk]
  | slice elems spare => simp [Rows.uptoBulk]
  | agg parts => simp [Rows.uptoBulk]
  | iface t d => simp [Rows.uptoBulk]
  | map entries => simp [Rows.uptoBulk]
  | held h => simp [Rows.uptoBulk]

theorem bulkAll_sum : ∀ l : List (DataW H), Rows.uptoBulkAll l = (l.map Rows.uptoBulk).sum
  | [] => rfl
  | d :: r => by simp [Rows.uptoBulkAll, bulkAll_sum r]

theorem trod_readB (hk : kidsB P L = true) (hna : ∀ t, t ∈ L → ∀ n e, P.underlying t ≠ some (.array n e)) : ∀ (fuel : Nat) (t : TypeId) (cs : List Value) (d : DataW H) (ps : List MemPlace), t ∈ L → DataW.trod enc P w 0 sp held fuel t cs = some (d, ps) →
    (d.weights P t).all (· ≤ reachBytes) = true → ReadB P w t cs (Rows.uptoBulk d)
  | 0, t, cs, d, ps, _, h, _ => by simp [DataW.trod] at h
  | fuel + 1, t, cs, d, ps, ht, h, hw => by
    have hkt := kidsB_spec hk ht
    unfold kidsOk at hkt
    have hdp := bulk_pos d
    have one : ∀ {x : Tree} {v : Value}, RepT w (oldI w) x v → TV P t [x] → x.isSc = true → tsz x ≤ Rows.uptoBulk d → ReadB P w t [v] (Rows.uptoBulk d) := fun h1 h2 h3 h4 => ⟨[_], RepTL.one h1, h2, fun y hy => by simp at hy; subst hy; exact h3, by simpa [tszs] using h4⟩
    split at hkt
    · rename_i hu
      obtain ⟨b, rfl⟩ := trod_bool hu h
      exact one (.bool b) (.bool t b hu) rfl (by simpa [tsz] using hdp)
    · rename_i k hu
      obtain ⟨n, rfl, hn⟩ := trod_int hu h
      exact one (.int k n) (.int t k n hu hn) rfl (by simpa [tsz] using hdp)
    · rename_i hu
      obtain ⟨s, rfl, rfl⟩ := trod_str hu h
      have hs := RepT.str (w := w) (I := oldI w) s.data.toList
      refine one (by simpa using hs) (.str t _ hu ?_) rfl (by simp [tsz, Rows.uptoBulk])
      simp only [DataW.weights, List.all_cons, List.all_nil, Bool.and_true, decide_eq_true_eq] at hw
      exact hw
    · rename_i e hu
      simp only [Bool.and_eq_true] at hkt
      rcases trod_slice hu h with rfl | ⟨a, len, cap, elems, rest, rfl, h1, h2, h3, rfl, h4⟩
      · exact one (.slc0 none 0) (.slc t e [] hu (by simp) (by simp) (fun x hx => by simp at hx) (fun x hx => by simp at hx)) rfl (by simpa [tsz, tszs] using hdp)
      · simp only [DataW.weights, hu, List.all_cons, Bool.and_eq_true, decide_eq_true_eq] at hw
        obtain ⟨hw1, hw2⟩ := hw
        obtain ⟨hw2, _⟩ := all_app hw2
        have hs := readB_slice (b := fun i => ((elems[i]?).map fun x => Rows.uptoBulk x.1).getD 0) hu (Nat.le_of_ble_eq_true hkt.2) h1 (by omega) (by
          refine Nat.le_trans (Nat.mul_le_mul_right _ ?_) hw1
          simp [h3]) fun i hi => (by
          obtain ⟨c, x, hc, hx, hx2⟩ := h4 i hi
          rw [hx]
          exact ⟨c, hc, trod_readB hk hna fuel e c x.1 x.2 ((memN_iff _ _).1 hkt.1) hx2 (weightsAll_get hw2 (by rw [List.getElem?_map, hx]; rfl))⟩)
        obtain ⟨ts, q1, q2, q3, q4⟩ := hs
        refine ⟨ts, q1, q2, q3, Nat.le_trans q4 ?_⟩
        simp only [Rows.uptoBulk, bulkAll_sum, List.map_map]
        have e1 : (List.range len).map (fun i => ((elems[i]?).map fun x => Rows.uptoBulk x.1).getD 0) = elems.map (fun x => Rows.uptoBulk x.1) := by
          apply List.ext_getElem
          · simp [h3]
          · intro i hi1 hi2
            simp at hi1 hi2
            simp [hi2]
        rw [e1]
        have e2 : List.map (Rows.uptoBulk ∘ fun x => x.1) elems = elems.map (fun x : DataW H × List MemPlace => Rows.uptoBulk x.1) := rfl
        rw [e2]
        omega
    · rename_i fs hu
      obtain ⟨hl, xs, rfl, hx1, hx2⟩ := trod_struct hu h
      simp only [DataW.weights, hu] at hw
      obtain ⟨ts, k1, k2, k3, k4⟩ := readB_parts (P := P) (w := w) (L := L) (P.cellsOf t) fs.toList (xs.map fun x => Rows.uptoBulk x.1) 0 cs (by simpa using hx1) hl hkt (Nat.zero_le _) fun i f b hf hb hfL => by
        obtain ⟨x, e1, e2⟩ := hx2 i _ hf
        rw [List.getElem?_map, e1] at hb
        simp only [Option.map_some, Option.some.injEq] at hb
        subst hb
        exact trod_readB hk hna fuel _ _ x.1 x.2 hfL e2 (weightsEach_get (i := i) hw (by rw [List.getElem?_map, hf]; rfl) (by rw [List.getElem?_map, e1]; rfl))
      rw [List.drop_zero] at k1
      refine ⟨ts, k1, .struct t fs ts hu (by rw [← hl]; exact k1.1.symm) (fun f hf => ?_), k2, ?_⟩
      · have := (k3 f hf).2
        rwa [Nat.sub_zero] at this
      · simp only [Rows.uptoBulk, bulkAll_sum, List.map_map]
        have e2 : List.map (Rows.uptoBulk ∘ fun x => x.1) xs = xs.map (fun x : DataW H × List MemPlace => Rows.uptoBulk x.1) := rfl
        rw [e2]
        omega
    · rename_i n e hu
      exact absurd hu (hna t ht n e)
    · cases hkt

/-- An argument of a row, as a tree, and how large it is at most. -/
theorem arg_readB (hk : kidsB P L = true) (hna : ∀ t, t ∈ L → ∀ n e, P.underlying t ≠ some (.array n e)) {t : TypeId} {v : Value} {d : DataW H} {ps : List MemPlace} {base : Nat} (ht : t ∈ L) (hv : Value.okWide P w .any base t v) (h : DataW.Trod enc P w 0 sp held t v d ps) (hw : (d.weights P t).all (· ≤ reachBytes) = true) :
    ∃ x, RepT w (oldI w) x v ∧ WT P t x ∧ tsz x ≤ Rows.uptoBulk d := by
  obtain ⟨fuel, h⟩ := h
  obtain ⟨ts, h1, h2, h3, h4⟩ := trod_readB hk hna fuel t _ d ps ht h hw
  refine ⟨mkTree P t ts, ?_, mkTree_WT h2 h3, Nat.le_trans (tsz_mkTree h2) h4⟩
  unfold mkTree
  split
  · rename_i ha
    unfold Value.okWide at hv
    unfold tyAgg at ha
    have : ∃ cs, v = .agg cs := by
      split at ha
      · rename_i hu; rw [hu] at hv; obtain ⟨cs, rfl, _⟩ := hv; exact ⟨cs, rfl⟩
      · rename_i hu; rw [hu] at hv; obtain ⟨cs, rfl, _⟩ := hv; exact ⟨cs, rfl⟩
      · cases ha
      · cases ha
    obtain ⟨cs, rfl⟩ := this
    exact .agg ts cs (by simpa [Value.cells] using h1.1) h3 fun i x u hx hu => h1.2 i x u hx (by simpa [Value.cells] using hu)
  · rename_i ha
    obtain ⟨x, rfl, hx⟩ := h2.one (fun e => ha e)
    have hl := h1.1
    simp only [List.headD_cons]
    cases v with
    | agg cs =>
      exfalso
      unfold Value.okWide at hv
      unfold tyAgg at ha
      cases hu : P.underlying t with
      | none => rw [hu] at hv; simp [Cell.okWide, Cell.ok, hu] at hv
      | some dd => cases dd <;> simp [hu, Cell.okWide, Cell.ok] at hv ha
    | _ => exact h1.2 0 x _ rfl (by simp [Value.cells])

end

end Go.Proofs.Aw.Sa
