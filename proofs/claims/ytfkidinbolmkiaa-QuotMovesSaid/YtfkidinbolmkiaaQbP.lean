/-
  QUOT: ascending lists: the plain law.
-/
import Derived.Test.YtfkidinbolmkiaaQbL4
set_option linter.unusedSimpArgs false
set_option linter.unusedVariables false
namespace Go.Proofs.Bw.Qb
open Go.Proofs

theorem asc_unique : ∀ {l m : List Int}, l.Pairwise (· ≤ ·) → m.Pairwise (· ≤ ·) → l.Perm m → l = m
  | [], m, _, _, h => (List.Perm.nil_eq h)
  | x :: l, [], _, _, h => absurd h.symm (by intro h; have := h.length_eq; simp at this)
  | x :: l, y :: m, hl, hm, h => by
    obtain ⟨h1, h2⟩ := List.pairwise_cons.1 hl
    obtain ⟨h3, h4⟩ := List.pairwise_cons.1 hm
    have e : x = y := by
      have a : x ∈ y :: m := h.subset (by simp)
      have b : y ∈ x :: l := h.symm.subset (by simp)
      rcases List.mem_cons.1 a with a | a
      · exact a
      · rcases List.mem_cons.1 b with b | b
        · exact b.symm
        · have := h1 y b; have := h3 x a; omega
    subst e
    rw [asc_unique h2 h4 ((List.perm_cons x).1 h)]

theorem sasc_unique : ∀ {l m : List Int}, l.Pairwise (· < ·) → m.Pairwise (· < ·) → (∀ a, a ∈ l ↔ a ∈ m) → l = m
  | [], [], _, _, _ => rfl
  | [], y :: m, _, _, h => absurd ((h y).2 (by simp)) (by simp)
  | x :: l, [], _, _, h => absurd ((h x).1 (by simp)) (by simp)
  | x :: l, y :: m, hl, hm, h => by
    obtain ⟨h1, h2⟩ := List.pairwise_cons.1 hl
    obtain ⟨h3, h4⟩ := List.pairwise_cons.1 hm
    have e : x = y := by
      have a : x ∈ y :: m := (h x).1 (by simp)
      have b : y ∈ x :: l := (h y).2 (by simp)
      rcases List.mem_cons.1 a with a | a
      · exact a
      · rcases List.mem_cons.1 b with b | b
        · exact b.symm
        · have := h1 y b; have := h3 x a; omega
    subst e
    rw [sasc_unique h2 h4 fun a => ⟨fun ha => ?_, fun ha => ?_⟩]
    · rcases List.mem_cons.1 ((h a).1 (by simp [ha])) with e | e
      · have := h1 a ha; omega
      · exact e
    · rcases List.mem_cons.1 ((h a).2 (by simp [ha])) with e | e
      · have := h3 a ha; omega
      · exact e

theorem ins_perm (x : Int) : ∀ L : List Int, (ins false x L).Perm (x :: L)
  | [] => .refl _
  | y :: r => by
    simp only [ins, Bool.false_eq_true, false_and, if_false]
    split
    · exact .refl _
    · exact ((ins_perm x r).cons y).trans (List.Perm.swap x y r)

theorem ins_asc (x : Int) : ∀ {L : List Int}, L.Pairwise (· ≤ ·) → (ins false x L).Pairwise (· ≤ ·)
  | [], _ => by simp [ins]
  | y :: r, h => by
    obtain ⟨h1, h2⟩ := List.pairwise_cons.1 h
    simp only [ins, Bool.false_eq_true, false_and, if_false]
    split
    · rename_i hxy
      refine List.pairwise_cons.2 ⟨fun a ha => ?_, h⟩
      rcases List.mem_cons.1 ha with e | e
      · omega
      · have := h1 a e; omega
    · rename_i hxy
      refine List.pairwise_cons.2 ⟨fun a ha => ?_, ins_asc x h2⟩
      rcases List.mem_cons.1 ((ins_perm x r).subset ha) with e | e
      · omega
      · exact h1 a e

theorem insAll_perm : ∀ (L out : List Int), (insAll false out L).Perm (out ++ L)
  | [], out => by simp [insAll]
  | x :: r, out => by
    refine (insAll_perm r (ins false x out)).trans ?_
    refine ((ins_perm x out).append_right r).trans ?_
    exact List.perm_middle.symm

theorem insAll_asc : ∀ (L : List Int) {out : List Int}, out.Pairwise (· ≤ ·) → (insAll false out L).Pairwise (· ≤ ·)
  | [], _, h => h
  | x :: r, _, h => insAll_asc r (ins_asc x h)

theorem sortL_perm (L : List Int) : (sortL L).Perm L := List.mergeSort_perm L _

theorem sortL_asc (L : List Int) : (sortL L).Pairwise (· ≤ ·) := by
  have h := List.pairwise_mergeSort (le := fun x y : Int => decide (x ≤ y)) (fun a b c h1 h2 => by simp at *; omega) (fun a b => by simp; omega) L
  exact h.imp fun h => by simpa using h

theorem insAll_sort (L : List Int) : insAll false [] L = sortL L :=
  asc_unique (insAll_asc L .nil) (sortL_asc L) (((insAll_perm L []).trans (by simp)).trans (sortL_perm L).symm)

theorem mem_ins (once : Bool) (x a : Int) : ∀ L : List Int, a ∈ ins once x L ↔ a = x ∨ a ∈ L
  | [] => by simp [ins]
  | y :: r => by
    simp only [ins]
    split
    · split
      · rename_i h; rw [h.2]; simp
      · simp
    · simp only [List.mem_cons, mem_ins once x a r]
      constructor
      · rintro (h | h | h) <;> simp [h]
      · rintro (h | h | h) <;> simp [h]

theorem ins_sasc (x : Int) : ∀ {L : List Int}, L.Pairwise (· < ·) → (ins true x L).Pairwise (· < ·)
  | [], _ => by simp [ins]
  | y :: r, h => by
    obtain ⟨h1, h2⟩ := List.pairwise_cons.1 h
    simp only [ins, true_and]
    split
    · rename_i hxy
      split
      · exact h
      · rename_i hne
        refine List.pairwise_cons.2 ⟨fun a ha => ?_, h⟩
        rcases List.mem_cons.1 ha with e | e
        · omega
        · have := h1 a e; omega
    · rename_i hxy
      refine List.pairwise_cons.2 ⟨fun a ha => ?_, ins_sasc x h2⟩
      rcases (mem_ins true x a r).1 ha with e | e
      · omega
      · exact h1 a e

theorem insAll_sasc : ∀ (L : List Int) {out : List Int}, out.Pairwise (· < ·) → (insAll true out L).Pairwise (· < ·)
  | [], _, h => h
  | x :: r, _, h => insAll_sasc r (ins_sasc x h)

theorem mem_insAll (once : Bool) (a : Int) : ∀ (L out : List Int), a ∈ insAll once out L ↔ a ∈ out ∨ a ∈ L
  | [], out => by simp [insAll]
  | x :: r, out => by
    simp only [insAll, mem_insAll once a r, mem_ins, List.mem_cons]
    constructor
    · rintro ((h | h) | h) <;> simp [h]
    · rintro (h | h | h) <;> simp [h]

theorem mem_tailC (b : Int) : ∀ (L : List Int) (a : Int), b = a ∨ b ∈ Qc.tailC a L ↔ b = a ∨ b ∈ L
  | [], a => by simp [Qc.tailC]
  | y :: r, a => by
    simp only [Qc.tailC]
    split
    · rename_i h; subst h
      rw [mem_tailC b r y]; simp
    · have := mem_tailC b r y
      simp only [List.mem_cons]
      constructor
      · rintro (h | h | h)
        · exact .inl h
        · exact .inr (.inl h)
        · exact .inr (this.1 (.inr h))
      · rintro (h | h | h)
        · exact .inl h
        · exact .inr (.inl h)
        · exact .inr (this.2 (.inr h))

theorem tailC_sasc : ∀ (L : List Int) (a : Int), (a :: L).Pairwise (· ≤ ·) → (a :: Qc.tailC a L).Pairwise (· < ·)
  | [], a, _ => by simp [Qc.tailC]
  | y :: r, a, h => by
    obtain ⟨h1, h2⟩ := List.pairwise_cons.1 h
    simp only [Qc.tailC]
    split
    · rename_i e; subst e; exact tailC_sasc r y h2
    · rename_i hne
      have ih := tailC_sasc r y h2
      have hy := h1 y (by simp)
      refine List.pairwise_cons.2 ⟨fun b hb => ?_, ih⟩
      rcases List.mem_cons.1 hb with e | e
      · omega
      · have := (List.pairwise_cons.1 ih).1 b e; omega

theorem cmpct_sasc {L : List Int} (h : L.Pairwise (· ≤ ·)) : (Qc.cmpct L).Pairwise (· < ·) := by
  cases L with
  | nil => exact .nil
  | cons x r => exact tailC_sasc r x h

theorem mem_cmpct (b : Int) (L : List Int) : b ∈ Qc.cmpct L ↔ b ∈ L := by
  cases L with
  | nil => rfl
  | cons x r => simp only [Qc.cmpct, List.mem_cons]; exact mem_tailC b r x

theorem insAll_set (L : List Int) : insAll true [] L = Qc.cmpct (sortL L) :=
  sasc_unique (insAll_sasc L .nil) (cmpct_sasc (sortL_asc L)) fun a => by
    rw [mem_insAll, mem_cmpct, (sortL_perm L).mem_iff]; simp

theorem insAll_meet (A B : List Int) : insAll true [] (A.filter (Qc.isIn B)) = (Qc.cmpct (sortL A)).filter (Qc.isIn B) :=
  sasc_unique (insAll_sasc _ .nil) ((cmpct_sasc (sortL_asc A)).filter _) fun a => by
    rw [mem_insAll, List.mem_filter, List.mem_filter, mem_cmpct, (sortL_perm A).mem_iff]; simp

theorem cnt_perm (x : Int) {l m : List Int} (h : l.Perm m) : cnt x l = cnt x m := by
  induction h with
  | nil => rfl
  | cons y _ ih => simp only [cnt, ih]
  | swap y z l => simp only [cnt]; omega
  | trans _ _ h1 h2 => exact h1.trans h2

theorem insAll_append (once : Bool) : ∀ (A B out : List Int), insAll once (insAll once out A) B = insAll once out (A ++ B)
  | [], _, _ => rfl
  | x :: r, B, out => insAll_append once r B (ins once x out)

theorem cmpct_length (L : List Int) (h : L.Pairwise (· ≤ ·)) : (Qc.cmpct L).length ≤ L.length := by
  have aux : ∀ (r : List Int) (a : Int), (Qc.tailC a r).length ≤ r.length := by
    intro r
    induction r with
    | nil => intro a; simp [Qc.tailC]
    | cons y r ih => intro a; simp only [Qc.tailC]; split <;> simp [ih] ; exact Nat.le_succ_of_le (ih a)
  cases L with
  | nil => exact Nat.le_refl _
  | cons x r => simp only [Qc.cmpct, List.length_cons]; have := aux r x; omega

end Go.Proofs.Bw.Qb
