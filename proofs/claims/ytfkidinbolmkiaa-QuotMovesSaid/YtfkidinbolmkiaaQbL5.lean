/-
  QUOT: what both sides say of lists; QuotLists.
-/
import Derived.Test.YtfkidinbolmkiaaQbP
import Derived.Test.YtfkidinbolmkiaaQbInts
set_option linter.unusedSimpArgs false
set_option linter.unusedVariables false
namespace Go.Proofs.Bw.Qb
open Go.Proofs

def setR (X : List Int) (k : Int) : Tree := .tup [.slc (T X), I k]

/-- A list that is told. -/
def pack (ok : Bool) (M : List Int) : Tree := if ok = true then (if M.length ≤ 60 then setR M 0 else setR [] 2) else setR [] 4

theorem pack_form (ok : Bool) (M : List Int) : ∃ X k, pack ok M = setR X k ∧ X.length ≤ 60 := by
  unfold pack
  split
  · split
    · rename_i h; exact ⟨M, 0, rfl, h⟩
    · exact ⟨[], 2, rfl, by simp⟩
  · exact ⟨[], 4, rfl, by simp⟩

theorem pack_ok {M : List Int} (h : M.length ≤ 60) : pack true M = setR M 0 := by simp [pack, h]
theorem pack_bad (M : List Int) : pack false M = setR [] 4 := rfl

theorem told_pack (M : List Int) : (if M.length ≤ 60 then Tree.tup [.slc (T M), I 0] else .tup [.slc [], I 2]) = pack true M := by
  unfold pack; rfl

theorem s41 (L : List Int) : Ev E 100 41 [.slc (T L)] (pack (listOk L) (sortL L)) :=
  Ev.mk fun n hn => by
    rw [e41, s66 L n (by omega), Option.bind_some, ok_bool, cond_true, toBool_bool]
    cases hL : listOk L with
    | false => rw [bif_pos (c := !false) rfl]; rfl
    | true =>
      have h60 := listOk_len hL
      rw [bif_neg (c := !true) rfl, s68 L (by omega) n (by omega), Option.bind_some, ok_slc, cond_true, elems_slc, pack_ok (by rw [sortL_length]; exact h60)]
      rfl

theorem open_pack {ok : Bool} {M : List Int} {n g : Nat} {xs : List Tree} (h : evP E n g xs = some (pack ok M)) :
    (Option.bind (evP E n g xs) fun y => bif Sh.ok (Sh.tup [Sh.slc, Sh.int IntKind.i64]) y then
      some (Tree.tup [Tree.slc (Tree.elems (List.headD (Tree.tupl y) (Tree.bool false))), Tree.int IntKind.i64 (Tree.toInt (List.headD (List.tail (Tree.tupl y)) (Tree.bool false)))]) else none) = some (pack ok M) := by
  obtain ⟨X, k, e, _⟩ := pack_form ok M
  rw [h, e]; rfl

theorem s33 (A B : List Int) : Ev E 100 33 [.slc (T A), .slc (T B)] (pack (listOk A && listOk B) (sortL (A ++ B))) :=
  Ev.mk fun n hn => by
    rw [e33, s66 A n (by omega), Option.bind_some, ok_bool, cond_true, toBool_bool]
    cases hA : listOk A with
    | false => rw [bif_pos (c := !false) rfl]; rfl
    | true =>
      rw [bif_neg (c := !true) rfl, s66 B n (by omega), Option.bind_some, ok_bool, cond_true, toBool_bool]
      cases hB : listOk B with
      | false => rw [bif_pos (c := !false) rfl]; rfl
      | true =>
        have h1 := listOk_len hA
        have h2 := listOk_len hB
        rw [bif_neg (c := !true) rfl, s69 A B (by omega) (by omega) n (by omega), Option.bind_some, ok_slc, cond_true, elems_slc, s68 (A ++ B) (by simp; omega) n (by omega), Option.bind_some, ok_slc, cond_true, elems_slc]
        exact open_pack ((s67 (sortL (A ++ B)) n (by omega)).trans (congrArg some (told_pack _)))

theorem cmpT_T (L : List Int) : Qc.cmpT (T L) = T (Qc.cmpct L) := by unfold Qc.cmpT; rw [toInt_T]
theorem thinT_T (B L : List Int) : Qc.thinT (T B) (T L) = T (L.filter (Qc.isIn B)) := by unfold Qc.thinT; rw [toInt_T, toInt_T]

theorem set_length (L : List Int) : (Qc.cmpct (sortL L)).length ≤ L.length := by
  have := cmpct_length (sortL L) (sortL_asc L); rw [sortL_length] at this; exact this

theorem s39 (L : List Int) : Ev E 100 39 [.slc (T L)] (pack (listOk L) (Qc.cmpct (sortL L))) :=
  Ev.mk fun n hn => by
    rw [e39, s66 L n (by omega), Option.bind_some, ok_bool, cond_true, toBool_bool]
    cases hL : listOk L with
    | false => rw [bif_pos (c := !false) rfl]; rfl
    | true =>
      have h60 := listOk_len hL
      have := set_length L
      rw [bif_neg (c := !true) rfl, rowC_T (by omega), cond_true, sortT_T, rowC_T (by rw [sortL_length]; omega), cmpT_T, pack_ok (by omega)]
      rfl

theorem s36 (A B : List Int) : Ev E 100 36 [.slc (T A), .slc (T B)] (pack (listOk A && listOk B) (Qc.cmpct (sortL (A ++ B)))) :=
  Ev.mk fun n hn => by
    rw [e36, s66 A n (by omega), Option.bind_some, ok_bool, cond_true, toBool_bool]
    cases hA : listOk A with
    | false => rw [bif_pos (c := !false) rfl]; rfl
    | true =>
      rw [bif_neg (c := !true) rfl, s66 B n (by omega), Option.bind_some, ok_bool, cond_true, toBool_bool]
      cases hB : listOk B with
      | false => rw [bif_pos (c := !false) rfl]; rfl
      | true =>
        have h1 := listOk_len hA
        have h2 := listOk_len hB
        rw [bif_neg (c := !true) rfl, s69 A B (by omega) (by omega) n (by omega), Option.bind_some, ok_slc, cond_true, elems_slc, rowC_T (by simp; omega), cond_true, sortT_T, rowC_T (by rw [sortL_length]; simp; omega), cmpT_T]
        exact open_pack ((s67 (Qc.cmpct (sortL (A ++ B))) n (by omega)).trans (congrArg some (told_pack _)))

theorem s37 (A B : List Int) : Ev E 100 37 [.slc (T A), .slc (T B)] (pack (listOk A && listOk B) ((Qc.cmpct (sortL A)).filter (Qc.isIn B))) :=
  Ev.mk fun n hn => by
    rw [e37, s66 A n (by omega), Option.bind_some, ok_bool, cond_true, toBool_bool]
    cases hA : listOk A with
    | false => rw [bif_pos (c := !false) rfl]; rfl
    | true =>
      rw [bif_neg (c := !true) rfl, s66 B n (by omega), Option.bind_some, ok_bool, cond_true, toBool_bool]
      cases hB : listOk B with
      | false => rw [bif_pos (c := !false) rfl]; rfl
      | true =>
        have h1 := listOk_len hA
        have h2 := listOk_len hB
        have h3 := set_length A
        have h4 := List.length_filter_le (Qc.isIn B) (Qc.cmpct (sortL A))
        rw [bif_neg (c := !true) rfl, rowC_T (by omega), cond_true, sortT_T, rowC_T (by rw [sortL_length]; omega), cmpT_T, rowC_T (by omega), rowC_T (by omega), thinT_T, show (true && true : Bool) = true from rfl, pack_ok (by omega)]
        rfl

/-! ### the reference -/
theorem madeR_1 (once : Bool) (L : List Int) : madeR once [] [L] = pack (listOk L) (insAll once [] L) := by
  unfold pack
  cases h : listOk L <;> simp [madeR, h] <;> rfl

theorem madeR_2 (once : Bool) (A B : List Int) : madeR once [] [A, B] = pack (listOk A && listOk B) (insAll once [] (A ++ B)) := by
  unfold pack
  cases h : listOk A
  · simp [madeR, h]; rfl
  · cases k : listOk B
    · simp [madeR, h, k]; rfl
    · simp [madeR, h, k, insAll_append]; rfl

theorem s42 (L : List Int) : Ev E 1102 42 [.slc (T L)] (pack (listOk L) (sortL L)) :=
  Ev.mk fun n hn => by
    rw [e42]
    have h := s76 false [L] (by simp) n (by omega)
    rw [madeR_1, insAll_sort] at h
    exact open_pack h

theorem s43 (A B : List Int) : Ev E 1102 43 [.slc (T A), .slc (T B)] (pack (listOk A && listOk B) (sortL (A ++ B))) :=
  Ev.mk fun n hn => by
    rw [e43]
    have h := s76 false [A, B] (by simp) n (by omega)
    rw [madeR_2, insAll_sort] at h
    exact open_pack h

theorem s44 (L : List Int) : Ev E 1102 44 [.slc (T L)] (pack (listOk L) (Qc.cmpct (sortL L))) :=
  Ev.mk fun n hn => by
    rw [e44]
    have h := s76 true [L] (by simp) n (by omega)
    rw [madeR_1, insAll_set] at h
    exact open_pack h

theorem s45 (A B : List Int) : Ev E 1102 45 [.slc (T A), .slc (T B)] (pack (listOk A && listOk B) (Qc.cmpct (sortL (A ++ B)))) :=
  Ev.mk fun n hn => by
    rw [e45]
    have h := s76 true [A, B] (by simp) n (by omega)
    rw [madeR_2, insAll_set] at h
    exact open_pack h

theorem here (B : List Int) (x : Int) : decide (idxF (fun y => y == x) 0 B ≥ 0) = Qc.isIn B x := by
  rw [idxF_ge _ _ _ (Int.le_refl 0)]
  unfold Qc.isIn
  have e : (fun y => y == x) = (fun y => x == y) := by
    funext y
    by_cases h : y = x
    · subst h; rfl
    · have h2 : (y == x) = false := beq_eq_false_iff_ne.2 h
      have h3 : (x == y) = false := beq_eq_false_iff_ne.2 fun e => h e.symm
      rw [h2, h3]
  rw [e]

theorem l46b_spec {n : Nat} (B : List Int) (hB : B.length ≤ 60) (hn : 1001 ≤ n) : ∀ (r pre out : List Int) (q : Nat), r.length < q → (pre ++ r).length ≤ 60 → out.length + r.length < 900 →
    L46_0b n q (T (pre ++ r)) (T B) (T out) pre.length = some (setR (insAll true out (r.filter (Qc.isIn B))) 0)
  | [], pre, out, q, hq, hl, ho => by
    obtain ⟨q, rfl⟩ : ∃ q', q = q' + 1 := ⟨q - 1, by simp at hq; omega⟩
    rw [l46_0b, bif_neg (by simp)]; rfl
  | x :: r, pre, out, q, hq, hl, ho => by
    obtain ⟨q, rfl⟩ : ∃ q', q = q' + 1 := ⟨q - 1, by simp at hq; omega⟩
    have hl' : pre.length + (r.length + 1) ≤ 60 := by simpa using hl
    simp only [List.length_cons] at ho hq
    have n1 : nth (T (pre ++ x :: r)) (Int.toNat (pre.length : Int)) = some (Tree.int .i64 x) := nth_at (p := pre) (s := r) rfl (by simp)
    have w1 : IntKind.wrap .i64 ((pre.length : Int) + 1) = ((pre ++ [x]).length : Int) := by rw [w64 (by omega)]; simp
    have e1 : pre ++ [x] ++ r = pre ++ x :: r := by simp
    rw [l46_0b, bif_pos (by simp; omega), bif_pos (by simp), n1, Option.bind_some, ok_int, cond_true, toInt_int, s78 B x (by omega) n hn, Option.bind_some, ok_int, cond_true, toInt_int, here]
    cases hx : Qc.isIn B x with
    | true =>
      have := ins_length true x out
      have ih := l46b_spec (n := n) B hB hn r (pre ++ [x]) (ins true x out) q (by omega) (by simpa using hl) (by omega)
      rw [e1] at ih
      rw [cond_true, bif_pos (by simp), Option.bind_some, ok_int, cond_true, toInt_int, s79 out x true (by omega) n hn, Option.bind_some, ok_slc, cond_true, elems_slc, w1, ih]
      simp [hx, insAll]
    | false =>
      have ih := l46b_spec (n := n) B hB hn r (pre ++ [x]) out q (by omega) (by simpa using hl) (by omega)
      rw [e1] at ih
      rw [cond_false, w1, ih]; simp [hx]

theorem l46a_spec {n : Nat} (B : List Int) (hB : B.length ≤ 60) (hn : 1001 ≤ n) : ∀ (r pre : List Int) (q : Nat), r.length < q → (pre ++ r).length ≤ 60 →
    L46_0 n q (T (pre ++ r)) (T B) pre.length = some (setR (insAll true [] (r.filter (Qc.isIn B))) 0)
  | [], pre, q, hq, hl => by
    obtain ⟨q, rfl⟩ : ∃ q', q = q' + 1 := ⟨q - 1, by simp at hq; omega⟩
    rw [l46_0, bif_neg (by simp)]; rfl
  | x :: r, pre, q, hq, hl => by
    obtain ⟨q, rfl⟩ : ∃ q', q = q' + 1 := ⟨q - 1, by simp at hq; omega⟩
    have hl' : pre.length + (r.length + 1) ≤ 60 := by simpa using hl
    simp only [List.length_cons] at hq
    have n1 : nth (T (pre ++ x :: r)) (Int.toNat (pre.length : Int)) = some (Tree.int .i64 x) := nth_at (p := pre) (s := r) rfl (by simp)
    have w1 : IntKind.wrap .i64 ((pre.length : Int) + 1) = ((pre ++ [x]).length : Int) := by rw [w64 (by omega)]; simp
    have e1 : pre ++ [x] ++ r = pre ++ x :: r := by simp
    rw [l46_0, bif_pos (by simp; omega), bif_pos (by simp), n1, Option.bind_some, ok_int, cond_true, toInt_int, s78 B x (by omega) n hn, Option.bind_some, ok_int, cond_true, toInt_int, here]
    cases hx : Qc.isIn B x with
    | true =>
      have h79 := s79 [] x true (by simp) n hn
      have ih := l46b_spec (n := n) B hB hn r (pre ++ [x]) (ins true x []) q (by omega) (by simpa using hl) (by simp [ins]; omega)
      rw [e1] at ih
      rw [cond_true, bif_pos (by simp), Option.bind_some, ok_int, cond_true, toInt_int, show (Tree.slc [] : Tree) = .slc (T []) from rfl, h79, Option.bind_some, ok_slc, cond_true, elems_slc, w1, ih]
      simp [hx, insAll]
    | false =>
      have ih := l46a_spec (n := n) B hB hn r (pre ++ [x]) q (by omega) (by simpa using hl)
      rw [e1] at ih
      rw [cond_false, w1, ih]; simp [hx]

theorem s46 (A B : List Int) : Ev E 1102 46 [.slc (T A), .slc (T B)] (pack (listOk A && listOk B) ((Qc.cmpct (sortL A)).filter (Qc.isIn B))) :=
  Ev.mk fun n hn => by
    rw [e46, s77 A n (by omega), Option.bind_some, ok_bool, cond_true, toBool_bool]
    cases hA : listOk A with
    | false => rw [bif_pos (c := !false) rfl]; rfl
    | true =>
      rw [bif_neg (c := !true) rfl, s77 B n (by omega), Option.bind_some, ok_bool, cond_true, toBool_bool]
      cases hB : listOk B with
      | false => rw [bif_pos (c := !false) rfl]; rfl
      | true =>
        have h1 := listOk_len hA
        have h2 := listOk_len hB
        have h3 := set_length A
        have h4 := List.length_filter_le (Qc.isIn B) (Qc.cmpct (sortL A))
        have h := l46a_spec (n := n) B h2 (by omega) A [] n (by omega) (by simpa using h1)
        rw [insAll_meet] at h
        rw [bif_neg (c := !true) rfl, show (true && true : Bool) = true from rfl, pack_ok (by omega)]
        exact h

end Go.Proofs.Bw.Qb
