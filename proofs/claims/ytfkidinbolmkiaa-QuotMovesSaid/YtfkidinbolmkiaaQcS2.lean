/-
  QUOT: elements looked for; a list thinned out.
-/
import Derived.Test.YtfkidinbolmkiaaQcS1
set_option linter.unusedSimpArgs false
set_option linter.unusedVariables false
namespace Go.Proofs.Bw.Qc
open Go.Proofs

/-- The place of the first element with a property, counted from i. -/
def idxF (P : Int → Bool) : Int → List Int → Int
  | _, [] => -1
  | i, x :: l => bif P x then i else idxF P (i + 1) l

theorem idxF_ge (P : Int → Bool) : ∀ (l : List Int) (i : Int), 0 ≤ i → decide (idxF P i l ≥ 0) = l.any P
  | [], i, h => by simp [idxF]
  | x :: l, i, h => by
    simp only [idxF, List.any_cons]
    by_cases hp : P x = true
    · simp [hp, h]
    · have e := idxF_ge P l (i + 1) (by omega)
      simpa [hp] using e

theorem idxF_split (P : Int → Bool) : ∀ (l : List Int) (i : Int), (idxF P i l = -1 ∧ l.any P = false) ∨ ∃ pre x r, l = pre ++ x :: r ∧ pre.any P = false ∧ P x = true ∧ idxF P i l = i + (pre.length : Int)
  | [], i => .inl ⟨rfl, rfl⟩
  | x :: l, i => by
    by_cases hp : P x = true
    · exact .inr ⟨[], x, l, rfl, rfl, hp, by simp [idxF, hp]⟩
    · rcases idxF_split P l (i + 1) with ⟨h1, h2⟩ | ⟨pre, y, r, rfl, h1, h2, h3⟩
      · exact .inl ⟨by simp [idxF, hp, h1], by simp [hp, h2]⟩
      · exact .inr ⟨x :: pre, y, r, rfl, by simp [hp, h1], h2, by simp [idxF, hp, h3]; omega⟩

theorem l100_spec {n : Nat} (x : Int) : ∀ (r pre : List Int) (q : Nat), r.length < q → (pre ++ r).length < 1000 →
    L100_0 n q (T (pre ++ r)) x (T (pre ++ r)).length pre.length = some (Tree.int .i64 (idxF (fun y => x == y) pre.length r))
  | [], pre, q, hq, hl => by
    obtain ⟨q, rfl⟩ : ∃ q', q = q' + 1 := ⟨q - 1, by simp at hq; omega⟩
    rw [l100_0, bif_neg (by simp)]; rfl
  | y :: r, pre, q, hq, hl => by
    obtain ⟨q, rfl⟩ : ∃ q', q = q' + 1 := ⟨q - 1, by simp at hq; omega⟩
    rw [l100_0, bif_pos (by simp; omega), bif_pos (by simp), nth_at (p := pre) (s := r) rfl (by simp), Option.bind_some, ok_int, cond_true]
    simp only [toInt_int, idxF]
    cases x == y with
    | true => rfl
    | false =>
      simp only [cond_false]
      have ih := l100_spec (n := n) x r (pre ++ [y]) q (by simp at hq; omega) (by simpa using hl)
      rw [w64 (by simp at hl; omega)]
      simpa using ih

theorem s100 (B : List Int) (x : Int) (h : B.length < 1000) : Ev E1 1001 100 [.slc (T B), .int .i64 x] (.int .i64 (idxF (fun y => x == y) 0 B)) :=
  Ev.mk fun n hn => by
    rw [e100]
    exact l100_spec x B [] n (by omega) (by simpa using h)

/-- Is it there? -/
def isIn (B : List Int) (x : Int) : Bool := B.any fun y => x == y

theorem s75 (B : List Int) (x : Int) (h : B.length < 1000) : Ev E1 1002 75 [.slc (T B), .int .i64 x] (.bool (isIn B x)) :=
  Ev.mk fun n hn => by
    rw [e75, s100 B x h n hn, Option.bind_some, ok_int, cond_true, toInt_int, idxF_ge _ _ _ (Int.le_refl 0)]; rfl

theorem s74 (B : List Int) (x : Int) (h : B.length < 1000) : Ev E1 1003 74 [.int .i64 x, .ptr (.slc (T B)) 0] (.bool (!isIn B x)) :=
  Ev.mk fun n hn => by
    rw [e74x, s75 B x h n hn, Option.bind_some, ok_bool, cond_true, toBool_bool]

theorem l99_spec {n : Nat} (B : List Int) (hB : B.length < 1000) (hn : 1003 ≤ n) : ∀ (r pre : List Int) (q : Nat), r.length < q → (pre ++ r).length < 1000 →
    L99_0 n q (T (pre ++ r)) 74 [] [.ptr (.slc (T B)) 0] (T (pre ++ r)).length pre.length = some (Tree.int .i64 (idxF (fun y => !isIn B y) pre.length r))
  | [], pre, q, hq, hl => by
    obtain ⟨q, rfl⟩ : ∃ q', q = q' + 1 := ⟨q - 1, by simp at hq; omega⟩
    rw [l99_0, bif_neg (by simp)]; rfl
  | y :: r, pre, q, hq, hl => by
    obtain ⟨q, rfl⟩ : ∃ q', q = q' + 1 := ⟨q - 1, by simp at hq; omega⟩
    rw [l99_0, bif_pos (by simp; omega), bif_pos (by simp), nth_at (p := pre) (s := r) rfl (by simp), Option.bind_some, ok_int, cond_true]
    have h := s74 B y hB n hn
    simp only [open_int, List.nil_append, List.singleton_append, h, Option.bind_some, ok_bool, cond_true, toBool_bool, idxF]
    cases !isIn B y with
    | true => rfl
    | false =>
      simp only [cond_false]
      have ih := l99_spec (n := n) B hB hn r (pre ++ [y]) q (by simp at hq; omega) (by simpa using hl)
      rw [w64 (by simp at hl; omega)]
      simpa using ih

theorem s99 (L B : List Int) (h : L.length < 1000) (hB : B.length < 1000) : Ev E1 1004 99 [.slc (T L), .fn 74 [] [.ptr (.slc (T B)) 0]] (.int .i64 (idxF (fun y => !isIn B y) 0 L)) :=
  Ev.mk fun n hn => by
    rw [e99]
    exact l99_spec B hB hn L [] n (by omega) (by simpa using h)

theorem thin {n : Nat} (B : List Int) (hB : B.length < 1000) (hn : 1003 ≤ n) : ∀ (r w junk : List Int) (j0 : Int) (q tot : Nat), r.length < q → tot = w.length + junk.length + 1 + r.length → tot < 1000 →
    Front (w ++ r.filter (isIn B)) (L73_0h n q w.length (w.length + junk.length + 1 : Nat) (T (w ++ j0 :: junk ++ r)) (T B)) [.tre .slc [.slc (T B)]]
  | [], w, junk, j0, q, tot, hq, ht, hs => by
    obtain ⟨q, rfl⟩ : ∃ q', q = q' + 1 := ⟨q - 1, by simp at hq; omega⟩
    simp only [List.length_nil] at ht
    have hl : (T (w ++ j0 :: junk ++ [])).length = tot := by simp; omega
    rw [m73_0h, bif_neg (by simp; omega), hl, bif_pos (by simp; omega), bif_neg (beqF (by simp; omega)), bif_pos (by simp; omega), bif_pos (by simp; omega)]
    refine ⟨_, _, w.length, rfl, by simp, ?_, .inl ?_⟩
    · simp only [List.filter_nil, List.append_nil, Int.toNat_natCast]
      rw [List.append_assoc]
      exact cleared (junk := j0 :: junk) (tot := tot) (by simp; omega) _ rfl _
    · simp
  | x :: r, w, junk, j0, q, tot, hq, ht, hs => by
    obtain ⟨q, rfl⟩ : ∃ q', q = q' + 1 := ⟨q - 1, by simp at hq; omega⟩
    simp only [List.length_cons] at ht hq
    have hl : (T (w ++ j0 :: junk ++ x :: r)).length = tot := by simp; omega
    have w6 : IntKind.wrap .i64 (((w.length + junk.length + 1 : Nat) : Int) + 1) = ((w.length + (junk ++ [x]).length + 1 : Nat) : Int) := by rw [w64 (by omega)]; simp; omega
    have w5 : IntKind.wrap .i64 ((w.length : Int) + 1) = (((w ++ [x]).length : Nat) : Int) := by rw [w64 (by omega)]; simp
    have n1 : nth (T (w ++ j0 :: junk ++ x :: r)) (Int.toNat ((w.length + junk.length + 1 : Nat) : Int)) = some (Tree.int .i64 x) := nth_at (p := w ++ j0 :: junk) (s := r) (by simp) (by simp; omega)
    have h := s74 B x hB n hn
    rw [m73_0h, hl, bif_pos (by simp; omega), bif_pos (by simp; omega), n1, Option.bind_some, ok_int, cond_true]
    simp only [toInt_int]
    rw [h, Option.bind_some, ok_bool, cond_true, toBool_bool, Bool.not_not]
    cases hx : isIn B x with
    | true =>
      rw [cond_true, bif_pos (by simp; omega), nth_at (p := w) (x := j0) (s := junk ++ x :: r) (by simp) (by simp), Option.bind_some, ok_int, cond_true, setN_at (p := w) (x := j0) (s := junk ++ x :: r) (by simp) (by simp), w5]
      have e2 : w ++ (x :: r).filter (isIn B) = w ++ [x] ++ r.filter (isIn B) := by simp [hx]
      rw [e2]
      cases junk with
      | nil =>
        have w6' : IntKind.wrap .i64 (((w.length + ([] : List Int).length + 1 : Nat) : Int) + 1) = (((w ++ [x]).length + ([] : List Int).length + 1 : Nat) : Int) := by rw [w64 (by simp; omega)]; simp
        rw [w6']
        have ih := thin (n := n) B hB hn r (w ++ [x]) [] x q tot (by omega) (by simp at ht ⊢; omega) hs
        have e1 : w ++ [x] ++ [x] ++ r = w ++ x :: ([] ++ x :: r) := by simp
        rw [e1] at ih
        exact ih
      | cons j js =>
        have w6' : IntKind.wrap .i64 (((w.length + (j :: js).length + 1 : Nat) : Int) + 1) = (((w ++ [x]).length + (js ++ [x]).length + 1 : Nat) : Int) := by rw [w64 (by simp at ht ⊢; omega)]; simp; omega
        rw [w6']
        have ih := thin (n := n) B hB hn r (w ++ [x]) (js ++ [x]) j q tot (by omega) (by simp at ht ⊢; omega) hs
        have e1 : w ++ [x] ++ j :: (js ++ [x]) ++ r = w ++ x :: (j :: js ++ x :: r) := by simp
        rw [e1] at ih
        exact ih
    | false =>
      rw [cond_false, w6]
      have e2 : w ++ (x :: r).filter (isIn B) = w ++ r.filter (isIn B) := by simp [hx]
      rw [e2]
      have ih := thin (n := n) B hB hn r w (junk ++ [x]) j0 q tot (by omega) (by simp; omega) hs
      have e1 : w ++ j0 :: (junk ++ [x]) ++ r = w ++ j0 :: junk ++ x :: r := by simp
      rw [e1] at ih
      exact ih

theorem s73 (L B : List Int) (h : L.length < 1000) (hB : B.length < 1000) : Front (L.filter (isIn B)) (evR E1 2000 73 [.hsl 0 none, .fn 74 [] [.href 1 0 0]] [.tre (.int .i64) (T L), .tre .slc [.slc (T B)]]) [.tre .slc [.slc (T B)]] := by
  rw [r73h, s99 L B h hB 2000 (by omega), Option.bind_some, ok_int, cond_true, toInt_int]
  rcases idxF_split (fun y => !isIn B y) L 0 with ⟨h1, h2⟩ | ⟨pre, x, r, rfl, h1, h2, h3⟩
  · rw [h1, bif_pos (by decide)]
    have e : L.filter (isIn B) = L := by
      rw [List.filter_eq_self]
      intro a ha
      have := List.any_eq_false.1 h2 a ha
      simpa using this
    rw [e]
    exact ⟨_, _, L.length, rfl, by simp, List.take_of_length_le (by simp), .inr ⟨rfl, by simp⟩⟩
  · rw [h3, bif_neg (by simp <;> omega)]
    have e : (pre ++ x :: r).filter (isIn B) = pre ++ r.filter (isIn B) := by
      rw [List.filter_append]
      have e1 : pre.filter (isIn B) = pre := by
        rw [List.filter_eq_self]
        intro a ha
        have := List.any_eq_false.1 h1 a ha
        simpa using this
      have e2 : isIn B x = false := by simpa using h2
      rw [e1]; simp [e2]
    rw [e]
    simp only [List.length_append, List.length_cons] at h
    have w6 : IntKind.wrap .i64 (0 + (pre.length : Int) + 1) = ((pre.length + ([] : List Int).length + 1 : Nat) : Int) := by rw [w64 (by omega)]; simp
    have h := thin (n := 2000) B hB (by omega) r pre [] x 2000 (pre.length + 1 + r.length) (by omega) (by simp) (by omega)
    rw [w6]
    simpa using h

end Go.Proofs.Bw.Qc
