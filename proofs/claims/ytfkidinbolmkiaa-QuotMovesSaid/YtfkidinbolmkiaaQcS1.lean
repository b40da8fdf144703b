/-
  QUOT: lists that are compacted, thinned out: what the library's functions do.
-/
import Derived.Test.YtfkidinbolmkiaaQcE1
import Derived.Test.YtfkidinbolmkiaaBw4
set_option linter.unusedSimpArgs false
set_option linter.unusedVariables false
namespace Go.Proofs.Bw.Qc
open Go.Proofs

abbrev E1 : Env := Tab.env tab1
abbrev T (L : List Int) : List Tree := L.map (Tree.int .i64)

theorem nth_at {L p s : List Int} {x : Int} {i : Nat} (h : L = p ++ x :: s) (hi : i = p.length) : nth (T L) i = some (Tree.int .i64 x) := by
  subst h; subst hi
  rw [nth_map, nth_app]; rfl

theorem beqF {a b : Nat} (h : a ≠ b) : Nat.beq a b = false := by
  cases hb : Nat.beq a b with
  | false => rfl
  | true => exact absurd (Nat.eq_of_beq_eq_true hb) h

theorem setN_app {α : Type} (y x : α) (s : List α) : ∀ p : List α, setN (p ++ x :: s) p.length y = p ++ y :: s
  | [] => rfl
  | z :: p => by simp only [List.cons_append, List.length_cons, setN, setN_app y x s p]

theorem setN_at {L p s : List Int} {x y : Int} {i : Nat} (h : L = p ++ x :: s) (hi : i = p.length) : setN (T L) i (Tree.int .i64 y) = T (p ++ y :: s) := by
  subst h; subst hi
  have := setN_app (Tree.int .i64 y) (Tree.int .i64 x) (T s) (T p)
  simpa [T] using this

/-- What is left behind an element, without repetitions. -/
def tailC (a : Int) : List Int → List Int
  | [] => []
  | y :: r => if y = a then tailC a r else y :: tailC y r

def cmpct : List Int → List Int
  | [] => []
  | x :: r => x :: tailC x r

/-- A row whose front of length m is L. -/
def Front (L : List Int) (res : Option (AV × Heap)) (tl : Heap) : Prop :=
  ∃ v row m, res = some (v, .tre (.int .i64) row :: tl) ∧ m ≤ row.length ∧ row.take m = T L ∧ (v = .hsub 0 0 m ∨ (v = .hsl 0 none ∧ m = row.length))

theorem cleared {w junk : List Int} {tot : Nat} (ht : tot = w.length + junk.length) (row : List Tree) (hr : row = T (w ++ junk)) (z : List Tree) :
    (List.take w.length row ++ z).take w.length = T w := by
  subst hr
  have e : List.take w.length (T (w ++ junk)) = T w := by
    rw [← List.map_take]; simp
  rw [e]
  simp [List.take_append]

theorem inner {n q2 o : Nat} : ∀ (rest w junk : List Int) (a : Int) (q k2 tot : Nat), rest.length < q → o + k2 = w.length + junk.length + 1 → 1 ≤ k2 → tot = w.length + junk.length + 1 + rest.length → tot < 1000 →
    Front (w ++ tailC a rest) (L98_1h n q q2 w.length o (tot - o) k2 (T (w ++ junk ++ a :: rest))) []
  | [], w, junk, a, q, k2, tot, hq, ho, hk, ht, hs => by
    obtain ⟨q, rfl⟩ : ∃ q', q = q' + 1 := ⟨q - 1, by simp at hq; omega⟩
    simp only [List.length_nil] at ht
    have hl : (T (w ++ junk ++ [a])).length = tot := by simp; omega
    rw [m98_1h, bif_neg (by simp; omega), hl, bif_pos (by simp; omega), bif_neg (beqF (by simp; omega)), bif_pos (by simp; omega), bif_pos (by simp; omega)]
    refine ⟨_, _, w.length, rfl, by simp, ?_, .inl ?_⟩
    · simp only [tailC, List.append_nil, Int.toNat_natCast]
      rw [List.append_assoc]
      exact cleared (junk := junk ++ [a]) (tot := tot) (by simp; omega) _ (by simp) _
    · simp
  | y :: r, w, junk, a, q, k2, tot, hq, ho, hk, ht, hs => by
    obtain ⟨q, rfl⟩ : ∃ q', q = q' + 1 := ⟨q - 1, by simp at hq; omega⟩
    simp only [List.length_cons] at ht hq
    have hl : (T (w ++ junk ++ a :: y :: r)).length = tot := by simp; omega
    have n1 : nth (T (w ++ junk ++ a :: y :: r)) (o + Int.toNat (k2 : Int)) = some (Tree.int .i64 y) := nth_at (p := w ++ junk ++ [a]) (s := r) (by simp) (by simp; omega)
    have wk : IntKind.wrap .i64 ((k2 : Int) - 1) = ((k2 - 1 : Nat) : Int) := by rw [w64 (by omega)]; omega
    have n2 : nth (T (w ++ junk ++ a :: y :: r)) (o + Int.toNat (IntKind.wrap .i64 ((k2 : Int) - 1))) = some (Tree.int .i64 a) := nth_at (p := w ++ junk) (s := y :: r) (by simp) (by rw [wk]; simp; omega)
    have w5 : IntKind.wrap .i64 ((k2 : Int) + 1) = ((k2 + 1 : Nat) : Int) := by rw [w64 (by omega)]; omega
    have w3 : IntKind.wrap .i64 ((w.length : Int) + 1) = ((w.length + 1 : Nat) : Int) := by rw [w64 (by omega)]; omega
    rw [m98_1h, bif_pos (by simp; omega), bif_pos (by simp; omega), n1, Option.bind_some, ok_int, cond_true, bif_pos (by rw [wk]; simp; omega), n2, Option.bind_some, ok_int, cond_true]
    simp only [toInt_int]
    by_cases hya : y = a
    · rw [bif_neg (by simp [hya]), w5]
      have ih := inner (n := n) (q2 := q2) (o := o) r w (junk ++ [a]) y q (k2 + 1) tot (by omega) (by simp; omega) (by omega) (by simp; omega) hs
      have e1 : w ++ (junk ++ [a]) ++ y :: r = w ++ junk ++ a :: y :: r := by simp
      rw [e1] at ih
      have e2 : tailC a (y :: r) = tailC y r := by simp [tailC, hya]
      rw [e2]
      exact ih
    · rw [bif_pos (by simp [hya]), bif_pos (by simp; omega), Option.bind_some, ok_int, cond_true, hl, bif_pos (by simp; omega), w3, w5]
      have e2 : w ++ tailC a (y :: r) = (w ++ [y]) ++ tailC y r := by simp [tailC, hya]
      rw [e2]
      cases junk with
      | nil =>
        rw [nth_at (p := w) (x := a) (s := y :: r) (by simp) (by simp), Option.bind_some, ok_int, cond_true, setN_at (p := w) (x := a) (s := y :: r) (by simp) (by simp)]
        simp only [toInt_int]
        have ih := inner (n := n) (q2 := q2) (o := o) r (w ++ [y]) [] y q (k2 + 1) tot (by omega) (by simp at ho ⊢; omega) (by omega) (by simp at ht ⊢; omega) hs
        have e1 : w ++ [y] ++ [] ++ y :: r = w ++ y :: y :: r := by simp
        rw [e1] at ih
        simpa using ih
      | cons j js =>
        rw [nth_at (p := w) (x := j) (s := js ++ a :: y :: r) (by simp) (by simp), Option.bind_some, ok_int, cond_true, setN_at (p := w) (x := j) (s := js ++ a :: y :: r) (by simp) (by simp)]
        simp only [toInt_int]
        have ih := inner (n := n) (q2 := q2) (o := o) r (w ++ [y]) (js ++ [a]) y q (k2 + 1) tot (by omega) (by simp at ho ⊢; omega) (by omega) (by simp at ht ⊢; omega) hs
        have e1 : w ++ [y] ++ (js ++ [a]) ++ y :: r = w ++ y :: (js ++ a :: y :: r) := by simp
        rw [e1] at ih
        simpa using ih

theorem outer {n : Nat} : ∀ (rest pre : List Int) (a : Int) (q tot : Nat), rest.length < q → rest.length ≤ n → tot = pre.length + 1 + rest.length → tot < 1000 →
    Front (pre ++ a :: tailC a rest) (L98_0h n q (pre.length + 1 : Nat) (T (pre ++ a :: rest))) []
  | [], pre, a, q, tot, hq, hn, ht, hs => by
    obtain ⟨q, rfl⟩ : ∃ q', q = q' + 1 := ⟨q - 1, by simp at hq; omega⟩
    rw [m98_0h, bif_neg (by simp)]
    exact ⟨_, _, pre.length + 1, rfl, by simp, List.take_of_length_le (by simp), .inr ⟨rfl, by simp⟩⟩
  | y :: r, pre, a, q, tot, hq, hn, ht, hs => by
    obtain ⟨q, rfl⟩ : ∃ q', q = q' + 1 := ⟨q - 1, by simp at hq; omega⟩
    simp only [List.length_cons] at ht hq hn
    have hl : (T (pre ++ a :: y :: r)).length = tot := by simp; omega
    have wk : IntKind.wrap .i64 (((pre.length + 1 : Nat) : Int) - 1) = (pre.length : Int) := by rw [w64 (by omega)]; omega
    have w3 : IntKind.wrap .i64 (((pre.length + 1 : Nat) : Int) + 1) = ((pre.length + 1 + 1 : Nat) : Int) := by rw [w64 (by omega)]; omega
    have n1 : nth (T (pre ++ a :: y :: r)) (Int.toNat ((pre.length + 1 : Nat) : Int)) = some (Tree.int .i64 y) := nth_at (p := pre ++ [a]) (s := r) (by simp) (by simp)
    have n2 : nth (T (pre ++ a :: y :: r)) (Int.toNat (IntKind.wrap .i64 (((pre.length + 1 : Nat) : Int) - 1))) = some (Tree.int .i64 a) := nth_at (p := pre) (s := y :: r) rfl (by rw [wk]; simp)
    rw [m98_0h, hl, bif_pos (by simp; omega), bif_pos (by simp; omega), n1, Option.bind_some, ok_int, cond_true, bif_pos (by rw [wk]; simp; omega), n2, Option.bind_some, ok_int, cond_true]
    simp only [toInt_int]
    by_cases hya : y = a
    · rw [bif_pos (by simp [hya]), bif_pos (by simp; omega)]
      have ih := inner (n := n) (q2 := q) (o := pre.length + 1) r (pre ++ [a]) [] y n 1 tot (by omega) (by simp) (by omega) (by simp; omega) hs
      have e1 : pre ++ [a] ++ [] ++ y :: r = pre ++ a :: y :: r := by simp
      have e2 : (pre ++ [a]).length = pre.length + 1 := by simp
      have e3 : pre ++ a :: tailC a (y :: r) = pre ++ [a] ++ tailC y r := by simp [tailC, hya]
      rw [e1, e2] at ih
      rw [e3]
      simpa using ih
    · rw [bif_neg (by simp [hya]), w3]
      have ih := outer (n := n) r (pre ++ [a]) y q tot (by omega) (by omega) (by simp; omega) hs
      have e1 : pre ++ [a] ++ y :: r = pre ++ a :: y :: r := by simp
      have e2 : (pre ++ [a]).length = pre.length + 1 := by simp
      have e3 : pre ++ a :: tailC a (y :: r) = pre ++ [a] ++ y :: tailC y r := by simp [tailC, hya]
      rw [e1, e2] at ih
      rw [e3]
      exact ih

theorem s98 (L : List Int) (h : L.length < 1000) : Front (cmpct L) (evR E1 1000 98 [.hsl 0 none] [.tre (.int .i64) (T L)]) [] := by
  rw [r98h]
  match L with
  | [] => exact ⟨_, _, 0, rfl, by simp, by simp [cmpct], .inr ⟨rfl, by simp⟩⟩
  | [x] => exact ⟨_, _, 1, rfl, by simp, by simp [cmpct, tailC], .inr ⟨rfl, by simp⟩⟩
  | x :: y :: r =>
    rw [bif_neg (by simp; omega)]
    have h := outer (n := 1000) (y :: r) [] x 1000 (y :: r).length.succ (by simp at h ⊢; omega) (by simp at h ⊢; omega) (by simp; omega) (by simpa using h)
    show Front (x :: tailC x (y :: r)) _ _
    simpa using h

end Go.Proofs.Bw.Qc
