/-
  QUOT: QuotLists: any lists, as multisets and sets, by the program and by the reference.
-/
import Derived.Test.YtfkidinbolmkiaaQbL5
set_option linter.unusedSimpArgs false
set_option linter.unusedVariables false
namespace Go.Proofs.Bw.Qb
open Go.Proofs

theorem l40_spec {n : Nat} : ∀ (S P : List (List Int)) (q : Nat), S.length < q → P.length + S.length < 1000 → L40_0 n q (LT (P ++ S)) P.length = some (.bool (S.any fun L => decide (200 < L.length)))
  | [], P, q, hq, hl => by
    obtain ⟨q, rfl⟩ : ∃ q', q = q' + 1 := ⟨q - 1, by simp at hq; omega⟩
    rw [l40_0, bif_neg (by simp)]; rfl
  | L :: S, P, q, hq, hl => by
    obtain ⟨q, rfl⟩ : ∃ q', q = q' + 1 := ⟨q - 1, by simp at hq; omega⟩
    simp only [List.length_cons] at hq hl
    have n1 : nth (LT (P ++ L :: S)) (Int.toNat (P.length : Int)) = some (Tree.slc (T L)) := nth_LT rfl (by simp)
    have w1 : IntKind.wrap .i64 ((P.length : Int) + 1) = ((P ++ [L]).length : Int) := by rw [w64 (by omega)]; simp
    have e1 : P ++ [L] ++ S = P ++ L :: S := by simp
    rw [l40_0, bif_pos (by simp; omega), bif_pos (by simp), n1, Option.bind_some, ok_slc, cond_true, elems_slc, w1]
    by_cases h : 200 < L.length
    · rw [bif_pos (by simp; omega)]; simp [h]
    · rw [bif_neg (by simp; omega)]
      have ih := l40_spec (n := n) S (P ++ [L]) q (by omega) (by simp; omega)
      rw [e1] at ih
      rw [ih]; simp [h]

theorem s40 (A B : List Int) : Ev E 10 40 [.slc [.slc (T A), .slc (T B)]] (.bool (decide (200 < A.length) || decide (200 < B.length))) :=
  Ev.mk fun n hn => by
    rw [e40]
    have h := l40_spec (n := n) [A, B] [] n (by simp; omega) (by simp)
    have h : L40_0 n n [.slc (T A), .slc (T B)] 0 = _ := h
    rw [h]; simp

theorem pair_step {n f g : Nat} {xs ys : List Tree} {ok : Bool} {M : List Int} (hf : evP E n f xs = some (pack ok M)) (hg : evP E n g ys = some (pack ok M)) (hn : 1001 ≤ n) {K r : Option Tree} (h : K = r) :
    (Option.bind (evP E n f xs) fun y => bif Sh.ok (Sh.tup [Sh.slc, Sh.int IntKind.i64]) y then
      Option.bind (evP E n g ys) fun y_1 => bif Sh.ok (Sh.tup [Sh.slc, Sh.int IntKind.i64]) y_1 then
        bif Tree.toInt (List.headD (List.tail (Tree.tupl y)) (Tree.bool false)) != Tree.toInt (List.headD (List.tail (Tree.tupl y_1)) (Tree.bool false)) then some (Tree.bool false)
        else Option.bind (evP E n 38 [Tree.slc (Tree.elems (List.headD (Tree.tupl y) (Tree.bool false))), Tree.slc (Tree.elems (List.headD (Tree.tupl y_1) (Tree.bool false)))]) fun y =>
          bif Sh.ok Sh.bool y then bif !Tree.toBool y then some (Tree.bool false) else K else none
      else none
    else none) = r := by
  obtain ⟨X, k, e, hX⟩ := pack_form ok M
  rw [e] at hf hg
  rw [hf, hg]
  show (bif (k != k) then some (Tree.bool false) else Option.bind (evP E n 38 [.slc (T X), .slc (T X)]) fun y => bif Sh.ok Sh.bool y then bif !Tree.toBool y then some (Tree.bool false) else K else none) = r
  rw [bif_neg (by simp), s38 X X (by omega) n (by omega), Option.bind_some, ok_bool, cond_true, toBool_bool, bif_neg (by simp)]
  exact h

theorem countT_form (L : List Int) (x : Int) (M : List Int) : ∃ u v, countT L x M = .tup [I u, I v] := by
  unfold countT; split <;> exact ⟨_, _, rfl⟩

theorem endF_form (x : Int) : ∃ u v, endF x = .tup [I u, I v] := by unfold endF; split <;> exact ⟨_, _, rfl⟩

theorem foldT_form (L : List Int) (op : Int) : ∃ u v, foldT L op = .tup [I u, I v] := by
  unfold foldT
  split
  · split
    · exact ⟨_, _, rfl⟩
    · split
      · exact ⟨_, _, rfl⟩
      · split
        · exact ⟨_, _, rfl⟩
        · exact endF_form _
  · exact ⟨_, _, rfl⟩

theorem count_same (L : List Int) (x : Int) : countT L x (sortL L) = countT L x L := by unfold countT; rw [cnt_perm x (sortL_perm L)]

theorem s8 (A B : List Int) (x op : Int) : Ev E 1200 8 [.slc (T A), .slc (T B), I x, I op] (.bool true) :=
  Ev.mk fun n hn => by
    rw [e8, s40 A B n (by omega), Option.bind_some, ok_bool, cond_true, toBool_bool]
    cases hl : (decide (200 < A.length) || decide (200 < B.length)) with
    | true => rfl
    | false =>
      rw [cond_false]
      refine pair_step (s41 A n (by omega)) (s42 A n (by omega)) (by omega) ?_
      refine pair_step (s33 A B n (by omega)) (s43 A B n (by omega)) (by omega) ?_
      refine pair_step (s39 A n (by omega)) (s44 A n (by omega)) (by omega) ?_
      refine pair_step (s36 A B n (by omega)) (s45 A B n (by omega)) (by omega) ?_
      refine pair_step (s37 A B n (by omega)) (s46 A B n (by omega)) (by omega) ?_
      have h1 := s35 A x n (by omega)
      rw [count_same] at h1
      have h2 := s47 A x n (by omega)
      obtain ⟨u, v, e1⟩ := countT_form A x A
      obtain ⟨u', v', e2⟩ := foldT_form A op
      rw [e1] at h1 h2
      have h3 := s34 A op n (by omega)
      have h4 := s48 A op n (by omega)
      rw [e2] at h3 h4
      rw [h1, h2, h3, h4, s15 n (by omega)]
      simp

end Go.Proofs.Bw.Qb
