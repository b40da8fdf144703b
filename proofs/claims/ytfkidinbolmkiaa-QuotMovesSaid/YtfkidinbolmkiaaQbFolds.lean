/-
  QUOT: QuotFolds: behind its three loops.
-/
import Derived.Test.YtfkidinbolmkiaaQbFolds0
import Derived.Test.YtfkidinbolmkiaaQbE10
set_option linter.unusedSimpArgs false
set_option linter.unusedVariables false
namespace Go.Proofs.Bw.Qb
open Go.Proofs

/-- A list of at most 20 numbers of 32 bits. -/
def small (L : List Int) : Prop := L.length ≤ 20 ∧ ∀ x ∈ L, -2147483648 ≤ x ∧ x ≤ 2147483647

theorem ok_mem {L : List Int} (h : L.length ≤ 60) (k : ∀ x ∈ L, -2147483648 ≤ x ∧ x ≤ 2147483647) : listOk L = true := by
  simp only [listOk, Bool.and_eq_true, decide_eq_true_eq, List.all_eq_true]
  exact ⟨h, fun x hx => by have := k x hx; simp [who1]; omega⟩

theorem sum_lim : ∀ {L : List Int}, (∀ x ∈ L, -2147483648 ≤ x ∧ x ≤ 2147483647) → -(2147483648 * (L.length : Int)) ≤ sumL L ∧ sumL L ≤ 2147483648 * (L.length : Int)
  | [], _ => by simp [sumL]
  | x :: r, h => by
    have h1 := h x (by simp)
    have h2 := sum_lim (L := r) fun y hy => h y (by simp [hy])
    simp only [sumL, List.length_cons]
    omega

theorem foldT_sum {L : List Int} (h : L.length ≤ 60) (k : ∀ x ∈ L, -2147483648 ≤ x ∧ x ≤ 2147483647) : foldT L 1 = .tup [I (sumL L), I 0] := by
  have hl := sum_lim k
  have hw : who1 (sumL L) = true := by simp [who1]; omega
  unfold foldT
  rw [if_pos (ok_mem h k), if_neg (by omega)]
  cases L with
  | nil => rfl
  | cons x r =>
    rw [if_neg (by simp)]
    simp only [foldV_sum]
    simp only [sumL] at hw ⊢
    simp [endF, hw]

theorem bstep {o : Option Tree} {v : Tree} {f : Tree → Option Tree} {r : Option Tree} (h : o = some v) (k : f v = r) : Option.bind o f = r := by rw [h]; exact k
theorem bt {c : Bool} {x y r : Option Tree} (h : c = true) (k : x = r) : (bif c then x else y) = r := by rw [h]; exact k
theorem bf {c : Bool} {x y r : Option Tree} (h : c = false) (k : y = r) : (bif c then x else y) = r := by rw [h]; exact k

theorem tail_spec {n : Nat} (hn : 1200 ≤ n) {l m c : List Int} {x : Int} (hx : IntKind.wrap .i64 x = x) (hl : small l) (hm : small m) (hc : small c) : L7_2x7 n 1 [] x 0 (T l) (T m) (T c) = some (.bool true) := by
  have both : ∀ y ∈ l ++ m, -2147483648 ≤ y ∧ y ≤ 2147483647 := fun y hy => (List.mem_append.1 hy).elim (hl.2 y) (hm.2 y)
  have ol := ok_mem (by have := hl.1; omega) hl.2
  have om := ok_mem (by have := hm.1; omega) hm.2
  have oc := ok_mem (by have := hc.1; omega) hc.2
  have l1 := hl.1; have l2 := hm.1; have l3 := hc.1
  have ul : (sortL (l ++ m)).length ≤ 60 := by rw [sortL_length, List.length_append]; omega
  have umem : ∀ y ∈ sortL (l ++ m), -2147483648 ≤ y ∧ y ≤ 2147483647 := fun y hy => both y ((sortL_perm _).subset hy)
  have g33 := s33 l m n (by omega)
  rw [ol, om, show (true && true : Bool) = true from rfl, pack_ok ul] at g33
  have g34l := s34 l 1 n (by omega)
  rw [foldT_sum (by omega) hl.2] at g34l
  have g34m := s34 m 1 n (by omega)
  rw [foldT_sum (by omega) hm.2] at g34m
  have g34u := s34 (sortL (l ++ m)) 1 n (by omega)
  rw [foldT_sum ul umem] at g34u
  refine (l7_2x7 n 0 [] x 0 (T l) (T m) (T c)).trans ?_
  refine bf (by simp) ?_
  refine bstep g33 (bt rfl ?_)
  refine bstep g34l (bt rfl ?_)
  refine bstep g34m (bt rfl ?_)
  refine bstep g34u (bt rfl ?_)
  have cT : ∀ (L : List Int), listOk L = true → evP E n 35 [.slc (T L), I x] = some (.tup [I (cnt x L : Nat), I 0]) := fun L h => by
    have := s35 L x n (by omega)
    rw [count_same] at this
    rw [this]; unfold countT; rw [if_pos h]
  have ou := ok_mem ul umem
  refine bstep (v := .tup [I (cnt x l : Nat), I 0]) (by rw [hx]; exact cT l ol) (bt rfl ?_)
  refine bstep (v := .tup [I (cnt x m : Nat), I 0]) (by rw [hx]; exact cT m om) (bt rfl ?_)
  refine bstep (v := .tup [I (cnt x (sortL (l ++ m)) : Nat), I 0]) (by rw [hx]; exact cT _ ou) (bt rfl ?_)
  refine bf rfl (bf rfl (bf rfl ?_))
  have b1 := sum_lim hl.2; have b2 := sum_lim hm.2
  have c1 := cnt_le x l; have c2 := cnt_le x m
  refine bf (by
    show (IntKind.wrap .i64 (sumL l + sumL m) != sumL (sortL (l ++ m))) = false
    rw [sumL_perm (sortL_perm _), sumL_append, w64 (by omega)]; simp) ?_
  refine bf (by
    show (IntKind.wrap .i64 ((cnt x l : Nat) + (cnt x m : Nat) : Int) != ((cnt x (sortL (l ++ m)) : Nat) : Int)) = false
    rw [cnt_perm x (sortL_perm _), cnt_append, w64 (by omega)]; simp) ?_
  have unl : ∀ A B : List Int, (un A B).length ≤ A.length + B.length := fun A B => by have := set_length (A ++ B); rw [List.length_append] at this; exact this
  have mtl : ∀ A B : List Int, (mt A B).length ≤ A.length := fun A B => Nat.le_trans (List.length_filter_le _ _) (set_length A)
  have U : ∀ A B : List Int, listOk A = true → listOk B = true → A.length + B.length ≤ 60 → evP E n 36 [.slc (T A), .slc (T B)] = some (setR (un A B) 0) := fun A B ha hb h => by
    have := s36 A B n (by omega)
    rw [ha, hb, show (true && true : Bool) = true from rfl, pack_ok (by have := unl A B; unfold un at this; omega)] at this
    exact this
  have M : ∀ A B : List Int, listOk A = true → listOk B = true → evP E n 37 [.slc (T A), .slc (T B)] = some (setR (mt A B) 0) := fun A B ha hb => by
    have := s37 A B n (by omega)
    have h60 := listOk_len ha
    rw [ha, hb, show (true && true : Bool) = true from rfl, pack_ok (by have := mtl A B; unfold mt at this; omega)] at this
    exact this
  have olm : listOk (un l m) = true := ok_mem (by have := unl l m; omega) fun y hy => ((mem_un y l m).1 hy).elim (hl.2 y) (hm.2 y)
  have omc : listOk (un m c) = true := ok_mem (by have := unl m c; omega) fun y hy => ((mem_un y m c).1 hy).elim (hm.2 y) (hc.2 y)
  have orr : listOk (mt l m) = true := ok_mem (by have := mtl l m; omega) fun y hy => hl.2 y ((mem_mt y l m).1 hy).1
  have oo : listOk (mt m c) = true := ok_mem (by have := mtl m c; omega) fun y hy => hm.2 y ((mem_mt y m c).1 hy).1
  have ulm := unl l m; have umc := unl m c; have mlm := mtl l m; have mmc := mtl m c
  refine bstep (U l m ol om (by omega)) (bt rfl ?_)
  refine bstep (U m c om oc (by omega)) (bt rfl ?_)
  refine bstep (U (un l m) c olm oc (by omega)) (bt rfl ?_)
  refine bstep (U l (un m c) ol omc (by omega)) (bt rfl ?_)
  refine bstep (M l m ol om) (bt rfl ?_)
  refine bstep (M m c om oc) (bt rfl ?_)
  refine bstep (M (mt l m) c orr oc) (bt rfl ?_)
  refine bstep (M l (mt m c) ol oo) (bt rfl ?_)
  have EQ : ∀ A B : List Int, A = B → A.length < 1000 → evP E n 38 [.slc (T A), .slc (T B)] = some (.bool true) := fun A B e h => by
    have := s38 A B h n (by omega); rw [decide_eq_true e] at this; exact this
  refine bstep (EQ _ _ (un_assoc l m c) (by have := unl (un l m) c; omega)) (bt rfl (bf rfl ?_))
  refine bstep (EQ _ _ (mt_assoc l m c) (by have := mtl (mt l m) c; omega)) (bt rfl (bf rfl ?_))
  refine bstep (U l (mt l m) ol orr (by omega)) (bt rfl ?_)
  refine bstep (M l (un l m) ol olm) (bt rfl ?_)
  have g39 := s39 l n (by omega)
  rw [ol, pack_ok (by have := set_length l; omega)] at g39
  refine bstep g39 (bt rfl ?_)
  refine bstep (EQ _ _ (un_mt l m) (by have := unl l (mt l m); omega)) (bt rfl (bt rfl ?_))
  refine bstep (EQ _ _ (mt_un l m) (by have := mtl l (un l m); omega)) (bt rfl (bt rfl ?_))
  exact bstep (s15 n (by omega)) (bt rfl rfl)

end Go.Proofs.Bw.Qb
