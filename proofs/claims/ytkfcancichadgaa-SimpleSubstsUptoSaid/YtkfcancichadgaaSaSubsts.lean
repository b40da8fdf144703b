/-
  SIMPLE: SimpleSubsts, the plain law.
-/
import Derived.Test.YtkfcancichadgaaSaTy19
import Derived.Test.YtkfcancichadgaaSaMeta2
import Derived.Test.YtkfcancichadgaaSaAwake
import Derived.Test.YtkfcancichadgaaSaShaped
import Derived.Test.YtkfcancichadgaaSaEl4
set_option linter.unusedSimpArgs false
set_option linter.unusedVariables false
namespace Go.Proofs.Aw.Sa
open Go.Proofs

theorem drop_last (ctx : List Ty) (A : Ty) : List.drop (Int.toNat 0) (List.take (Int.toNat (((ctx ++ [A]).length : Nat) - 1 : Int)) (encTs (ctx ++ [A]))) = encTs ctx := by
  have e : Int.toNat (((ctx ++ [A]).length : Nat) - 1 : Int) = (encTs ctx).length := by rw [lenT]; simp
  rw [e, encTs_app]
  simp

theorem substs_law (ctx : List Ty) (t s : Lam) (hc : sizeTs ctx ≤ 1048576) (ht : wL t ≤ 1048576) (hs : wL s ≤ 1048576) : ∃ c, Ev E c 4 [.slc (encTs ctx), encL t, encL s] (.bool true) := by
  obtain ⟨c10, b10, h10, hv⟩ := s10 [t, s] (by simp only [wLs]; omega)
  have start : ∀ n, evQ E n 4 [.slc (encTs ctx), encL t, encL s] = evQ E n 4 [.slc (encTs ctx), .agg [I t.op, I t.num, .str t.ty.name, .slc (encTs t.ty.parts), .slc (encLs t.parts)], .agg [I s.op, I s.num, .str s.ty.name, .slc (encTs s.ty.parts), .slc (encLs s.parts)]] := fun n => by rw [encL_eta t, encL_eta s]
  have e10 : ∀ n, evP E n 10 [.slc (encLs [t, s])] = evP E n 10 [.slc [encL t, encL s]] := fun n => by simp [encLs]
  cases b10 with
  | true =>
    refine ⟨c10 + 1, Ev.mk fun n hn => ?_⟩
    have h := h10 n (by omega)
    rw [e10] at h
    rw [start, e4, ← encL_eta t, ← encL_eta s]
    exact step_b h (step_t rfl (step_t rfl rfl))
  | false =>
  by_cases hz : ctx = []
  · subst hz
    refine ⟨c10 + 1, Ev.mk fun n hn => ?_⟩
    have h := h10 n (by omega)
    rw [e10] at h
    rw [start, e4, ← encL_eta t, ← encL_eta s]
    exact step_b h (step_t rfl (step_f rfl (step_t rfl rfl)))
  obtain ⟨G, A, rfl⟩ : ∃ G A, ctx = G ++ [A] := ⟨ctx.dropLast, ctx.getLast hz, (List.dropLast_concat_getLast hz).symm⟩
  have hlen : (G ++ [A]).length = G.length + 1 := by simp
  have d0 : ((((G ++ [A]).length : Nat) : Int) == 0) = false := by rw [hlen]; simp; omega
  by_cases h20 : (G ++ [A]).length ≤ 20
  case neg =>
    refine ⟨c10 + 1, Ev.mk fun n hn => ?_⟩
    have h := h10 n (by omega)
    rw [e10] at h
    rw [start, e4, ← encL_eta t, ← encL_eta s, lenT]
    exact step_b h (step_t rfl (step_f rfl (step_f d0 (step_t (decide_eq_true (by omega)) rfl))))
  case pos =>
  obtain ⟨c14, x, h14, _⟩ := s14 (G ++ [A]) (by omega) 300 (by omega)
  by_cases hx : x > 300
  · refine ⟨c10 + c14 + 1, Ev.mk fun n hn => ?_⟩
    have h := h10 n (by omega)
    rw [e10] at h
    rw [start, e4, ← encL_eta t, ← encL_eta s, lenT]
    exact step_b h (step_t rfl (step_f rfl (step_f d0 (step_f (decide_eq_false (by omega)) (step_b (h14 n (by omega)) (step_t rfl (step_t (decide_eq_true hx) rfl)))))))
  have hG : sizeTs G ≤ 1048576 := by
    have : ∀ (a b : List Ty), sizeTs a ≤ sizeTs (a ++ b) := by
      intro a b
      induction a with
      | nil => simp [sizeTs]
      | cons x a ih => simp only [List.cons_append, sizeTs]; omega
    exact Nat.le_trans (this G [A]) hc
  obtain ⟨c1, h1⟩ := s15 (G ++ [A]) t (by omega) (by omega)
  obtain ⟨c2, h2⟩ := s15 G s (by omega) (by omega)
  have hA : sizeT A ≤ 1048576 := Nat.le_trans (sizeTs_mem (by simp : A ∈ G ++ [A])) hc
  have sz2 := typeOf_size G s
  have h16 := s16 (typeOf G s).1 A (by omega)
  rw [eqT_dec] at h16
  have hdrop := drop_last G A
  have hw1 : IntKind.wrap .i64 (((G ++ [A]).length : Nat) - 1 : Int) = ((G ++ [A]).length : Nat) - 1 := w64 (by omega)
  have fin : ∀ n, 40 ≤ n → ((evP (Tab.env tab) n 13 []).bind fun y => bif Sh.ok Sh.bool y then some (Tree.bool (Tree.toBool y)) else none) = some (.bool true) := fun n hn => step_b (s13 n hn) (step_t rfl rfl)
  by_cases he : (typeOf (G ++ [A]) t).2 = 0
  case neg =>
    refine ⟨c10 + c14 + c1 + c2 + 100, Ev.mk fun n hn => ?_⟩
    have h := h10 n (by omega)
    rw [e10] at h
    rw [start, e4, ← encL_eta t, ← encL_eta s, lenT]
    refine step_b h (step_t rfl (step_f rfl (step_f d0 (step_f (decide_eq_false (by omega)) (step_b (h14 n (by omega)) (step_t rfl (step_f (decide_eq_false hx) ?_)))))))
    rw [hw1, hdrop]
    refine step_t (by rw [decide_eq_true (by omega), decide_eq_true (by omega), decide_eq_true (by omega)]; rfl) (step_t (firstT _) ?_)
    refine step_b (h1 n (by omega)) (step_t (tupTIOk _ _) (step_b (h2 n (by omega)) (step_t (tupTIOk _ _) ?_)))
    simp only [tupl_tup, List.headD_cons, List.tail_cons, toInt_int]
    exact step_t (by simp [he]) (fin n (by omega))
  case pos =>
  by_cases hf : (typeOf G s).2 = 0
  case neg =>
    refine ⟨c10 + c14 + c1 + c2 + 100, Ev.mk fun n hn => ?_⟩
    have h := h10 n (by omega)
    rw [e10] at h
    rw [start, e4, ← encL_eta t, ← encL_eta s, lenT]
    refine step_b h (step_t rfl (step_f rfl (step_f d0 (step_f (decide_eq_false (by omega)) (step_b (h14 n (by omega)) (step_t rfl (step_f (decide_eq_false hx) ?_)))))))
    rw [hw1, hdrop]
    refine step_t (by rw [decide_eq_true (by omega), decide_eq_true (by omega), decide_eq_true (by omega)]; rfl) (step_t (firstT _) ?_)
    refine step_b (h1 n (by omega)) (step_t (tupTIOk _ _) (step_b (h2 n (by omega)) (step_t (tupTIOk _ _) ?_)))
    simp only [tupl_tup, List.headD_cons, List.tail_cons, toInt_int]
    exact step_f (by simp [he]) (step_t (by simp [hf]) (fin n (by omega)))
  case pos =>
  have hnthA : nth (encTs (G ++ [A])) (Int.toNat (((G ++ [A]).length : Nat) - 1 : Int)) = some (encT A) := by
    have e : Int.toNat (((G ++ [A]).length : Nat) - 1 : Int) = G.length := by simp
    rw [e]
    exact nthT G A []
  by_cases hb : (typeOf G s).1 = A
  case neg =>
    refine ⟨c10 + c14 + c1 + c2 + 50000, Ev.mk fun n hn => ?_⟩
    have h := h10 n (by omega)
    rw [e10] at h
    rw [start, e4, ← encL_eta t, ← encL_eta s, lenT]
    refine step_b h (step_t rfl (step_f rfl (step_f d0 (step_f (decide_eq_false (by omega)) (step_b (h14 n (by omega)) (step_t rfl (step_f (decide_eq_false hx) ?_)))))))
    rw [hw1, hdrop]
    refine step_t (by rw [decide_eq_true (by omega), decide_eq_true (by omega), decide_eq_true (by omega)]; rfl) (step_t (firstT _) ?_)
    refine step_b (h1 n (by omega)) (step_t (tupTIOk _ _) (step_b (h2 n (by omega)) (step_t (tupTIOk _ _) ?_)))
    simp only [tupl_tup, List.headD_cons, List.tail_cons, toInt_int]
    refine step_f (by simp [he]) (step_f (by simp [hf]) (step_t (decide_eq_true (by omega)) (step_b hnthA (step_t (okT_sh A) ?_))))
    rw [lookT, lookT]
    refine step_b (h16 n (by omega)) (step_t rfl (step_t (by simp [hb]) (fin n (by omega))))
  case pos =>
  obtain ⟨ga, ta⟩ := typeOf_given he
  obtain ⟨gb, tb⟩ := typeOf_given hf
  obtain ⟨a1, a2, a3, a4, a5⟩ := given_eq ga
  obtain ⟨b1, b2, b3, b4, b5⟩ := given_eq gb
  have goodt := good_shaped t a5
  have goods' := good_shaped s b5
  have hmul : sizeL t * wL s ≤ 300 * 1048576 := Nat.mul_le_mul a3 hs
  obtain ⟨c17, h17⟩ := s17 t 0 s (by omega) (numsLe_mono2 t (good.nums t goodt) (by omega)) (by omega) (numsLe_mono2 s (good.nums s goods') (by omega)) (by omega)
  have h17 : ∀ n, c17 ≤ n → evP E n 17 [encL t, I 0, encL s] = some (encL (subst 0 s 0 t)) := h17
  have hX : typed G (subst 0 s 0 t) = .inl (typeOf (G ++ [A]) t).1 := by
    have := typed_subst t G [] A s (by simpa using ta) (by rw [← hb]; exact tb)
    simpa using this
  have hwX : wL (subst 0 s 0 t) ≤ 500000000000 := by have := wL_subst t 0 s 0; omega
  obtain ⟨c3, h3⟩ := s15 G (subst 0 s 0 t) (by omega) hwX
  have hgX : givenB G (subst 0 s 0 t) = validL (subst 0 s 0 t) := by
    unfold givenB at gb ⊢
    simp only [Bool.and_eq_true, decide_eq_true_eq] at gb
    rw [decide_eq_true gb.1.1, gb.1.2]
    rfl
  refine ⟨c10 + c14 + c1 + c2 + c17 + c3 + 4 * wL (subst 0 s 0 t) + 100000, Ev.mk fun n hn => ?_⟩
  have h := h10 n (by omega)
  rw [e10] at h
  rw [start, e4, ← encL_eta t, ← encL_eta s, lenT]
  refine step_b h (step_t rfl (step_f rfl (step_f d0 (step_f (decide_eq_false (by omega)) (step_b (h14 n (by omega)) (step_t rfl (step_f (decide_eq_false hx) ?_)))))))
  rw [hw1, hdrop]
  refine step_t (by rw [decide_eq_true (by omega), decide_eq_true (by omega), decide_eq_true (by omega)]; rfl) (step_t (firstT _) ?_)
  refine step_b (h1 n (by omega)) (step_t (tupTIOk _ _) (step_b (h2 n (by omega)) (step_t (tupTIOk _ _) ?_)))
  simp only [tupl_tup, List.headD_cons, List.tail_cons, toInt_int]
  refine step_f (by simp [he]) (step_f (by simp [hf]) (step_t (decide_eq_true (by omega)) (step_b hnthA (step_t (okT_sh A) ?_))))
  rw [lookT, lookT]
  refine step_b (h16 n (by omega)) (step_t rfl (step_f (by simp [hb]) (step_b (h17 n (by omega)) (step_t (okL_sh _) ?_))))
  rw [lookL]
  refine step_b (h3 n (by omega)) (step_t (tupTIOk _ _) ?_)
  cases hval : validL (subst 0 s 0 t) with
  | false =>
    have hT : typeOf G (subst 0 s 0 t) = (tyZero, 4) := by unfold typeOf; rw [hgX, hval]; rfl
    have h18 := s18 (subst 0 s 0 t) hwX n (by omega)
    rw [hval] at h18
    rw [hT]
    exact step_t rfl (step_b h18 (step_t rfl (step_t rfl (fin n (by omega)))))
  | true =>
    have hT : typeOf G (subst 0 s 0 t) = ((typeOf (G ++ [A]) t).1, 0) := by unfold typeOf; rw [hgX, hval, hX]; rfl
    have szt := typeOf_size (G ++ [A]) t
    have h16' := s16 (typeOf (G ++ [A]) t).1 (typeOf (G ++ [A]) t).1 (by omega) n (by omega)
    rw [eqT_refl] at h16'
    rw [hT]
    refine step_f rfl (step_t rfl ?_)
    simp only [tupl_tup, List.headD_cons]
    rw [lookT]
    exact step_b h16' (step_t rfl (step_t rfl (fin n (by omega))))

end Go.Proofs.Aw.Sa
