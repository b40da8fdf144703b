/-
  SIMPLE: SimpleKeeps, the plain law.
-/
import Derived.Test.YtkfcancichadgaaSaTy19
import Derived.Test.YtkfcancichadgaaSaMeta2
import Derived.Test.YtkfcancichadgaaSaAwake
import Derived.Test.YtkfcancichadgaaSaShaped
import Derived.Test.YtkfcancichadgaaSaEl6
set_option linter.unusedSimpArgs false
set_option linter.unusedVariables false
namespace Go.Proofs.Aw.Sa
open Go.Proofs

theorem s26 (s : List UInt8) : Ev E 1 26 [.str s] (I (shownN s)) :=
  Ev.mk fun n _ => by
    rw [e26]
    unfold shownN
    by_cases h : s = sTo
    · rw [if_pos h, h]; rfl
    · rw [if_neg h]
      refine step_f (by simp; exact h) ?_
      by_cases h2 : s = sPair
      · rw [if_pos h2, h2]; rfl
      · rw [if_neg h2]
        exact step_f (by simp; exact h2) rfl

theorem keeps_law (ctx : List Ty) (t : Lam) (hc : sizeTs ctx ≤ 1048576) (ht : wL t ≤ 1048576) : ∃ c, Ev E c 6 [.slc (encTs ctx), encL t] (.bool true) := by
  obtain ⟨c10, b10, h10, hv⟩ := s10 [t] (by simp only [wLs]; omega)
  have start : ∀ n, evQ E n 6 [.slc (encTs ctx), encL t] = evQ E n 6 [.slc (encTs ctx), .agg [I t.op, I t.num, .str t.ty.name, .slc (encTs t.ty.parts), .slc (encLs t.parts)]] := fun n => by rw [encL_eta t]
  have e10 : ∀ n, evP E n 10 [.slc (encLs [t])] = evP E n 10 [.slc [encL t]] := fun n => by simp [encLs]
  cases b10 with
  | true =>
    refine ⟨c10 + 1, Ev.mk fun n hn => ?_⟩
    have h := h10 n (by omega)
    rw [e10] at h
    rw [start, e6, ← encL_eta t]
    exact step_b h (step_t rfl (step_t rfl rfl))
  | false =>
  by_cases h20 : ctx.length ≤ 20
  case neg =>
    refine ⟨c10 + 1, Ev.mk fun n hn => ?_⟩
    have h := h10 n (by omega)
    rw [e10] at h
    rw [start, e6, ← encL_eta t, lenT]
    exact step_b h (step_t rfl (step_f rfl (step_t (decide_eq_true (by omega)) rfl)))
  case pos =>
  obtain ⟨c14, x, h14, _⟩ := s14 ctx (by omega) 300 (by omega)
  by_cases hx : x > 300
  · refine ⟨c10 + c14 + 1, Ev.mk fun n hn => ?_⟩
    have h := h10 n (by omega)
    rw [e10] at h
    rw [start, e6, ← encL_eta t, lenT]
    exact step_b h (step_t rfl (step_f rfl (step_f (decide_eq_false (by omega)) (step_b (h14 n (by omega)) (step_t rfl (step_t (decide_eq_true hx) rfl))))))
  obtain ⟨c1, h1⟩ := s15 ctx t (by omega) (by omega)
  have fin : ∀ n, 40 ≤ n → ((evP (Tab.env tab) n 13 []).bind fun y => bif Sh.ok Sh.bool y then some (Tree.bool (Tree.toBool y)) else none) = some (.bool true) := fun n hn => step_b (s13 n hn) (step_t rfl rfl)
  by_cases he : (typeOf ctx t).2 = 0
  case neg =>
    refine ⟨c10 + c14 + c1 + 100, Ev.mk fun n hn => ?_⟩
    have h := h10 n (by omega)
    rw [e10] at h
    rw [start, e6, ← encL_eta t, lenT]
    refine step_b h (step_t rfl (step_f rfl (step_f (decide_eq_false (by omega)) (step_b (h14 n (by omega)) (step_t rfl (step_f (decide_eq_false hx) ?_))))))
    refine step_b (h1 n (by omega)) (step_t (tupTIOk _ _) ?_)
    simp only [tupl_tup, List.headD_cons, List.tail_cons, toInt_int]
    exact step_t (by simp [he]) (fin n (by omega))
  case pos =>
  obtain ⟨ga, ta⟩ := typeOf_given he
  obtain ⟨a1, a2, a3, a4, a5⟩ := given_eq ga
  have goodt := good_shaped t a5
  have fit := goodt.fit (by omega) (by omega)
  obtain ⟨c20, h20'⟩ := s20 t fit
  cases hs : stepL t with
  | none =>
    rw [hs] at h20'
    have h26 := s26 (typeOf ctx t).1.name
    by_cases hl : ctx = []
    case neg =>
      have hpos : 0 < ctx.length := (by cases ctx with | nil => exact absurd rfl hl | cons a b => simp)
      refine ⟨c10 + c14 + c1 + c20 + 100, Ev.mk fun n hn => ?_⟩
      have h := h10 n (by omega)
      rw [e10] at h
      rw [start, e6, ← encL_eta t, lenT]
      refine step_b h (step_t rfl (step_f rfl (step_f (decide_eq_false (by omega)) (step_b (h14 n (by omega)) (step_t rfl (step_f (decide_eq_false hx) ?_))))))
      refine step_b (h1 n (by omega)) (step_t (tupTIOk _ _) ?_)
      simp only [tupl_tup, List.headD_cons, List.tail_cons, toInt_int]
      refine step_f (by simp [he]) (step_b (h20' n (by omega)) (step_t rfl (step_f rfl ?_)))
      exact step_t (decide_eq_true (by omega)) (fin n (by omega))
    case pos =>
      subst hl
      have hp := progress t a5 ta hs
      refine ⟨c10 + c14 + c1 + c20 + 100, Ev.mk fun n hn => ?_⟩
      have h := h10 n (by omega)
      rw [e10] at h
      rw [start, e6, ← encL_eta t, lenT]
      refine step_b h (step_t rfl (step_f rfl (step_f (decide_eq_false (by omega)) (step_b (h14 n (by omega)) (step_t rfl (step_f (decide_eq_false hx) ?_))))))
      refine step_b (h1 n (by omega)) (step_t (tupTIOk _ _) ?_)
      simp only [tupl_tup, List.headD_cons, List.tail_cons, toInt_int]
      refine step_f (by simp [he]) (step_b (h20' n (by omega)) (step_t rfl (step_f rfl (step_f rfl ?_))))
      rw [lkT0]
      refine step_b (h26 n (by omega)) (step_t rfl (step_t (by simp only [toInt_int]; rw [hp]; simp) (fin n (by omega))))
  | some sp =>
    obtain ⟨s, p⟩ := sp
    rw [hs] at h20'
    have hwX := fit.stepW hs
    obtain ⟨c3, h3⟩ := s15 ctx s (by omega) (by omega)
    have hX := step_keeps t ctx ta hs
    have hgX : givenB ctx s = validL s := by
      unfold givenB at ga ⊢
      simp only [Bool.and_eq_true, decide_eq_true_eq] at ga
      rw [decide_eq_true ga.1.1, ga.1.2]
      rfl
    refine ⟨c10 + c14 + c1 + c20 + c3 + 4 * wL s + 100000, Ev.mk fun n hn => ?_⟩
    have h := h10 n (by omega)
    rw [e10] at h
    rw [start, e6, ← encL_eta t, lenT]
    refine step_b h (step_t rfl (step_f rfl (step_f (decide_eq_false (by omega)) (step_b (h14 n (by omega)) (step_t rfl (step_f (decide_eq_false hx) ?_))))))
    refine step_b (h1 n (by omega)) (step_t (tupTIOk _ _) ?_)
    simp only [tupl_tup, List.headD_cons, List.tail_cons, toInt_int]
    refine step_f (by simp [he]) (step_b (h20' n (by omega)) (step_t (tupOk s p true) (step_t rfl ?_)))
    simp only [outP, tupl_tup, List.headD_cons]
    rw [lookL]
    refine step_b (h3 n (by omega)) (step_t (tupTIOk _ _) ?_)
    cases hval : validL s with
    | false =>
      have hT : typeOf ctx s = (tyZero, 4) := by unfold typeOf; rw [hgX, hval]; rfl
      have h18 := s18 s (by omega) n (by omega)
      rw [hval] at h18
      rw [hT]
      exact step_t rfl (step_b h18 (step_t rfl (step_t rfl (fin n (by omega)))))
    | true =>
      have hT : typeOf ctx s = ((typeOf ctx t).1, 0) := by unfold typeOf at hX ⊢; rw [hgX, hval, hX]; rfl
      have szt := typeOf_size ctx t
      have h16' := s16 (typeOf ctx t).1 (typeOf ctx t).1 (by omega) n (by omega)
      rw [eqT_refl] at h16'
      rw [hT]
      refine step_f rfl (step_t rfl ?_)
      simp only [tupl_tup, List.headD_cons]
      rw [lookT]
      exact step_b h16' (step_t rfl (step_t rfl (fin n (by omega))))

end Go.Proofs.Aw.Sa
