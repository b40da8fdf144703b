/-
  SIMPLE: SimpleTypes, the plain law.
-/
import Derived.Test.YtkfcancichadgaaSaTy19
import Derived.Test.YtkfcancichadgaaSaAwake
import Derived.Test.YtkfcancichadgaaSaEl8
set_option linter.unusedSimpArgs false
set_option linter.unusedVariables false
namespace Go.Proofs.Aw.Sa
open Go.Proofs

theorem types_law (ctx : List Ty) (t : Lam) (hc : sizeTs ctx ≤ 1048576) (ht : wL t ≤ 1048576) : ∃ c, Ev E c 8 [.slc (encTs ctx), encL t] (.bool true) := by
  obtain ⟨c10, b10, h10, hv⟩ := s10 [t] (by simp only [wLs]; omega)
  have start : ∀ n, evQ E n 8 [.slc (encTs ctx), encL t] = evQ E n 8 [.slc (encTs ctx), .agg [I t.op, I t.num, .str t.ty.name, .slc (encTs t.ty.parts), .slc (encLs t.parts)]] := fun n => by rw [encL_eta t]
  have e10 : ∀ n, evP E n 10 [.slc (encLs [t])] = evP E n 10 [.slc [encL t]] := fun n => by simp [encLs]
  cases b10 with
  | true =>
    refine ⟨c10 + 1, Ev.mk fun n hn => ?_⟩
    have h := h10 n (by omega)
    rw [e10] at h
    rw [start, e8, ← encL_eta t]
    exact step_b h (step_t rfl (step_t rfl rfl))
  | false =>
  by_cases h110 : ctx.length ≤ 110
  case neg =>
    refine ⟨c10 + 1, Ev.mk fun n hn => ?_⟩
    have h := h10 n (by omega)
    rw [e10] at h
    rw [start, e8, ← encL_eta t, lenT]
    exact step_b h (step_t rfl (step_f rfl (step_t (decide_eq_true (by omega)) rfl)))
  case pos =>
  obtain ⟨c14, x, h14, _⟩ := s14 ctx (by omega) 500 (by omega)
  by_cases hx : x > 500
  · refine ⟨c10 + c14 + 1, Ev.mk fun n hn => ?_⟩
    have h := h10 n (by omega)
    rw [e10] at h
    rw [start, e8, ← encL_eta t, lenT]
    exact step_b h (step_t rfl (step_f rfl (step_f (decide_eq_false (by omega)) (step_b (h14 n (by omega)) (step_t rfl (step_t (decide_eq_true hx) rfl))))))
  obtain ⟨c15, h15⟩ := s15 ctx t (by omega) (by omega)
  obtain ⟨c27, h27⟩ := s27 ctx t (by omega) (by omega)
  obtain ⟨c28, h28⟩ := s28 ctx t (by omega) (by omega)
  obtain ⟨c29, h29⟩ := s29 ctx t (by omega) (by omega)
  have h30 := s30 t (by omega)
  have h18 := s18 t (by omega)
  have hsz := typeOf_size ctx t
  have hln := whereOf_len ctx t
  have h16 := s16 (typeOf ctx t).1 (typeOf ctx t).1 (by omega)
  rw [eqT_refl] at h16
  have h23 := s23p (whereOf ctx t).1 (by omega)
  refine ⟨c10 + c14 + c15 + c27 + c28 + c29 + 4 * wL t + 50000, Ev.mk fun n hn => ?_⟩
  have h := h10 n (by omega)
  rw [e10] at h
  rw [start, e8, ← encL_eta t, lenT]
  refine step_b h (step_t rfl (step_f rfl (step_f (decide_eq_false (by omega)) (step_b (h14 n (by omega)) (step_t rfl (step_f (decide_eq_false hx) ?_))))))
  refine step_b (h15 n (by omega)) (step_t (tupTIOk _ _) (step_b (h27 n (by omega)) (step_t (tupTIOk _ _) ?_)))
  refine step_b (h28 n (by omega)) (step_t rfl (step_b (h29 n (by omega)) (step_t rfl ?_)))
  refine step_b (h30 n (by omega)) (step_t rfl (step_b (h18 n (by omega)) (step_t rfl (step_t (by simp) ?_))))
  simp only [tupl_tup, List.headD_cons, List.tail_cons, toInt_int, elems_slc]
  rw [lookT]
  refine step_t (by simp) (step_b (h16 n (by omega)) (step_t rfl (step_t rfl (step_t (by simp) ?_))))
  refine step_b (h23 n (by omega)) (step_t rfl (step_t rfl ?_))
  exact step_b (s13 n (by omega)) (step_t rfl rfl)

end Go.Proofs.Aw.Sa
