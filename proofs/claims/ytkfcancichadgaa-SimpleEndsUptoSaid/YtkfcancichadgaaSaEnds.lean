/-
  SIMPLE: SimpleEnds, the plain law.
-/
import Derived.Test.YtkfcancichadgaaSaTy19
import Derived.Test.YtkfcancichadgaaSaMeta2
import Derived.Test.YtkfcancichadgaaSaAwake
import Derived.Test.YtkfcancichadgaaSaShaped
import Derived.Test.YtkfcancichadgaaSaEl7
set_option linter.unusedSimpArgs false
set_option linter.unusedVariables false
namespace Go.Proofs.Aw.Sa
open Go.Proofs

theorem stepsOf_mono {a b : Int} (h : a ≤ b) : stepsOf a ≤ stepsOf b := by
  obtain ⟨h1, h2⟩ := stepsOf_eq a
  obtain ⟨h3, h4⟩ := stepsOf_eq b
  have : imin (imax a 0) 20000 ≤ imin (imax b 0) 20000 := by
    have i1 : imax a 0 ≤ imax b 0 := by unfold imax; split <;> split <;> omega
    generalize imax a 0 = u at i1 ⊢
    generalize imax b 0 = v at i1 ⊢
    unfold imin
    split <;> split <;> omega
  omega

theorem ends_law (t : Lam) (a : Int) (ht : wL t ≤ 1048576) (ha : 0 ≤ a ∧ a ≤ 255) : ∃ c, Ev E c 7 [encL t, .int .u8 a] (.bool true) := by
  obtain ⟨c10, b10, h10, hv⟩ := s10 [t] (by simp only [wLs]; omega)
  have start : ∀ n, evQ E n 7 [encL t, .int .u8 a] = evQ E n 7 [.agg [I t.op, I t.num, .str t.ty.name, .slc (encTs t.ty.parts), .slc (encLs t.parts)], .int .u8 a] := fun n => by rw [encL_eta t]
  have e10 : ∀ n, evP E n 10 [.slc (encLs [t])] = evP E n 10 [.slc [encL t]] := fun n => by simp [encLs]
  cases b10 with
  | true =>
    refine ⟨c10 + 1, Ev.mk fun n hn => ?_⟩
    have h := h10 n (by omega)
    rw [e10] at h
    rw [start, e7, ← encL_eta t]
    exact step_b h (step_t rfl (step_t rfl rfl))
  | false =>
  obtain ⟨c1, h1⟩ := s15 [] t (by decide) (by omega)
  have h1 : ∀ n, c1 ≤ n → evP (Tab.env tab) n 15 [.slc [], encL t] = some (.tup [encT (typeOf [] t).1, I (typeOf [] t).2]) := h1
  have fin : ∀ n, 40 ≤ n → ((evP (Tab.env tab) n 13 []).bind fun y => bif Sh.ok Sh.bool y then some (Tree.bool (Tree.toBool y)) else none) = some (.bool true) := fun n hn => step_b (s13 n hn) (step_t rfl rfl)
  by_cases he : (typeOf [] t).2 = 0
  case neg =>
    refine ⟨c10 + c1 + 100, Ev.mk fun n hn => ?_⟩
    have h := h10 n (by omega)
    rw [e10] at h
    rw [start, e7, ← encL_eta t]
    refine step_b h (step_t rfl (step_f rfl (step_b (h1 n (by omega)) (step_t (tupTIOk _ _) ?_))))
    simp only [tupl_tup, List.headD_cons, List.tail_cons, toInt_int]
    exact step_t (by simp [he]) (fin n (by omega))
  case pos =>
  obtain ⟨ga, ta⟩ := typeOf_given he
  obtain ⟨a1, a2, a3, a4, a5⟩ := given_eq ga
  have goodt := good_shaped t a5
  -- the fuel
  obtain ⟨k, hk⟩ : ∃ k, k = imin (IntKind.wrap .i64 a) 200 := ⟨_, rfl⟩
  have hkb : 0 ≤ k ∧ k ≤ 200 := by
    rw [hk, w64 (by omega)]
    unfold imin
    split <;> omega
  have hk2 : IntKind.wrap .i64 (IntKind.wrap .i64 (2 * imin (IntKind.wrap .i64 a) 200) + 5) = 2 * k + 5 := by
    rw [← hk, w64 (x := 2 * k) (by omega), w64 (by omega)]
  obtain ⟨c2, h2⟩ := s24 t k 200 goodt (by omega) (by omega)
  cases hN : normalL (stepsOf k) 0 t with
  | none =>
    rw [hN] at h2
    refine ⟨c10 + c1 + c2 + 100, Ev.mk fun n hn => ?_⟩
    have h := h10 n (by omega)
    rw [e10] at h
    rw [start, e7, ← encL_eta t, hk2, ← hk]
    refine step_b h (step_t rfl (step_f rfl (step_b (h1 n (by omega)) (step_t (tupTIOk _ _) ?_))))
    simp only [tupl_tup, List.headD_cons, List.tail_cons, toInt_int]
    refine step_f (by simp [he]) (step_b (h2 n (by omega)) (step_t rfl (step_t rfl (step_t rfl (fin n (by omega))))))
  | some xm =>
    obtain ⟨x, m⟩ := xm
    rw [hN] at h2
    have hst := (stepsOf_eq k).2
    obtain ⟨x1, x2, x3, x4⟩ := normal_good (stepsOf k) 0 t 200 hN goodt (by omega) (by omega) (by omega)
    have fitx := x2.fit (by omega) x1
    have hN2 := normal_more (stepsOf k) (stepsOf (2 * k + 5)) 0 t hN (stepsOf_mono (by omega))
    obtain ⟨c3, h3⟩ := s24 t (2 * k + 5) 200 goodt (by omega) (by omega)
    rw [hN2] at h3
    obtain ⟨c4, h4⟩ := s20 x fitx
    rw [x3] at h4
    have hwx := fitx.w
    obtain ⟨c5, h5⟩ := s15 [] x (by decide) (by omega)
    have h5 : ∀ n, c5 ≤ n → evP (Tab.env tab) n 15 [.slc [], encL x] = some (.tup [encT (typeOf [] x).1, I (typeOf [] x).2]) := h5
    have q1 := s22 x x (by omega)
    rw [eqL_refl] at q1
    have hX := normal_keeps (stepsOf k) 0 t [] hN ta
    have hgX : givenB [] x = validL x := by
      unfold givenB
      rfl
    refine ⟨c10 + c1 + c2 + c3 + c4 + c5 + 4 * wL x + 100000, Ev.mk fun n hn => ?_⟩
    have h := h10 n (by omega)
    rw [e10] at h
    rw [start, e7, ← encL_eta t, hk2, ← hk]
    refine step_b h (step_t rfl (step_f rfl (step_b (h1 n (by omega)) (step_t (tupTIOk _ _) ?_))))
    simp only [tupl_tup, List.headD_cons, List.tail_cons, toInt_int]
    refine step_f (by simp [he]) (step_b (h2 n (by omega)) (step_t (tupNOk x _ _) (step_f rfl ?_)))
    refine step_b (h3 n (by omega)) (step_t (tupNOk x _ _) ?_)
    simp only [outN, tupl_tup, List.headD_cons, List.tail_cons, toInt_int]
    rw [lookL]
    refine step_b (h4 n (by omega)) (step_t rfl (step_f rfl (step_f (by simp) (step_f rfl ?_))))
    refine step_b (q1 n (by omega)) (step_t rfl (step_f rfl ?_))
    refine step_b (h5 n (by omega)) (step_t (tupTIOk _ _) ?_)
    cases hval : validL x with
    | false =>
      have hT : typeOf [] x = (tyZero, 4) := by unfold typeOf; rw [hgX, hval]; rfl
      have h18 := s18 x (by omega) n (by omega)
      rw [hval] at h18
      rw [hT]
      exact step_t rfl (step_b h18 (step_t rfl (step_t rfl (fin n (by omega)))))
    | true =>
      have hT : typeOf [] x = ((typeOf [] t).1, 0) := by unfold typeOf at hX ⊢; rw [hgX, hval, hX]; rfl
      have szt := typeOf_size [] t
      have h16' := s16 (typeOf [] t).1 (typeOf [] t).1 (by omega) n (by omega)
      rw [eqT_refl] at h16'
      rw [hT]
      refine step_f rfl (step_t rfl ?_)
      simp only [tupl_tup, List.headD_cons]
      rw [lookT]
      exact step_b h16' (step_t rfl (step_t rfl (fin n (by omega))))

end Go.Proofs.Aw.Sa
