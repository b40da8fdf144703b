/-
  SIMPLE: SimpleSteps, the plain law.
-/
import Derived.Test.YtkfcancichadgaaSaS15
import Derived.Test.YtkfcancichadgaaSaAwake
import Derived.Test.YtkfcancichadgaaSaE8
import Derived.Test.YtkfcancichadgaaSaShape
set_option linter.unusedSimpArgs false
set_option linter.unusedVariables false
namespace Go.Proofs.Aw.Sa
open Go.Proofs

theorem eqL_refl (t : Lam) : eqL t t = true := (eqL_iff t t).2 rfl

mutual
theorem fits_of : ∀ t : Lam, okL t → fitsL t
  | .mk o n t l, h => by
    unfold okL at h
    unfold fitsL
    refine ⟨?_, fitss_of l h.2.2.2.2⟩
    have := h.2.1
    simp only [fits, IntKind.min, IntKind.max, IntKind.signed, IntKind.bits] at this
    simp at this
    omega
theorem fitss_of : ∀ l : List Lam, okLs l → fitsLs l
  | [], _ => trivial
  | t :: r, h => by
    unfold okLs at h
    unfold fitsLs
    exact ⟨fits_of t h.1, fitss_of r h.2⟩
end

theorem outP_eq (t : Lam) (h : Fit t) : ∃ (a : Lam) (p : List Nat) (b : Bool), outP (stepL t) = .tup [encL a, .slc (pathT p), .bool b] ∧ wL a ≤ 50000000000 ∧ p.length ≤ 20000 := by
  cases hs : stepL t with
  | none => exact ⟨lamZ, [], false, rfl, by decide, by simp⟩
  | some xp =>
    obtain ⟨x, p⟩ := xp
    exact ⟨x, p, true, rfl, h.stepW hs, by have := path_le t hs; have := h.size; omega⟩

theorem normal_good : ∀ (rem n : Nat) (t : Lam) (B : Int) {x : Lam} {k : Nat}, normalL rem n t = some (x, k) → good B t → 0 ≤ B → B + rem * 20000 ≤ 1000000000 → sizeL t ≤ 20000 → sizeL x ≤ 20000 ∧ good (B + rem * 20000) x ∧ stepL x = none ∧ k ≤ n + rem := by
  intro rem
  induction rem with
  | zero =>
    intro n t B x k h hg hB hb hz
    unfold normalL at h
    split at h
    · rename_i hs
      cases h
      exact ⟨hz, good_mono t hg (by omega), hs, by omega⟩
    · cases h
  | succ rem ih =>
    intro n t B x k h hg hB hb hz
    unfold normalL at h
    split at h
    · rename_i hs
      cases h
      exact ⟨hz, good_mono t hg (by omega), hs, by omega⟩
    · rename_i s p hs
      simp only at h
      split at h
      · cases h
      · rename_i hbig
        obtain ⟨h1, h2, h3, h4⟩ := ih (n + 1) s (B + 20000) h (good_next hs hg hB hz (by omega)) (by omega) (by omega) (by omega)
        exact ⟨h1, good_mono x h2 (by omega), h3, by omega⟩

theorem outN_eq (t : Lam) (F : Nat) (B : Int) (hg : good B t) (hB : 0 ≤ B) (hb : B + F * 20000 ≤ 1000000000) (hz : sizeL t ≤ 20000) : ∃ (a : Lam) (k e : Int), outN (normalL F 0 t) = .tup [encL a, I k, I e] ∧ wL a ≤ 2000000 := by
  cases hs : normalL F 0 t with
  | none => exact ⟨lamZ, 0, 5, rfl, by decide⟩
  | some xk =>
    obtain ⟨x, k⟩ := xk
    obtain ⟨h1, h2, _⟩ := normal_good F 0 t B hs hg hB hb hz
    exact ⟨x, (k : Nat), 0, rfl, by have := good.w x h2; omega⟩

theorem tupNOk (x : Lam) (k e : Int) : Sh.ok (Sh.tup [shL, Sh.int IntKind.i64, Sh.int IntKind.i64]) (.tup [encL x, I k, I e]) = true := by
  simp [okL_sh]

theorem steps_law (t : Lam) (a : Int) (ht : wL t ≤ 1048576) (hf : fitsL t) : ∃ c, Ev E c 5 [encL t, I a] (.bool true) := by
  obtain ⟨c10, b10, h10, hv⟩ := s10 [t] (by simp only [wLs]; omega)
  have h19 := s19 t (by omega)
  have start : ∀ n, evQ E n 5 [encL t, I a] = evQ E n 5 [.agg [I t.op, I t.num, .str t.ty.name, .slc (encTs t.ty.parts), .slc (encLs t.parts)], I a] := fun n => by rw [encL_eta t]
  have e10 : ∀ n, evP E n 10 [.slc (encLs [t])] = evP E n 10 [.slc [encL t]] := fun n => by simp [encLs]
  cases b10 with
  | true =>
    refine ⟨c10 + 1, Ev.mk fun n hn => ?_⟩
    have h := h10 n (by omega)
    rw [e10] at h
    rw [start, e5, ← encL_eta t]
    exact step_b h (step_t rfl (step_t rfl rfl))
  | false =>
    obtain ⟨v1, vt⟩ := hv rfl t (by simp)
    by_cases n1 : nearL t = false
    · refine ⟨c10 + 2 * wL t + 10, Ev.mk fun n hn => ?_⟩
      have h := h10 n (by omega)
      rw [e10] at h
      have k1 := h19 n (by omega)
      rw [n1] at k1
      rw [start, e5, ← encL_eta t]
      exact step_b h (step_t rfl (step_f rfl (step_b k1 (step_t rfl (step_t rfl rfl)))))
    rw [Bool.not_eq_false] at n1
    by_cases a2 : a > 200
    · refine ⟨c10 + 2 * wL t + 10, Ev.mk fun n hn => ?_⟩
      have h := h10 n (by omega)
      rw [e10] at h
      have k1 := h19 n (by omega)
      rw [n1] at k1
      rw [start, e5, ← encL_eta t]
      exact step_b h (step_t rfl (step_f rfl (step_b k1 (step_t rfl (step_f rfl (step_t (decide_eq_true a2) rfl))))))
    have hg : good 1000000 t := good_of t (near_le t n1) hf vt
    have fit := hg.fit (by omega) (by omega)
    obtain ⟨c20, h20⟩ := s20 t fit
    obtain ⟨c21, h21⟩ := s21 t fit (good_mono t hg (by omega))
    obtain ⟨c24, h24⟩ := s24 t a 1000000 hg (by omega) (by omega)
    obtain ⟨c25, h25⟩ := s25 t a 1000000 hg (by omega) (by omega)
    obtain ⟨x, p, b, hP, hxw, hpl⟩ := outP_eq t fit
    have hF := (stepsOf_eq a).2
    obtain ⟨y, k, e, hN, hyw⟩ := outN_eq t (stepsOf a) 1000000 hg (by omega) (by omega) (by omega)
    rw [hP] at h20 h21
    rw [hN] at h24 h25
    have q1 := s22 x x (by omega)
    have q2 := s22 y y (by omega)
    rw [eqL_refl] at q1 q2
    have hpp : pathT p = (p.map fun k => ((k : Nat) : Int)).map I := by simp [pathT]
    have h23 := s23 (p.map fun k => ((k : Nat) : Int)) (by simp; omega)
    rw [← hpp] at h23
    refine ⟨c10 + 2 * wL t + c20 + c21 + c24 + c25 + 2 * wL x + 2 * wL y + p.length + 3000, Ev.mk fun n hn => ?_⟩
    have h := h10 n (by omega)
    rw [e10] at h
    have k1 := h19 n (by omega)
    rw [n1] at k1
    rw [start, e5, ← encL_eta t]
    refine step_b h (step_t rfl (step_f rfl (step_b k1 (step_t rfl (step_f rfl (step_f (decide_eq_false a2) ?_))))))
    refine step_b (h20 n (by omega)) (step_t (tupOk x p b) (step_b (h21 n (by omega)) (step_t (tupOk x p b) ?_)))
    simp only [tupl_tup, List.headD_cons, List.tail_cons, toBool_bool, elems_slc, toInt_int]
    rw [lookL]
    refine step_f (by simp) (step_b (q1 n (by omega)) (step_t rfl (step_f rfl ?_)))
    refine step_b (h23 n (by simp; omega)) (step_t rfl (step_f rfl ?_))
    refine step_b (h24 n (by omega)) (step_t (tupNOk y k e) (step_b (h25 n (by omega)) (step_t (tupNOk y k e) ?_)))
    simp only [tupl_tup, List.headD_cons, List.tail_cons, toBool_bool, elems_slc, toInt_int]
    rw [lookL]
    refine step_t (by simp) (step_t (by simp) (step_b (q2 n (by omega)) (step_t rfl (step_t rfl ?_))))
    exact step_b (s13 n (by omega)) (step_t rfl rfl)

end Go.Proofs.Aw.Sa
