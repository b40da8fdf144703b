/-
  SIMPLE, specs 15: normal forms, the program's and the reference's.
-/
import Derived.Test.YtkfcancichadgaaSaS14
set_option linter.unusedSimpArgs false
set_option linter.unusedVariables false
namespace Go.Proofs.Aw.Sa
open Go.Proofs

def outN (r : Option (Lam × Nat)) : Tree :=
  match r with
  | some (x, n) => .tup [encL x, I (n : Nat), I 0]
  | none => .tup [encL lamZ, I 0, I 5]

/-- How many steps a fuel allows. -/
def stepsOf (a : Int) : Nat := (imin (imax a 0) 20000).toNat
theorem stepsOf_eq (a : Int) : imin (imax a 0) 20000 = (stepsOf a : Int) ∧ stepsOf a ≤ 20000 := by
  unfold stepsOf
  have : 0 ≤ imin (imax a 0) 20000 ∧ imin (imax a 0) 20000 ≤ 20000 := by
    unfold imin imax
    split <;> split <;> omega
  omega

theorem good_next {t s : Lam} {p : List Nat} {B : Int} (hs : stepL t = some (s, p)) (h : good B t) (hB : 0 ≤ B) (hz : sizeL t ≤ 20000) (hle : B ≤ 1000000000) : good (B + 20000) s :=
  good_mono s (good_step t hs h hB (by omega)) (by omega)

theorem tup2Ok (a b : Int) : Sh.ok (Sh.tup [Sh.int IntKind.i64, Sh.int IntKind.i64]) (.tup [I a, I b]) = true := rfl

theorem l24 (F : Nat) (hF : F ≤ 20000) : ∀ (rem n : Nat) (t : Lam) (B : Int), n + rem = F → good B t → 0 ≤ B → B + rem * 20000 ≤ 1000000000 → sizeL t ≤ 20000 →
    ∃ c, ∀ N, c ≤ N → ∀ q, rem < q → ∀ (j1 j2 : Int) (j3 : List UInt8), L24_0 N q F (n : Nat) t.op t.num t.ty.name (encTs t.ty.parts) (encLs t.parts) j1 j2 j3 = some (outN (normalL rem n t)) := by
  intro rem
  induction rem with
  | zero =>
    intro n t B hn hg hB hb hz
    have fit := hg.fit (by omega) hz
    obtain ⟨c, h46⟩ := s46 t fit
    have h42 := s42 t (by have := fit.w; omega)
    cases hs : stepL t with
    | none =>
      rw [hs] at h46
      refine ⟨c + 2 * wL t + 5, fun N hN q hq j1 j2 j3 => ?_⟩
      obtain ⟨q, rfl⟩ : ∃ k, q = k + 1 := ⟨q - 1, by omega⟩
      rw [show q + 1 = Nat.succ q from rfl, l24_0, ← encL_eta t]
      refine step_b (h46 N (by omega)) (step_t rfl (step_t rfl (step_b (h42 N (by omega)) (step_t (okL_sh t) ?_))))
      rw [lookL]
      unfold normalL
      rw [hs]
      rfl
    | some sp =>
      obtain ⟨s, p⟩ := sp
      rw [hs] at h46
      have hw := fit.stepW hs
      have h48 := s48 s (by have := sizeL_wL s; omega)
      refine ⟨c + 2 * sizeL s + 5, fun N hN q hq j1 j2 j3 => ?_⟩
      obtain ⟨q, rfl⟩ : ∃ k, q = k + 1 := ⟨q - 1, by omega⟩
      rw [show q + 1 = Nat.succ q from rfl, l24_0, ← encL_eta t]
      refine step_b (h46 N (by omega)) (step_t (tupOk s p true) (step_f rfl ?_))
      simp only [outP, tupl_tup, List.headD_cons]
      rw [lookL]
      refine step_b (h48 N (by omega)) (step_t rfl (step_t (by simp; omega) ?_))
      unfold normalL
      rw [hs]
      rfl
  | succ rem ih =>
    intro n t B hn hg hB hb hz
    have fit := hg.fit (by omega) hz
    obtain ⟨c, h46⟩ := s46 t fit
    have h42 := s42 t (by have := fit.w; omega)
    cases hs : stepL t with
    | none =>
      rw [hs] at h46
      refine ⟨c + 2 * wL t + 5, fun N hN q hq j1 j2 j3 => ?_⟩
      obtain ⟨q, rfl⟩ : ∃ k, q = k + 1 := ⟨q - 1, by omega⟩
      rw [show q + 1 = Nat.succ q from rfl, l24_0, ← encL_eta t]
      refine step_b (h46 N (by omega)) (step_t rfl (step_t rfl (step_b (h42 N (by omega)) (step_t (okL_sh t) ?_))))
      rw [lookL]
      unfold normalL
      rw [hs]
      rfl
    | some sp =>
      obtain ⟨s, p⟩ := sp
      rw [hs] at h46
      have hw := fit.stepW hs
      have hsw := sizeL_wL s
      have h48 := s48 s (by omega)
      by_cases hbig : sizeL s > 20000
      · refine ⟨c + 2 * sizeL s + 5, fun N hN q hq j1 j2 j3 => ?_⟩
        obtain ⟨q, rfl⟩ : ∃ k, q = k + 1 := ⟨q - 1, by omega⟩
        rw [show q + 1 = Nat.succ q from rfl, l24_0, ← encL_eta t]
        refine step_b (h46 N (by omega)) (step_t (tupOk s p true) (step_f rfl ?_))
        simp only [outP, tupl_tup, List.headD_cons]
        rw [lookL]
        refine step_b (h48 N (by omega)) (step_t rfl (step_f (by simp; omega) (step_t (by simp only [tupl_tup, List.headD_cons, toInt_int]; exact decide_eq_true (by omega)) ?_)))
        unfold normalL
        rw [hs]
        simp only
        rw [if_pos hbig]
        rfl
      · obtain ⟨c2, h2⟩ := ih (n + 1) s (B + 20000) (by omega) (good_next hs hg hB hz (by omega)) (by omega) (by omega) (by omega)
        refine ⟨c + c2 + 2 * sizeL s + 5, fun N hN q hq j1 j2 j3 => ?_⟩
        obtain ⟨q, rfl⟩ : ∃ k, q = k + 1 := ⟨q - 1, by omega⟩
        rw [show q + 1 = Nat.succ q from rfl, l24_0, ← encL_eta t]
        refine step_b (h46 N (by omega)) (step_t (tupOk s p true) (step_f rfl ?_))
        simp only [outP, tupl_tup, List.headD_cons]
        rw [lookL]
        refine step_b (h48 N (by omega)) (step_t rfl (step_f (by simp; omega) (step_f (by simp only [tupl_tup, List.headD_cons, toInt_int]; exact decide_eq_false (by omega)) ?_)))
        have lk : ∀ d, Tree.toStr (List.headD (List.tail (List.tail (Tree.cs (encL s)))) d) = s.ty.name ∧ Tree.elems (List.headD (List.tail (List.tail (List.tail (Tree.cs (encL s))))) d) = encTs s.ty.parts := fun d => by rw [encL_eta]; exact ⟨rfl, rfl⟩
        rw [lk0, lk1, lk4, (lk _).1, (lk _).2, w64 (by omega)]
        have e := h2 N (by omega) q (by omega)
        unfold normalL
        rw [hs]
        simp only
        rw [if_neg hbig]
        exact e _ _ _

/-- The normal form, the program's. -/
theorem s24 (t : Lam) (a : Int) (B : Int) (hg : good B t) (hB : 0 ≤ B ∧ B ≤ 100000000) (hz : sizeL t ≤ 20000) : ∃ c, Ev E c 24 [encL t, I a] (outN (normalL (stepsOf a) 0 t)) := by
  obtain ⟨e1, e2⟩ := stepsOf_eq a
  obtain ⟨c, h⟩ := l24 (stepsOf a) e2 (stepsOf a) 0 t B (by omega) hg hB.1 (by omega) hz
  refine ⟨c + stepsOf a + 5, Ev.mk fun n hn => ?_⟩
  rw [encL_eta t, e24, e1]
  exact h n (by omega) n (by omega) _ _ _

theorem l25 (F : Nat) (hF : F ≤ 20000) : ∀ (rem n : Nat) (t : Lam) (B : Int), n + rem = F → good B t → 0 ≤ B → B + rem * 20000 ≤ 1000000000 → sizeL t ≤ 20000 →
    ∃ c, ∀ N, c ≤ N → ∀ q, rem < q → ∀ (j1 j2 : Int) (j3 : List UInt8), L25_0 N q F (n : Nat) t.op t.num t.ty.name (encTs t.ty.parts) (encLs t.parts) j1 j2 j3 = some (outN (normalL rem n t)) := by
  intro rem
  induction rem with
  | zero =>
    intro n t B hn hg hB hb hz
    have fit := hg.fit (by omega) hz
    obtain ⟨c, h46⟩ := s21 t fit (good_mono t hg (by omega))
    cases hs : stepL t with
    | none =>
      rw [hs] at h46
      refine ⟨c + 5, fun N hN q hq j1 j2 j3 => ?_⟩
      obtain ⟨q, rfl⟩ : ∃ k, q = k + 1 := ⟨q - 1, by omega⟩
      rw [show q + 1 = Nat.succ q from rfl, l25_0, ← encL_eta t]
      refine step_b (h46 N (by omega)) (step_t rfl (step_t rfl ?_))
      unfold normalL
      rw [hs]
      rfl
    | some sp =>
      obtain ⟨s, p⟩ := sp
      rw [hs] at h46
      have hw := fit.stepW hs
      have h48 := s38 s (by have := sizeL_wL s; omega)
      refine ⟨c + 2 * sizeL s + 5, fun N hN q hq j1 j2 j3 => ?_⟩
      obtain ⟨q, rfl⟩ : ∃ k, q = k + 1 := ⟨q - 1, by omega⟩
      rw [show q + 1 = Nat.succ q from rfl, l25_0, ← encL_eta t]
      refine step_b (h46 N (by omega)) (step_t (tupOk s p true) (step_f rfl ?_))
      simp only [outP, tupl_tup, List.headD_cons]
      rw [lookL]
      refine step_b (h48 N (by omega)) (step_t rfl (step_t (decide_eq_true (by omega)) ?_))
      unfold normalL
      rw [hs]
      rfl
  | succ rem ih =>
    intro n t B hn hg hB hb hz
    have fit := hg.fit (by omega) hz
    obtain ⟨c, h46⟩ := s21 t fit (good_mono t hg (by omega))
    cases hs : stepL t with
    | none =>
      rw [hs] at h46
      refine ⟨c + 5, fun N hN q hq j1 j2 j3 => ?_⟩
      obtain ⟨q, rfl⟩ : ∃ k, q = k + 1 := ⟨q - 1, by omega⟩
      rw [show q + 1 = Nat.succ q from rfl, l25_0, ← encL_eta t]
      refine step_b (h46 N (by omega)) (step_t rfl (step_t rfl ?_))
      unfold normalL
      rw [hs]
      rfl
    | some sp =>
      obtain ⟨s, p⟩ := sp
      rw [hs] at h46
      have hw := fit.stepW hs
      have hsw := sizeL_wL s
      have h48 := s38 s (by omega)
      by_cases hbig : sizeL s > 20000
      · refine ⟨c + 2 * sizeL s + 5, fun N hN q hq j1 j2 j3 => ?_⟩
        obtain ⟨q, rfl⟩ : ∃ k, q = k + 1 := ⟨q - 1, by omega⟩
        rw [show q + 1 = Nat.succ q from rfl, l25_0, ← encL_eta t]
        refine step_b (h46 N (by omega)) (step_t (tupOk s p true) (step_f rfl ?_))
        simp only [outP, tupl_tup, List.headD_cons]
        rw [lookL]
        refine step_b (h48 N (by omega)) (step_t rfl (step_f (decide_eq_false (by omega)) (step_t (by simp only [tupl_tup, List.headD_cons, toInt_int]; exact decide_eq_true (by omega)) ?_)))
        unfold normalL
        rw [hs]
        simp only
        rw [if_pos hbig]
        rfl
      · obtain ⟨c2, h2⟩ := ih (n + 1) s (B + 20000) (by omega) (good_next hs hg hB hz (by omega)) (by omega) (by omega) (by omega)
        refine ⟨c + c2 + 2 * sizeL s + 5, fun N hN q hq j1 j2 j3 => ?_⟩
        obtain ⟨q, rfl⟩ : ∃ k, q = k + 1 := ⟨q - 1, by omega⟩
        rw [show q + 1 = Nat.succ q from rfl, l25_0, ← encL_eta t]
        refine step_b (h46 N (by omega)) (step_t (tupOk s p true) (step_f rfl ?_))
        simp only [outP, tupl_tup, List.headD_cons]
        rw [lookL]
        refine step_b (h48 N (by omega)) (step_t rfl (step_f (decide_eq_false (by omega)) (step_f (by simp only [tupl_tup, List.headD_cons, toInt_int]; exact decide_eq_false (by omega)) ?_)))
        have lk : ∀ d, Tree.toStr (List.headD (List.tail (List.tail (Tree.cs (encL s)))) d) = s.ty.name ∧ Tree.elems (List.headD (List.tail (List.tail (List.tail (Tree.cs (encL s))))) d) = encTs s.ty.parts := fun d => by rw [encL_eta]; exact ⟨rfl, rfl⟩
        rw [lk0, lk1, lk4, (lk _).1, (lk _).2, w64 (by omega)]
        have e := h2 N (by omega) q (by omega)
        unfold normalL
        rw [hs]
        simp only
        rw [if_neg hbig]
        exact e _ _ _

/-- The normal form, the reference's. -/
theorem s25 (t : Lam) (a : Int) (B : Int) (hg : good B t) (hB : 0 ≤ B ∧ B ≤ 100000000) (hz : sizeL t ≤ 20000) : ∃ c, Ev E c 25 [encL t, I a] (outN (normalL (stepsOf a) 0 t)) := by
  obtain ⟨e1, e2⟩ := stepsOf_eq a
  obtain ⟨c, h⟩ := l25 (stepsOf a) e2 (stepsOf a) 0 t B (by omega) hg hB.1 (by omega) hz
  obtain ⟨c3, h3⟩ := s32 t 0 0 (by have := good.w t hg; omega) (good.nums t (good_mono t hg (by omega))) (by omega) (by have := good.w t hg; omega)
  rw [show imax 0 0 = 0 from rfl, shift_zero] at h3
  refine ⟨c + c3 + stepsOf a + 5, Ev.mk fun n hn => ?_⟩
  have h3 := h3 n (by omega)
  have e := h n (by omega) n (by omega)
  have lk : ∀ d, Tree.toStr (List.headD (List.tail (List.tail (Tree.cs (encL t)))) d) = t.ty.name ∧ Tree.elems (List.headD (List.tail (List.tail (List.tail (Tree.cs (encL t))))) d) = encTs t.ty.parts := fun d => by rw [encL_eta]; exact ⟨rfl, rfl⟩
  have start : evQ E n 25 [encL t, I a] = evQ E n 25 [.agg [I t.op, I t.num, .str t.ty.name, .slc (encTs t.ty.parts), .slc (encLs t.parts)], I a] := by rw [encL_eta t]
  rw [start, e25, ← encL_eta t]
  refine step_b h3 (step_t (okL_sh t) ?_)
  rw [lk0, lk1, lk4, (lk _).1, (lk _).2, e1]
  exact e _ _ _

end Go.Proofs.Aw.Sa
