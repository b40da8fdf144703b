/-
  SIMPLE: SimpleValues, the plain law.
-/
import Derived.Test.YtkfcancichadgaaSaTy19
import Derived.Test.YtkfcancichadgaaSaAwake
import Derived.Test.YtkfcancichadgaaSaEl3
set_option linter.unusedSimpArgs false
set_option linter.unusedVariables false
namespace Go.Proofs.Aw.Sa
open Go.Proofs

mutual
theorem good_shaped : ∀ t : Lam, shaped t = true → good 200 t
  | .mk o n t l, h => by
    have q := shaped_eq h
    have htop : n ≤ 1000 ∧ (o = 1 → n ≤ 200) := by
      have := q.hi
      unfold topN at this
      split at this
      · exact ⟨by omega, fun _ => by omega⟩
      · split at this
        · exact ⟨by omega, fun e => by omega⟩
        · exact ⟨by omega, fun e => by omega⟩
    unfold good
    refine ⟨htop.2, by have := q.lo; omega, ?_, goods_shaped l q.parts⟩
    by_cases e : o = 2
    · have := (q.lam e).2; omega
    · rw [q.zero e]; decide
theorem goods_shaped : ∀ l : List Lam, shapeds l = true → goods 200 l
  | [], _ => trivial
  | t :: r, h => by
    unfold shapeds at h
    simp only [Bool.and_eq_true] at h
    unfold goods
    exact ⟨good_shaped t h.1, goods_shaped r h.2⟩
end

/-- The number that a normal form stands for. -/
def numOf (r : Option (Lam × Nat)) : Int × Int :=
  match r with
  | none => (0, 5)
  | some (x, _) => if x.num > 1000000 then (0, 2) else (x.num, 0)

/-- What Value tells. -/
def valueOf (t : Lam) (a : Int) : Int × Int :=
  if (typeOf [] t).2 ≠ 0 then (0, (typeOf [] t).2) else if (typeOf [] t).1.name ≠ sNat then (0, 250) else numOf (normalL (stepsOf a) 0 t)

theorem typeOf_given {ctx : List Ty} {t : Lam} (h : (typeOf ctx t).2 = 0) : givenB ctx t = true ∧ typed ctx t = .inl (typeOf ctx t).1 := by
  unfold typeOf at h ⊢
  split at h
  · rename_i hg
    rw [if_pos hg]
    split at h
    · rename_i u hu
      exact ⟨hg, hu⟩
    · simp at h
  · simp at h

theorem s11 (t : Lam) (a : Int) (ht : wL t ≤ 1048576) : ∃ c, Ev E c 11 [encL t, I a] (.tup [I (valueOf t a).1, I (valueOf t a).2]) := by
  have start : ∀ n, evQ E n 11 [encL t, I a] = evQ E n 11 [.agg [I t.op, I t.num, .str t.ty.name, .slc (encTs t.ty.parts), .slc (encLs t.parts)], I a] := fun n => by rw [encL_eta t]
  obtain ⟨c15, h15⟩ := s15 [] t (by decide) (by omega)
  have h15 : ∀ n, c15 ≤ n → evP (Tab.env tab) n 15 [.slc [], encL t] = some (.tup [encT (typeOf [] t).1, I (typeOf [] t).2]) := h15
  unfold valueOf
  by_cases he : (typeOf [] t).2 = 0
  case neg =>
    rw [if_pos he]
    refine ⟨c15 + 1, Ev.mk fun n hn => ?_⟩
    rw [start, e11, ← encL_eta t]
    refine step_b (h15 n (by omega)) (step_t (tupTIOk _ _) ?_)
    simp only [tupl_tup, List.headD_cons, List.tail_cons, toInt_int]
    exact step_t (by simp [he]) rfl
  case pos =>
    rw [if_neg (by simp [he])]
    by_cases hn : (typeOf [] t).1.name = sNat
    case neg =>
      rw [if_pos hn]
      refine ⟨c15 + 1, Ev.mk fun n hn2 => ?_⟩
      rw [start, e11, ← encL_eta t]
      refine step_b (h15 n (by omega)) (step_t (tupTIOk _ _) ?_)
      simp only [tupl_tup, List.headD_cons, List.tail_cons, toInt_int]
      rw [lkT0]
      exact step_f (by simp [he]) (step_t (by simp; exact hn) rfl)
    case pos =>
      rw [if_neg (by simp [hn])]
      obtain ⟨hg, hty⟩ := typeOf_given he
      obtain ⟨g1, g2, g3, g4, g5⟩ := given_eq hg
      obtain ⟨c24, h24⟩ := s24 t a 200 (good_shaped t g5) (by omega) (by omega)
      refine ⟨c15 + c24 + 1, Ev.mk fun n hn2 => ?_⟩
      rw [start, e11, ← encL_eta t]
      refine step_b (h15 n (by omega)) (step_t (tupTIOk _ _) ?_)
      simp only [tupl_tup, List.headD_cons, List.tail_cons, toInt_int]
      rw [lkT0]
      refine step_f (by simp [he]) (step_f (by simp; exact hn) (step_b (h24 n (by omega)) ?_))
      cases normalL (stepsOf a) 0 t with
      | none => exact step_t rfl (step_t rfl rfl)
      | some xk =>
        obtain ⟨x, k⟩ := xk
        refine step_t (tupNOk x _ _) (step_f rfl ?_)
        by_cases hx : x.num > 1000000
        · refine step_t (decide_eq_true (show Tree.toInt (List.headD (List.tail (Tree.cs (encL x))) (Tree.bool false)) > 1000000 by rw [lk1]; exact hx)) ?_
          simp only [numOf, if_pos hx]
        · refine step_f (decide_eq_false (show ¬ Tree.toInt (List.headD (List.tail (Tree.cs (encL x))) (Tree.bool false)) > 1000000 by rw [lk1]; exact hx)) ?_
          simp only [outN, tupl_tup, List.headD_cons, lk1, numOf, if_neg hx]

theorem s12 (t : Lam) (a : Int) (ht : wL t ≤ 1048576) : ∃ c, Ev E c 12 [encL t, I a] (.tup [I (valueOf t a).1, I (valueOf t a).2]) := by
  have start : ∀ n, evQ E n 12 [encL t, I a] = evQ E n 12 [.agg [I t.op, I t.num, .str t.ty.name, .slc (encTs t.ty.parts), .slc (encLs t.parts)], I a] := fun n => by rw [encL_eta t]
  obtain ⟨c15, h15⟩ := s27 [] t (by decide) (by omega)
  have h15 : ∀ n, c15 ≤ n → evP (Tab.env tab) n 27 [.slc [], encL t] = some (.tup [encT (typeOf [] t).1, I (typeOf [] t).2]) := h15
  unfold valueOf
  by_cases he : (typeOf [] t).2 = 0
  case neg =>
    rw [if_pos he]
    refine ⟨c15 + 1, Ev.mk fun n hn => ?_⟩
    rw [start, e12, ← encL_eta t]
    refine step_b (h15 n (by omega)) (step_t (tupTIOk _ _) ?_)
    simp only [tupl_tup, List.headD_cons, List.tail_cons, toInt_int]
    exact step_t (by simp [he]) rfl
  case pos =>
    rw [if_neg (by simp [he])]
    by_cases hn : (typeOf [] t).1.name = sNat
    case neg =>
      rw [if_pos hn]
      refine ⟨c15 + 1, Ev.mk fun n hn2 => ?_⟩
      rw [start, e12, ← encL_eta t]
      refine step_b (h15 n (by omega)) (step_t (tupTIOk _ _) ?_)
      simp only [tupl_tup, List.headD_cons, List.tail_cons, toInt_int]
      rw [lkT0]
      exact step_f (by simp [he]) (step_t (by simp; exact hn) rfl)
    case pos =>
      rw [if_neg (by simp [hn])]
      obtain ⟨hg, hty⟩ := typeOf_given he
      obtain ⟨g1, g2, g3, g4, g5⟩ := given_eq hg
      obtain ⟨c24, h24⟩ := s25 t a 200 (good_shaped t g5) (by omega) (by omega)
      refine ⟨c15 + c24 + 1, Ev.mk fun n hn2 => ?_⟩
      rw [start, e12, ← encL_eta t]
      refine step_b (h15 n (by omega)) (step_t (tupTIOk _ _) ?_)
      simp only [tupl_tup, List.headD_cons, List.tail_cons, toInt_int]
      rw [lkT0]
      refine step_f (by simp [he]) (step_f (by simp; exact hn) (step_b (h24 n (by omega)) ?_))
      cases normalL (stepsOf a) 0 t with
      | none => exact step_t rfl (step_t rfl rfl)
      | some xk =>
        obtain ⟨x, k⟩ := xk
        refine step_t (tupNOk x _ _) (step_f rfl ?_)
        by_cases hx : x.num > 1000000
        · refine step_t (decide_eq_true (show Tree.toInt (List.headD (List.tail (Tree.cs (encL x))) (Tree.bool false)) > 1000000 by rw [lk1]; exact hx)) ?_
          simp only [numOf, if_pos hx]
        · refine step_f (decide_eq_false (show ¬ Tree.toInt (List.headD (List.tail (Tree.cs (encL x))) (Tree.bool false)) > 1000000 by rw [lk1]; exact hx)) ?_
          simp only [outN, tupl_tup, List.headD_cons, lk1, numOf, if_neg hx]

theorem values_law (t : Lam) (a : Int) (ht : wL t ≤ 1048576) : ∃ c, Ev E c 3 [encL t, I a] (.bool true) := by
  obtain ⟨c10, b10, h10, hv⟩ := s10 [t] (by simp only [wLs]; omega)
  have start : ∀ n, evQ E n 3 [encL t, I a] = evQ E n 3 [.agg [I t.op, I t.num, .str t.ty.name, .slc (encTs t.ty.parts), .slc (encLs t.parts)], I a] := fun n => by rw [encL_eta t]
  have e10 : ∀ n, evP E n 10 [.slc (encLs [t])] = evP E n 10 [.slc [encL t]] := fun n => by simp [encLs]
  cases b10 with
  | true =>
    refine ⟨c10 + 1, Ev.mk fun n hn => ?_⟩
    have h := h10 n (by omega)
    rw [e10] at h
    rw [start, e3, ← encL_eta t]
    exact step_b h (step_t rfl (step_t rfl rfl))
  | false =>
    by_cases a2 : a > 200
    · refine ⟨c10 + 1, Ev.mk fun n hn => ?_⟩
      have h := h10 n (by omega)
      rw [e10] at h
      rw [start, e3, ← encL_eta t]
      exact step_b h (step_t rfl (step_f rfl (step_t (decide_eq_true a2) rfl)))
    obtain ⟨c11, h11⟩ := s11 t a ht
    obtain ⟨c12, h12⟩ := s12 t a ht
    refine ⟨c10 + c11 + c12 + 100, Ev.mk fun n hn => ?_⟩
    have h := h10 n (by omega)
    rw [e10] at h
    rw [start, e3, ← encL_eta t]
    refine step_b h (step_t rfl (step_f rfl (step_f (decide_eq_false a2) ?_)))
    refine step_b (h11 n (by omega)) (step_t rfl (step_b (h12 n (by omega)) (step_t rfl ?_)))
    simp only [tupl_tup, List.headD_cons, List.tail_cons, toInt_int]
    have fin : ((evP (Tab.env tab) n 13 []).bind fun y => bif Sh.ok Sh.bool y then some (Tree.bool (Tree.toBool y)) else none) = some (.bool true) := step_b (s13 n (by omega)) (step_t rfl rfl)
    by_cases h5 : (valueOf t a).2 = 5
    · refine step_t (by simp [h5]) (step_f (by simp [h5]) (step_t (by simp) (step_t (by simp) fin)))
    · exact step_f (by simp [h5]) (step_t (by simp) (step_t (by simp) fin))

end Go.Proofs.Aw.Sa
