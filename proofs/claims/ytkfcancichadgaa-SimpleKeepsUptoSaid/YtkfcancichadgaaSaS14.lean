/-
  SIMPLE, specs 14: steps, the program's and the reference's.
-/
import Derived.Test.YtkfcancichadgaaSaGood
import Derived.Test.YtkfcancichadgaaSaE5
set_option linter.unusedSimpArgs false
set_option linter.unusedVariables false
namespace Go.Proofs.Aw.Sa
open Go.Proofs

def pathT (p : List Nat) : List Tree := p.map fun k => I ((k : Nat) : Int)
def outP (r : Option (Lam × List Nat)) : Tree :=
  match r with
  | some (x, p) => .tup [encL x, .slc (pathT p), .bool true]
  | none => .tup [encL lamZ, .slc [], .bool false]

theorem pathT_len (p : List Nat) : (pathT p).length = p.length := by simp [pathT]
theorem pathT_first (p : List Nat) : firstOk (Sh.int IntKind.i64) (pathT p) = true := by cases p <;> rfl
theorem pathT_cons (i : Nat) (p : List Nat) : pathT (i :: p) = I ((i : Nat) : Int) :: pathT p := rfl

mutual
theorem path_le : ∀ (t : Lam) {x : Lam} {p : List Nat}, stepL t = some (x, p) → p.length ≤ sizeL t
  | .mk o m t l, x, p, h => by
    unfold stepL at h
    split at h
    · cases h; simp
    · split at h
      · rename_i l' p' h2
        cases h
        have := paths_le l 0 h2
        rw [sizeL_mk]; omega
      · cases h
theorem paths_le : ∀ (l : List Lam) (i : Nat) {r : List Lam} {p : List Nat}, stepLs i l = some (r, p) → p.length ≤ sizeLs l + 1
  | [], i, r, p, h => by simp [stepLs] at h
  | x :: l, i, r, p, h => by
    unfold stepLs at h
    unfold sizeLs
    split at h
    · rename_i y p' h2
      cases h
      have := path_le x h2
      simp
      omega
    · split at h
      · rename_i r' p' h2
        cases h
        have := paths_le l (i + 1) h2
        omega
      · cases h
end

structure FitS (l : List Lam) : Prop where
  size : sizeLs l ≤ 20000
  w : wLs l ≤ 2000000
  nums : numsLes 2147483648 l
  fits : fitsLs l

theorem Fit.parts {o m : Int} {t : Ty} {l : List Lam} (h : Fit (.mk o m t l)) : FitS l := by
  obtain ⟨h1, h2, h3, h4⟩ := h
  simp only [sizeL, wL, numsLe, fitsL] at h1 h2 h3 h4
  exact ⟨by omega, by omega, h3.2, h4.2⟩
theorem FitS.head {x : Lam} {l : List Lam} (h : FitS (x :: l)) : Fit x := by
  obtain ⟨h1, h2, h3, h4⟩ := h
  simp only [sizeLs, wLs, numsLes, fitsLs] at h1 h2 h3 h4
  exact ⟨by omega, by omega, h3.1, h4.1⟩
theorem FitS.tail {x : Lam} {l : List Lam} (h : FitS (x :: l)) : FitS l := by
  obtain ⟨h1, h2, h3, h4⟩ := h
  simp only [sizeLs, wLs, numsLes, fitsLs] at h1 h2 h3 h4
  exact ⟨by omega, by omega, h3.2, h4.2⟩

def outLs (o m : Int) (t : Ty) (pre : List Lam) (r : Option (List Lam × List Nat)) : Tree :=
  match r with
  | some (l, p) => .tup [encL (.mk o m t (pre ++ l)), .slc (pathT p), .bool true]
  | none => .tup [encL lamZ, .slc [], .bool false]

theorem tupOk (x : Lam) (p : List Nat) (b : Bool) : Sh.ok (Sh.tup [shL, Sh.slc, Sh.bool]) (.tup [encL x, .slc (pathT p), .bool b]) = true := by
  simp [okL_sh]

mutual
/-- A step, the program's. -/
theorem s46 : ∀ (t : Lam), Fit t → ∃ c, Ev E c 46 [encL t] (outP (stepL t))
  | .mk o m (.mk s u) l, h => by
    obtain ⟨c1, h67⟩ := s67 _ h
    obtain ⟨c2, h2⟩ := l46 l h.parts
    have hl := len_sizeLs l
    have hsz := h.parts.size
    refine ⟨c1 + c2 + l.length + 5, Ev.mk fun n hn => ?_⟩
    have h67 := h67 n (by omega)
    unfold stepT at h67
    unfold stepL
    have e2 := h2 n (by omega) n (by omega) [] o m s u 0 0 [] (by simp; omega)
    simp only [List.nil_append, List.length_nil] at e2
    rw [show ((0 : Nat) : Int) = 0 from rfl] at e2
    rw [encL] at h67
    rw [encL, e46, lenL]
    cases hr : ruleL (.mk o m (.mk s u) l) with
    | some x =>
      rw [hr] at h67
      refine step_b h67 (step_t (by simp [outT, okL_sh]) (step_t rfl ?_))
      simp only [outT, tupl_tup, List.headD_cons]
      rw [lookL]
      rfl
    | none =>
      rw [hr] at h67
      refine step_b h67 (step_t rfl (step_f rfl ?_))
      rw [e2]
      cases stepLs 0 l with
      | none => rfl
      | some r => obtain ⟨r, p⟩ := r; rfl
theorem l46 : ∀ (r : List Lam), FitS r → ∃ c, ∀ n, c ≤ n → ∀ q, r.length < q → ∀ (pre : List Lam) (o m : Int) (s : List UInt8) (u : List Ty) (j1 j2 : Int) (j3 : List UInt8), (pre ++ r).length ≤ 1000000000000 →
    L46_0 n q (encLs (pre ++ r)) ((pre ++ r).length : Nat) (pre.length : Nat) o m s (encTs u) (encLs (pre ++ r)) j1 j2 j3 = some (outLs o m (.mk s u) pre (stepLs pre.length r))
  | [], h => ⟨0, fun n hn q hq pre o m s u j1 j2 j3 hb => by
    obtain ⟨q, rfl⟩ : ∃ k, q = k + 1 := ⟨q - 1, by omega⟩
    rw [show q + 1 = Nat.succ q from rfl, l46_0, bif_neg (by simp)]
    rfl⟩
  | x :: r, h => by
    obtain ⟨c1, h1⟩ := s46 x h.head
    obtain ⟨c2, h2⟩ := l46 r h.tail
    refine ⟨c1 + c2, fun n hn q hq pre o m s u j1 j2 j3 hb => ?_⟩
    obtain ⟨q, rfl⟩ : ∃ k, q = k + 1 := ⟨q - 1, by omega⟩
    simp only [List.length_cons] at hq
    have hpl : pre.length < (pre ++ x :: r).length := by simp
    have h1 := h1 n (by omega)
    have hsx := h.head.size
    rw [show q + 1 = Nat.succ q from rfl, l46_0]
    refine step_t (decide_eq_true (by omega)) (step_t (decide_eq_true (by omega)) ?_)
    rw [Int.toNat_natCast]
    refine step_b (nthL pre x r) (step_t (okL_sh x) ?_)
    rw [lookL]
    unfold stepLs
    cases hs : stepL x with
    | some yp =>
      obtain ⟨y, p⟩ := yp
      rw [hs] at h1
      have hp := path_le x hs
      refine step_b h1 (step_t (tupOk y p true) (step_t rfl ?_))
      simp only [outP, tupl_tup, List.headD_cons, List.tail_cons, elems_slc]
      refine step_t (firstL _) (step_t (by rw [lenL, Nat.ble_eq]; omega) (step_t (by rw [lenL]; exact condRow _ _ hpl _ _ rfl) (step_b (nthL pre x r) (step_t (okL_sh x) ?_))))
      refine step_t (pathT_first p) (step_t (by rw [pathT_len]; simp; omega) ?_)
      rw [lookL]
      have hset : setN (encLs (pre ++ x :: r)) pre.length (encL y) = encLs (pre ++ y :: r) := by
        have := setN_app (encL x) (encL y) (encLs r) (encLs pre)
        rw [lenL] at this
        simpa [encLs_map] using this
      rw [hset]
      rfl
    | none =>
      rw [hs] at h1
      refine step_b h1 (step_t rfl (step_f rfl ?_))
      have e := h2 n (by omega) q (by omega) (pre ++ [x]) o m s u j1 j2 j3 (by simpa using hb)
      simp only [List.append_assoc, List.singleton_append, List.length_append, List.length_singleton] at e
      rw [w64 (by omega)]
      have e' : L46_0 n q (encLs (pre ++ x :: r)) ((pre ++ x :: r).length : Nat) ((pre.length : Nat) + 1) o m s (encTs u) (encLs (pre ++ x :: r)) j1 j2 j3 = some (outLs o m (.mk s u) (pre ++ [x]) (stepLs (pre.length + 1) r)) := by
        simpa using e
      refine e'.trans ?_
      cases stepLs (pre.length + 1) r with
      | none => rfl
      | some rp =>
        obtain ⟨r', p⟩ := rp
        show some (outLs o m (.mk s u) (pre ++ [x]) (some (r', p))) = some (outLs o m (.mk s u) pre (some (x :: r', p)))
        simp [outLs]
end

/-! ### how large a step makes a term -/
theorem rule_w {t x : Lam} (h : ruleL t = some x) : wL x ≤ wL t + sizeL t * wL t + 20 := by
  cases t with
  | mk o m t l =>
  have hz : sizeT tyZero = 1 := rfl
  by_cases c3 : o = 3
  · subst c3
    rw [ruleL_3] at h
    unfold rule3 at h
    split at h
    · rename_i y a
      split at h
      · rename_i b hb
        split at h
        · cases h
          cases y with
          | mk yo ym yt yl =>
          simp only [Lam.parts] at hb
          subst hb
          have k := wL_subst b 0 a 0
          have k2 : sizeL b * wL a ≤ sizeL (.mk 3 m t [.mk yo ym yt [b], a]) * wL (.mk 3 m t [.mk yo ym yt [b], a]) := Nat.mul_le_mul (by simp only [sizeL, sizeLs]; omega) (by simp only [wL, wLs]; omega)
          have k3 : wL b ≤ wL (.mk 3 m t [.mk yo ym yt [b], a]) := by simp only [wL, wLs]; omega
          omega
        · cases h
      · cases h
    · cases h
  by_cases c5 : o = 5
  · subst c5
    rw [ruleL_5] at h
    unfold rule5 at h
    split at h
    · split at h
      · cases h
        have : wL (lNum (Lam.num ‹Lam› + 1)) = 2 := rfl
        omega
      · cases h
    · cases h
  by_cases c6 : o = 6
  · subst c6
    rw [ruleL_6] at h
    unfold rule6 at h
    split at h
    · rename_i y f a
      split at h
      · have k1 : wL f + wL a ≤ wL (.mk 6 m t [y, f, a]) := by simp only [wL, wLs]; omega
        have k2 : wL f ≤ sizeL (.mk 6 m t [y, f, a]) * wL (.mk 6 m t [y, f, a]) := Nat.le_trans (by omega) (Nat.le_mul_of_pos_left _ (by simp only [sizeL]; omega))
        split at h
        · cases h; omega
        · cases h
          have e : ∀ n, wL (lNum n) = 2 := fun n => rfl
          simp only [wL_mk, wLs, hz, e] at *
          omega
      · cases h
    · cases h
  by_cases c8 : o = 8
  · subst c8
    rw [ruleL_8] at h
    unfold rule8 at h
    split at h
    · rename_i y
      split at h
      · rename_i a b hb
        split at h
        · cases h
          cases y with
          | mk yo ym yt yl =>
          simp only [Lam.parts] at hb
          subst hb
          simp only [wL_mk, wLs]
          omega
        · cases h
      · cases h
    · cases h
  by_cases c9 : o = 9
  · subst c9
    rw [ruleL_9] at h
    unfold rule9 at h
    split at h
    · rename_i y
      split at h
      · rename_i a b hb
        split at h
        · cases h
          cases y with
          | mk yo ym yt yl =>
          simp only [Lam.parts] at hb
          subst hb
          simp only [wL_mk, wLs]
          omega
        · cases h
      · cases h
    · cases h
  rw [ruleL_no c3 c5 c6 c8 c9] at h
  cases h

mutual
theorem step_w : ∀ (t : Lam) {x : Lam} {p : List Nat}, stepL t = some (x, p) → wL x ≤ wL t + sizeL t * wL t + 20
  | .mk o m t l, x, p, h => by
    unfold stepL at h
    split at h
    · rename_i y hy
      cases h
      exact rule_w hy
    · split at h
      · rename_i l' p' h2
        cases h
        have := steps_w l 0 h2
        have k : sizeLs l * wLs l ≤ sizeL (.mk o m t l) * wL (.mk o m t l) := Nat.mul_le_mul (by rw [sizeL_mk]; omega) (by rw [wL_mk]; omega)
        rw [wL_mk o m t l'] 
        have e := wL_mk o m t l
        omega
      · cases h
theorem steps_w : ∀ (l : List Lam) (i : Nat) {r : List Lam} {p : List Nat}, stepLs i l = some (r, p) → wLs r ≤ wLs l + sizeLs l * wLs l + 20
  | [], i, r, p, h => by simp [stepLs] at h
  | x :: l, i, r, p, h => by
    unfold stepLs at h
    have k1 : sizeL x * wL x ≤ sizeLs (x :: l) * wLs (x :: l) := Nat.mul_le_mul (by simp only [sizeLs]; omega) (by simp only [wLs]; omega)
    have k2 : sizeLs l * wLs l ≤ sizeLs (x :: l) * wLs (x :: l) := Nat.mul_le_mul (by simp only [sizeLs]; omega) (by simp only [wLs]; omega)
    have e : wLs (x :: l) = wL x + wLs l := rfl
    split at h
    · rename_i y p' h2
      cases h
      have := step_w x h2
      simp only [wLs] at *
      omega
    · split at h
      · rename_i r' p' h2
        cases h
        have := steps_w l (i + 1) h2
        simp only [wLs] at *
        omega
      · cases h
end

theorem Fit.stepW {t x : Lam} {p : List Nat} (h : Fit t) (hs : stepL t = some (x, p)) : wL x ≤ 50000000000 := by
  have := step_w t hs
  have k : sizeL t * wL t ≤ 20000 * 2000000 := Nat.mul_le_mul h.size h.w
  have := h.w
  omega

/-- The program's Step. -/
theorem s20 (t : Lam) (h : Fit t) : ∃ c, Ev E c 20 [encL t] (outP (stepL t)) := by
  obtain ⟨c, h46⟩ := s46 t h
  cases hs : stepL t with
  | none =>
    rw [hs] at h46
    refine ⟨c + 1, Ev.mk fun n hn => ?_⟩
    have h46 := h46 n (by omega)
    rw [encL_eta t] at h46 ⊢
    rw [e20]
    exact step_b h46 (step_t rfl (step_t rfl rfl))
  | some xp =>
    obtain ⟨x, p⟩ := xp
    rw [hs] at h46
    have h42 := s42 x (by have := h.stepW hs; omega)
    refine ⟨c + 2 * wL x + 10, Ev.mk fun n hn => ?_⟩
    have h46 := h46 n (by omega)
    rw [encL_eta t] at h46 ⊢
    rw [e20]
    refine step_b h46 (step_t (tupOk x p true) (step_f rfl ?_))
    simp only [outP, tupl_tup, List.headD_cons, List.tail_cons, elems_slc]
    rw [lookL]
    refine step_b (h42 n (by omega)) (step_t (okL_sh x) ?_)
    rw [lookL]

mutual
/-- A step, the reference's. -/
theorem s21 : ∀ (t : Lam), Fit t → good 2147483648 t → ∃ c, Ev E c 21 [encL t] (outP (stepL t))
  | .mk o m (.mk s u) l, h, hg => by
    have hg' := hg
    unfold good at hg'
    obtain ⟨c1, h47⟩ := s47 _ h
    obtain ⟨c2, h2⟩ := l21 l h.parts hg'.2.2.2
    obtain ⟨c3, h3⟩ := s32r (.mk o m (.mk s u) l) 0 0 (by have := h.w; omega) (Fit.redex.numsLe_mono _ h.nums (by omega)) (by omega) (by have := h.w; omega)
    rw [show imax 0 0 = 0 from rfl, shift_zero] at h3
    have h4 : ∃ c, ∀ x, ruleL (.mk o m (.mk s u) l) = some x → Ev E c 32 [encL x, I 0, I 0] (encL x) := by
      cases hr : ruleL (.mk o m (.mk s u) l) with
      | none => exact ⟨0, fun x hx => by cases hx⟩
      | some x =>
        have hst : stepL (.mk o m (.mk s u) l) = some (x, []) := by unfold stepL; rw [hr]
        have hx := h.stepW hst
        have hgx := good_rule hr hg (by omega) (by have := h.size; omega)
        obtain ⟨c, hc⟩ := s32 x 0 0 (by omega) (Fit.redex.numsLe_mono _ (good.nums x hgx) (by have := h.size; omega)) (by omega) (by omega)
        rw [show imax 0 0 = 0 from rfl, shift_zero] at hc
        exact ⟨c, fun y hy => by cases hy; exact hc⟩
    obtain ⟨c4, h4⟩ := h4
    have hl := len_sizeLs l
    have hsz := h.parts.size
    refine ⟨c1 + c2 + c3 + c4 + l.length + 5, Ev.mk fun n hn => ?_⟩
    have h47 := h47 n (by omega)
    unfold stepT at h47
    unfold stepL
    have e2 := h2 n (by omega) n (by omega) [] o m s u 0 0 [] (by simp; omega) (by simpa using h3 n (by omega))
    simp only [List.nil_append, List.length_nil] at e2
    rw [show ((0 : Nat) : Int) = 0 from rfl] at e2
    rw [encL] at h47
    rw [encL, e21]
    cases hr : ruleL (.mk o m (.mk s u) l) with
    | some x =>
      rw [hr] at h47
      refine step_b h47 (step_t (by simp [outT, okL_sh]) (step_t rfl ?_))
      simp only [outT, tupl_tup, List.headD_cons]
      rw [lookL]
      refine step_b (h4 x hr n (by omega)) (step_t (okL_sh x) ?_)
      rw [lookL]
      rfl
    | none =>
      rw [hr] at h47
      refine step_b h47 (step_t (by have := okL_sh (.mk o m (.mk s u) l); simp [outT] at this ⊢; exact this) (step_f rfl ?_))
      rw [e2]
      cases stepLs 0 l with
      | none => rfl
      | some r => obtain ⟨r, p⟩ := r; rfl
theorem l21 : ∀ (r : List Lam), FitS r → goods 2147483648 r → ∃ c, ∀ n, c ≤ n → ∀ q, r.length < q → ∀ (pre : List Lam) (o m : Int) (s : List UInt8) (u : List Ty) (j1 j2 : Int) (j3 : List UInt8), (pre ++ r).length ≤ 1000000000000 →
    (∃ rr, runFn E n 32 [.t (encL (.mk o m (.mk s u) (pre ++ r))), .t (I 0), .t (I 0)] [] = some rr ∧ Lay (.mk o m (.mk s u) (pre ++ r)) rr) →
    L21_0 n q (pre.length : Nat) o m s (encTs u) (encLs (pre ++ r)) j1 j2 j3 = some (outLs o m (.mk s u) pre (stepLs pre.length r))
  | [], h, _ => ⟨0, fun n hn q hq pre o m s u j1 j2 j3 hb _ => by
    obtain ⟨q, rfl⟩ : ∃ k, q = k + 1 := ⟨q - 1, by omega⟩
    rw [show q + 1 = Nat.succ q from rfl, l21_0, bif_neg (by rw [lenL]; simp)]
    rfl⟩
  | x :: r, h, hg => by
    unfold goods at hg
    obtain ⟨c1, h1⟩ := s21 x h.head hg.1
    obtain ⟨c2, h2⟩ := l21 r h.tail hg.2
    refine ⟨c1 + c2, fun n hn q hq pre o m s u j1 j2 j3 hb hlay => ?_⟩
    obtain ⟨q, rfl⟩ : ∃ k, q = k + 1 := ⟨q - 1, by omega⟩
    simp only [List.length_cons] at hq
    have hpl : pre.length < (pre ++ x :: r).length := by simp
    have h1 := h1 n (by omega)
    have hsx := h.head.size
    rw [show q + 1 = Nat.succ q from rfl, l21_0, lenL]
    refine step_t (decide_eq_true (by omega)) (step_t (decide_eq_true (by omega)) ?_)
    rw [Int.toNat_natCast]
    refine step_b (nthL pre x r) (step_t (okL_sh x) ?_)
    rw [lookL]
    unfold stepLs
    cases hs : stepL x with
    | some yp =>
      obtain ⟨y, p⟩ := yp
      rw [hs] at h1
      have hp := path_le x hs
      refine step_b h1 (step_t (tupOk y p true) (step_t rfl ?_))
      simp only [outP, tupl_tup, List.headD_cons, List.tail_cons, elems_slc, open_int, open_str, open_slc]
      obtain ⟨rr, hrr, lay⟩ := hlay
      obtain ⟨hf, k1, k2, k3, k4, k5⟩ := lay.look
      simp only [Lam.op, Lam.num, Lam.ty, Lam.parts, Ty.name, Ty.parts] at k1 k2 k3 k4 k5
      rw [encL] at hrr
      refine step_b hrr ?_
      rcases hf with ⟨h0, _⟩ | hf
      · exfalso; simp only [Lam.parts] at h0; simp at h0
      · refine step_t hf ?_
        rw [k1, k2, k3, k4, k5]
        refine step_t (by exact condRow pre.length (encLs (pre ++ x :: r)).length (by rw [lenL]; exact hpl) shsL shsL rfl) (step_b (nthL pre x r) (step_t (okL_sh x) ?_))
        refine step_t (pathT_first p) (step_t (by rw [pathT_len]; simp; omega) ?_)
        rw [lookL]
        have hset : setN (encLs (pre ++ x :: r)) pre.length (encL y) = encLs (pre ++ y :: r) := by
          have := setN_app (encL x) (encL y) (encLs r) (encLs pre)
          rw [lenL] at this
          simpa [encLs_map] using this
        rw [hset]
        rfl
    | none =>
      rw [hs] at h1
      refine step_b h1 (step_t rfl (step_f rfl ?_))
      have e := h2 n (by omega) q (by omega) (pre ++ [x]) o m s u j1 j2 j3 (by simpa using hb) (by simpa using hlay)
      simp only [List.append_assoc, List.singleton_append, List.length_append, List.length_singleton] at e
      rw [w64 (by omega)]
      have e' : L21_0 n q ((pre.length : Nat) + 1) o m s (encTs u) (encLs (pre ++ x :: r)) j1 j2 j3 = some (outLs o m (.mk s u) (pre ++ [x]) (stepLs (pre.length + 1) r)) := by
        simpa using e
      refine e'.trans ?_
      cases stepLs (pre.length + 1) r with
      | none => rfl
      | some rp =>
        obtain ⟨r', p⟩ := rp
        show some (outLs o m (.mk s u) (pre ++ [x]) (some (r', p))) = some (outLs o m (.mk s u) pre (some (x :: r', p)))
        simp [outLs]
end

end Go.Proofs.Aw.Sa
