/-
  SIMPLE: SimplePuts, the plain law.
-/
import Derived.Test.YtkfcancichadgaaSaS12
import Derived.Test.YtkfcancichadgaaSaAwake
import Derived.Test.YtkfcancichadgaaSaE8
import Derived.Test.YtkfcancichadgaaSaBulk
set_option linter.unusedSimpArgs false
set_option linter.unusedVariables false
namespace Go.Proofs.Aw.Sa
open Go.Proofs

theorem eqL_refl (t : Lam) : eqL t t = true := (eqL_iff t t).2 rfl

mutual
theorem numsLe_mono : ∀ (t : Lam) {B C : Int}, numsLe B t → B ≤ C → numsLe C t
  | .mk o m t l, B, C, h, hc => by
    unfold numsLe at h ⊢
    exact ⟨fun e => Int.le_trans (h.1 e) hc, numsLes_mono l h.2 hc⟩
theorem numsLes_mono : ∀ (l : List Lam) {B C : Int}, numsLes B l → B ≤ C → numsLes C l
  | [], B, C, _, _ => trivial
  | t :: r, B, C, h, hc => by
    unfold numsLes at h ⊢
    exact ⟨numsLe_mono t h.1 hc, numsLes_mono r h.2 hc⟩
end

mutual
theorem wL_erase : ∀ t : Lam, wL (eraseL t) ≤ wL t
  | .mk o m t l => by
    have := wLs_erase l
    have h1 := sizeT_pos t
    unfold eraseL
    rw [wL_mk, wL_mk, show sizeT tyZero = 1 from rfl]
    omega
theorem wLs_erase : ∀ l : List Lam, wLs (eraseLs l) ≤ wLs l
  | [] => Nat.le_refl _
  | t :: r => by
    have h1 := wL_erase t
    have h2 := wLs_erase r
    unfold eraseLs wLs
    omega
end

theorem step_b {α β : Type} {x : Option α} {y : α} {f : α → Option β} {r : Option β} (h : x = some y) (k : f y = r) : x.bind f = r := by rw [h]; exact k
theorem step_t {α : Type} {c : Bool} {x y r : α} (h : c = true) (k : x = r) : (bif c then x else y) = r := by rw [h]; exact k
theorem step_f {α : Type} {c : Bool} {x y r : α} (h : c = false) (k : y = r) : (bif c then x else y) = r := by rw [h]; exact k

theorem puts_law (t s : Lam) (a d : Int) (ht : wL t ≤ 1048576) (hs : wL s ≤ 1048576) : ∃ c, Ev E c 9 [encL t, encL s, I a, I d] (.bool true) := by
  obtain ⟨c10, b10, h10, hv⟩ := s10 [t, s] (by simp only [wLs]; omega)
  have h19 := s19 t (by omega)
  have h19' := s19 s (by omega)
  have start : ∀ n, evQ E n 9 [encL t, encL s, I a, I d] = evQ E n 9 [.agg [I t.op, I t.num, .str t.ty.name, .slc (encTs t.ty.parts), .slc (encLs t.parts)], .agg [I s.op, I s.num, .str s.ty.name, .slc (encTs s.ty.parts), .slc (encLs s.parts)], I a, I d] := fun n => by rw [encL_eta t, encL_eta s]
  have e10 : ∀ n, evP E n 10 [.slc (encLs [t, s])] = evP E n 10 [.slc [encL t, encL s]] := fun n => by simp [encLs]
  cases b10 with
  | true =>
    refine ⟨c10 + 1, Ev.mk fun n hn => ?_⟩
    have h := h10 n (by omega)
    rw [e10] at h
    rw [start, e9, ← encL_eta t, ← encL_eta s]
    refine step_b h (step_t rfl (step_t rfl rfl))
  | false =>
    obtain ⟨v1, _⟩ := hv rfl t (by simp)
    obtain ⟨v2, _⟩ := hv rfl s (by simp)
    by_cases n1 : nearL t = false
    · refine ⟨c10 + 2 * wL t + 10, Ev.mk fun n hn => ?_⟩
      have h := h10 n (by omega)
      rw [e10] at h
      have k1 := h19 n (by omega)
      rw [n1] at k1
      rw [start, e9, ← encL_eta t, ← encL_eta s]
      exact step_b h (step_t rfl (step_f rfl (step_b k1 (step_t rfl (step_t rfl rfl)))))
    · rw [Bool.not_eq_false] at n1
      by_cases n2 : nearL s = false
      · refine ⟨c10 + 2 * wL t + 2 * wL s + 10, Ev.mk fun n hn => ?_⟩
        have h := h10 n (by omega)
        rw [e10] at h
        have k1 := h19 n (by omega)
        rw [n1] at k1
        have k2 := h19' n (by omega)
        rw [n2] at k2
        rw [start, e9, ← encL_eta t, ← encL_eta s]
        exact step_b h (step_t rfl (step_f rfl (step_b k1 (step_t rfl (step_f rfl (step_b k2 (step_t rfl (step_t rfl rfl))))))))
      · rw [Bool.not_eq_false] at n2
        have m1 := near_le t n1
        have m2 := near_le s n2
        by_cases d1 : d < -1000000
        · refine ⟨c10 + 2 * wL t + 2 * wL s + 10, Ev.mk fun n hn => ?_⟩
          have h := h10 n (by omega)
          rw [e10] at h
          have k1 := h19 n (by omega)
          rw [n1] at k1
          have k2 := h19' n (by omega)
          rw [n2] at k2
          rw [start, e9, ← encL_eta t, ← encL_eta s]
          exact step_b h (step_t rfl (step_f rfl (step_b k1 (step_t rfl (step_f rfl (step_b k2 (step_t rfl (step_f rfl (step_t (decide_eq_true d1) rfl)))))))))
        · by_cases d2 : d > 1000000
          · refine ⟨c10 + 2 * wL t + 2 * wL s + 10, Ev.mk fun n hn => ?_⟩
            have h := h10 n (by omega)
            rw [e10] at h
            have k1 := h19 n (by omega)
            rw [n1] at k1
            have k2 := h19' n (by omega)
            rw [n2] at k2
            rw [start, e9, ← encL_eta t, ← encL_eta s]
            exact step_b h (step_t rfl (step_f rfl (step_b k1 (step_t rfl (step_f rfl (step_b k2 (step_t rfl (step_f rfl (step_f (decide_eq_false d1) (step_t (decide_eq_true d2) rfl))))))))))
          · by_cases a1 : a < -4611686018427387904
            · refine ⟨c10 + 2 * wL t + 2 * wL s + 10, Ev.mk fun n hn => ?_⟩
              have h := h10 n (by omega)
              rw [e10] at h
              have k1 := h19 n (by omega)
              rw [n1] at k1
              have k2 := h19' n (by omega)
              rw [n2] at k2
              rw [start, e9, ← encL_eta t, ← encL_eta s]
              exact step_b h (step_t rfl (step_f rfl (step_b k1 (step_t rfl (step_f rfl (step_b k2 (step_t rfl (step_f rfl (step_f (decide_eq_false d1) (step_f (decide_eq_false d2) (step_t (decide_eq_true a1) rfl)))))))))))
            · by_cases a2 : a > 4611686018427387904
              · refine ⟨c10 + 2 * wL t + 2 * wL s + 10, Ev.mk fun n hn => ?_⟩
                have h := h10 n (by omega)
                rw [e10] at h
                have k1 := h19 n (by omega)
                rw [n1] at k1
                have k2 := h19' n (by omega)
                rw [n2] at k2
                rw [start, e9, ← encL_eta t, ← encL_eta s]
                exact step_b h (step_t rfl (step_f rfl (step_b k1 (step_t rfl (step_f rfl (step_b k2 (step_t rfl (step_f rfl (step_f (decide_eq_false d1) (step_f (decide_eq_false d2) (step_f (decide_eq_false a1) (step_t (decide_eq_true a2) rfl))))))))))))
              · have b1 := numsLe_mono t m1 (C := 2147483648) (by omega)
                have b2 := numsLe_mono s m2 (C := 2147483648) (by omega)
                have b3 := numsLe_mono t m1 (C := 1152921504606846976) (by omega)
                have b4 := numsLe_mono s m2 (C := 1152921504606846976) (by omega)
                have hmul : sizeL t * wL s ≤ 120 * 1048576 := Nat.mul_le_mul v1 hs
                obtain ⟨c31, h31⟩ := s31 t d a (by omega) b1 (by omega)
                obtain ⟨c32, h32⟩ := s32 t d a (by omega) b3 (by omega) (by omega)
                obtain ⟨c17, h17⟩ := s17 t a s (by omega) b1 (by omega) b2 (by omega)
                obtain ⟨c33, h33⟩ := s33 t a s (by omega) b3 (by omega) (by omega) b4 (by omega)
                have h34 := s34 t (by omega)
                have h35 := s35 t (by omega)
                have h36 := s36 t s (by omega)
                have h22 := s22 t s (by omega)
                have hwa : wL (shift d (imax a 0) t) ≤ 1048576 := by rw [wL_shift]; exact ht
                have hwb : wL (if a < 0 then t else subst a s 0 t) ≤ 500000000000 := by
                  split
                  · omega
                  · have := wL_subst t a s 0; omega
                have hwc : wL (eraseL t) ≤ 1048576 := Nat.le_trans (wL_erase t) ht
                have q1 := s22 (shift d (imax a 0) t) (shift d (imax a 0) t) (by omega)
                have q2 := s22 (if a < 0 then t else subst a s 0 t) (if a < 0 then t else subst a s 0 t) hwb
                have q3 := s22 (eraseL t) (eraseL t) (by omega)
                rw [eqL_refl] at q1 q2 q3
                refine ⟨c10 + 2 * wL t + 2 * wL s + c31 + c32 + c17 + c33 + 2 * wL (if a < 0 then t else subst a s 0 t) + 3000000, Ev.mk fun n hn => ?_⟩
                have h := h10 n (by omega)
                rw [e10] at h
                have k1 := h19 n (by omega)
                rw [n1] at k1
                have k2 := h19' n (by omega)
                rw [n2] at k2
                rw [start, e9, ← encL_eta t, ← encL_eta s]
                refine step_b h (step_t rfl (step_f rfl (step_b k1 (step_t rfl (step_f rfl (step_b k2 (step_t rfl (step_f rfl (step_f (decide_eq_false d1) (step_f (decide_eq_false d2) (step_f (decide_eq_false a1) (step_f (decide_eq_false a2) ?_))))))))))))
                refine step_b (h31 n (by omega)) (step_t (okL_sh _) (step_b (h32 n (by omega)) (step_t (okL_sh _) ?_)))
                rw [lookL]
                refine step_b (q1 n (by omega)) (step_t rfl (step_t rfl ?_))
                refine step_b (h17 n (by omega)) (step_t (okL_sh _) (step_b (h33 n (by omega)) (step_t (okL_sh _) ?_)))
                rw [lookL]
                refine step_b (q2 n (by omega)) (step_t rfl (step_t rfl ?_))
                refine step_b (h34 n (by omega)) (step_t (okL_sh _) (step_b (h35 n (by omega)) (step_t (okL_sh _) ?_)))
                rw [lookL]
                refine step_b (q3 n (by omega)) (step_t rfl (step_t rfl ?_))
                refine step_b (h36 n (by omega)) (step_t rfl (step_b (h22 n (by omega)) (step_t rfl (step_t (by simp) ?_))))
                exact step_b (s13 n (by omega)) (step_t rfl rfl)

end Go.Proofs.Aw.Sa
