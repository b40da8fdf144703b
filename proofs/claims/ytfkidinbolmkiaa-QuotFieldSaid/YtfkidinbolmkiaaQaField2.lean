/-
  QuotField: the rest: inverses and the order.
-/
import Derived.Test.YtfkidinbolmkiaaQaField
set_option linter.unusedSimpArgs false
set_option linter.unusedVariables false
set_option maxRecDepth 100000
namespace Go.Proofs.Aw.Qa
open Go.Proofs

theorem s6_end {n : Nat} {xa xb ya yb : Int} (hn : plenty + 3 ≤ n) (fx : Fr xa xb) (fy : Fr ya yb) : RES6 n xa xb ya yb = some (.bool true) := by
  have hp20 : 20 ≤ n := by unfold plenty at hn; omega
  have i1 : evP (Tab.env tab) n 29 [.agg [.int .i64 xa, .int .i64 xb]] = some (invR xa xb) := s29 xa xb n (by omega)
  have i2 : evP (Tab.env tab) n 31 [.agg [.int .i64 xa, .int .i64 xb], .agg [.int .i64 ya, .int .i64 yb]] = some (.tup [.bool (decide (nm xa xb * dn ya yb ≤ nm ya yb * dn xa xb)), .int .i64 0]) := by
    have := s31 xa xb ya yb n (by omega)
    rw [leqR, fx.sm.rat, fy.sm.rat, Bool.and_self, cond_true] at this
    exact this
  have i3 : evP (Tab.env tab) n 31 [.agg [.int .i64 ya, .int .i64 yb], .agg [.int .i64 xa, .int .i64 xb]] = some (.tup [.bool (decide (nm ya yb * dn xa xb ≤ nm xa xb * dn ya yb)), .int .i64 0]) := by
    have := s31 ya yb xa xb n (by omega)
    rw [leqR, fx.sm.rat, fy.sm.rat, Bool.and_self, cond_true] at this
    exact this
  have i4 : evP (Tab.env tab) n 23 [.agg [.int .i64 xa, .int .i64 xb]] = some (.tup [.agg [.int .i64 (nm xa xb), .int .i64 (dn xa xb)], .int .i64 0]) := by
    have := s23 xa xb n (by omega)
    rw [normR, fx.sm.rat, cond_true] at this
    exact this
  have i5 : evP (Tab.env tab) n 23 [.agg [.int .i64 ya, .int .i64 yb]] = some (.tup [.agg [.int .i64 (nm ya yb), .int .i64 (dn ya yb)], .int .i64 0]) := by
    have := s23 ya yb n (by omega)
    rw [normR, fy.sm.rat, cond_true] at this
    exact this
  have i6 : evP (Tab.env tab) n 15 [] = some (.bool true) := s15 n (by omega)
  have el := eq_low fx fy
  unfold invR at i1
  rw [fx.sm.rat, cond_true] at i1
  have fin : ∀ (P Q : Int) (r s : Int) (t u : Int), ((r = t ∧ s = u) ↔ P = Q) → 
      (bif decide (P ≤ Q) then (bif decide (P ≤ Q) then (bif decide (Q ≤ P) == (r == t && s == u) then some (Tree.bool true) else some (Tree.bool false)) else (bif false == (r == t && s == u) then some (Tree.bool true) else some (Tree.bool false)))
       else (bif decide (Q ≤ P) then (bif decide (P ≤ Q) then (bif decide (Q ≤ P) == (r == t && s == u) then some (Tree.bool true) else some (Tree.bool false)) else (bif false == (r == t && s == u) then some (Tree.bool true) else some (Tree.bool false))) else some (Tree.bool false))) = some (Tree.bool true) := by
    intro P Q r s t u h
    have hb : (r == t && s == u) = decide (P = Q) := by
      by_cases hPQ : P = Q
      · obtain ⟨h1, h2⟩ := h.2 hPQ
        simp [h1, h2, hPQ]
      · have : ¬ (r = t ∧ s = u) := fun q => hPQ (h.1 q)
        rw [decide_eq_false hPQ]
        by_cases h1 : r = t
        · have h2 : ¬ s = u := fun q => this ⟨h1, q⟩
          simp [h2]
        · simp [h1]
    rw [hb]
    by_cases c1 : P ≤ Q
    · by_cases c2 : Q ≤ P
      · rw [decide_eq_true c1, decide_eq_true c2, decide_eq_true (show P = Q by omega)]; rfl
      · rw [decide_eq_true c1, decide_eq_false c2, decide_eq_false (show ¬ P = Q by omega)]; rfl
    · rw [decide_eq_false c1, decide_eq_true (show Q ≤ P by omega), decide_eq_false (show ¬ P = Q by omega)]; rfl
  unfold RES6
  by_cases h0 : xa = 0
  · rw [bif_pos (by simp [h0])] at i1
    rw [i1]
    simp only [i2, i3, i4, i5, i6, Option.bind_some, ok_tup, ok_agg, oks_cons, ok_int, ok_bool, oks_nil, Bool.and_true, Bool.and_self, cond_true, tupl_tup, cs_agg, List.headD_cons, List.tail_cons, toInt_int, toBool_bool]
    rw [bif_neg (by simp [h0]), bif_neg (by rfl)]
    exact fin _ _ _ _ _ _ el
  · rw [bif_neg (by simp [h0]), redT] at i1
    have i7 : evP (Tab.env tab) n 27 [.agg [.int .i64 xa, .int .i64 xb], .agg [.int .i64 (nm xb xa), .int .i64 (dn xb xa)]] = some (.tup [.agg [.int .i64 1, .int .i64 1], .int .i64 0]) := by
      have := s27 xa xb (nm xb xa) (dn xb xa) n (by omega)
      rw [f_inv fx h0] at this
      exact this
    rw [i1]
    simp only [i2, i3, i4, i5, i6, i7, Option.bind_some, ok_tup, ok_agg, oks_cons, ok_int, ok_bool, oks_nil, Bool.and_true, Bool.and_self, cond_true, tupl_tup, cs_agg, List.headD_cons, List.tail_cons, toInt_int, toBool_bool]
    rw [bif_neg (by simp [h0]), bif_pos (by rfl), bif_neg (by rfl), bif_neg (by rfl)]
    exact fin _ _ _ _ _ _ el

theorem s6 (a0 a1 b0 b1 c0 c1 : Int) : Ev E (plenty + 4) 6 [.agg [.int .i16 a0, .int .i16 a1], .agg [.int .i16 b0, .int .i16 b1], .agg [.int .i16 c0, .int .i16 c1]] (.bool true) :=
  Ev.mk fun n hn => by
    have hpl : plenty + 3 ≤ n := by omega
    have fr (p q : Int) : Fr (Int.tmod p 1000) (oddOf (Int.tmod q 1000)) := by
      have t1 := tmod_b (a := p)
      have t2 := tmod_b (a := q)
      have t3 := oddOf_b t2.1 t2.2
      exact ⟨t1.1, t1.2, t3.2.1, t3.2.2, t3.1⟩
    have fx := fr (IntKind.wrap .i64 a0) (IntKind.wrap .i64 a1)
    have fy := fr (IntKind.wrap .i64 b0) (IntKind.wrap .i64 b1)
    have fz := fr (IntKind.wrap .i64 c0) (IntKind.wrap .i64 c1)
    obtain ⟨xb, ex⟩ : ∃ v, oddOf (Int.tmod (IntKind.wrap .i64 a1) 1000) = v := ⟨_, rfl⟩
    obtain ⟨yb, ey⟩ : ∃ v, oddOf (Int.tmod (IntKind.wrap .i64 b1) 1000) = v := ⟨_, rfl⟩
    obtain ⟨zb, ez⟩ : ∃ v, oddOf (Int.tmod (IntKind.wrap .i64 c1) 1000) = v := ⟨_, rfl⟩
    obtain ⟨xa, ex1⟩ : ∃ v, Int.tmod (IntKind.wrap .i64 a0) 1000 = v := ⟨_, rfl⟩
    obtain ⟨ya, ey1⟩ : ∃ v, Int.tmod (IntKind.wrap .i64 b0) 1000 = v := ⟨_, rfl⟩
    obtain ⟨za, ez1⟩ : ∃ v, Int.tmod (IntKind.wrap .i64 c0) 1000 = v := ⟨_, rfl⟩
    rw [ex, ex1] at fx
    rw [ey, ey1] at fy
    rw [ez, ez1] at fz
    have h1 : evP (Tab.env tab) n 25 [.agg [.int .i64 xa, .int .i64 xb], .agg [.int .i64 ya, .int .i64 yb]] = _ := s25 xa xb ya yb n (by omega)
    have h2 : evP (Tab.env tab) n 25 [.agg [.int .i64 ya, .int .i64 yb], .agg [.int .i64 xa, .int .i64 xb]] = _ := s25 ya yb xa xb n (by omega)
    have h3 : evP (Tab.env tab) n 25 [.agg [.int .i64 ya, .int .i64 yb], .agg [.int .i64 za, .int .i64 zb]] = _ := s25 ya yb za zb n (by omega)
    rw [f_add fx fy] at h1
    rw [f_add fy fx, Int.add_comm, Nat.mul_comm] at h2
    rw [f_add fy fz] at h3
    obtain ⟨W1, W2, w1, w2⟩ := f_add3 fx fy fz
    obtain ⟨V1, V2, v1, v2⟩ := f_dist fx fy fz
    have h6 : evP (Tab.env tab) n 27 [.agg [.int .i64 xa, .int .i64 xb], .agg [.int .i64 za, .int .i64 zb]] = _ := s27 xa xb za zb n (by omega)
    have h7 : evP (Tab.env tab) n 27 [.agg [.int .i64 ya, .int .i64 yb], .agg [.int .i64 za, .int .i64 zb]] = _ := s27 ya yb za zb n (by omega)
    rw [f_mul fx fz] at h6
    rw [f_mul fy fz] at h7
    have h4 := s25 (nmN (nm xa xb * dn ya yb + nm ya yb * dn xa xb) (dn xa xb * dn ya yb)) (dnN (nm xa xb * dn ya yb + nm ya yb * dn xa xb) (dn xa xb * dn ya yb)) za zb n (by omega)
    have h5 := s25 xa xb (nmN (nm ya yb * dn za zb + nm za zb * dn ya yb) (dn ya yb * dn za zb)) (dnN (nm ya yb * dn za zb + nm za zb * dn ya yb) (dn ya yb * dn za zb)) n (by omega)
    have h8 := s25 (nmN (nm xa xb * nm za zb) (dn xa xb * dn za zb)) (dnN (nm xa xb * nm za zb) (dn xa xb * dn za zb)) (nmN (nm ya yb * nm za zb) (dn ya yb * dn za zb)) (dnN (nm ya yb * nm za zb) (dn ya yb * dn za zb)) n (by omega)
    have h9 := s27 (nmN (nm xa xb * dn ya yb + nm ya yb * dn xa xb) (dn xa xb * dn ya yb)) (dnN (nm xa xb * dn ya yb + nm ya yb * dn xa xb) (dn xa xb * dn ya yb)) za zb n (by omega)
    rw [w1] at h4
    rw [w2] at h5
    rw [v1] at h8
    rw [v2] at h9
    rw [s6_walk ex1 ex ey1 ey ez1 ez h1 h2 h3 h4 h5 h6 h7 h8 h9]
    exact s6_end hpl fx fy

end Go.Proofs.Aw.Qa
