/-
  SIMPLE, specs 2: types: well formed, valid, equal.
-/
import Derived.Test.YtkfcancichadgaaSaS1
set_option linter.unusedSimpArgs false
set_option linter.unusedVariables false
namespace Go.Proofs.Aw.Sa
open Go.Proofs

theorem s81 (t : Ty) : Ev E (sizeT t + 1) 81 [encT t] (.bool (formed t)) := by
  cases t with
  | mk s l =>
  exact Ev.mk fun n hn => by
    rw [encT, e81]
    by_cases h0 : s = sNat
    · subst h0
      rw [bif_pos (by rfl)]
      unfold formed
      rw [if_pos rfl]
      cases l <;> simp [encTs]
      omega
    rw [bif_neg (by simpa [sNat] using h0)]
    unfold formed
    rw [if_neg h0]
    by_cases h1 : s = sTo
    · rw [bif_pos (by rw [h1]; rfl), if_pos (.inl h1)]
      clear h0 h1
      rcases l with _ | ⟨a, _ | ⟨b, _ | ⟨c, r⟩⟩⟩
      · rw [bif_neg (by rfl)]; simp
      · rw [bif_neg (by rfl)]; simp
      · have ha := s81 a n (by simp only [sizeT, sizeTs] at hn; omega)
        have hb := s81 b n (by simp only [sizeT, sizeTs] at hn; omega)
        rw [bif_pos (by rfl)]
        simp only [encTs, nth, show Int.toNat 0 = 0 from rfl, show Int.toNat 1 = 1 from rfl, Option.bind_some, okT_sh, cond_true, lookT, ha, hb, ok_bool, toBool_bool, formedTs]
        cases formed a <;> simp
      · rw [bif_neg (by simp only [encTs, List.length_cons]; simp; omega)]; simp
    rw [bif_neg (by simpa [sTo] using h1)]
    by_cases h2 : s = sPair
    · rw [bif_pos (by rw [h2]; rfl), if_pos (.inr h2)]
      clear h0 h1 h2
      rcases l with _ | ⟨a, _ | ⟨b, _ | ⟨c, r⟩⟩⟩
      · rw [bif_neg (by rfl)]; simp
      · rw [bif_neg (by rfl)]; simp
      · have ha := s81 a n (by simp only [sizeT, sizeTs] at hn; omega)
        have hb := s81 b n (by simp only [sizeT, sizeTs] at hn; omega)
        rw [bif_pos (by rfl)]
        simp only [encTs, nth, show Int.toNat 0 = 0 from rfl, show Int.toNat 1 = 1 from rfl, Option.bind_some, okT_sh, cond_true, lookT, ha, hb, ok_bool, toBool_bool, formedTs]
        cases formed a <;> simp
      · rw [bif_neg (by simp only [encTs, List.length_cons]; simp; omega)]; simp
    rw [bif_neg (by simpa [sPair] using h2), if_neg (by simp [h1, h2])]
termination_by sizeT t
decreasing_by all_goals simp only [sizeT, sizeTs]; omega

theorem s85 (t : Ty) : Ev E (sizeT t + 1) 85 [encT t] (.bool (formed t)) := by
  cases t with
  | mk s l =>
  exact Ev.mk fun n hn => by
    rw [encT, e85]
    by_cases h0 : s = sNat
    · subst h0
      rw [bif_pos (by rfl)]
      unfold formed
      rw [if_pos rfl]
      cases l <;> simp [encTs]
      omega
    rw [bif_neg (by simpa [sNat] using h0)]
    unfold formed
    rw [if_neg h0]
    by_cases h1 : s = sTo
    · rw [bif_pos (by rw [h1]; rfl), if_pos (.inl h1)]
      clear h0 h1
      rcases l with _ | ⟨a, _ | ⟨b, _ | ⟨c, r⟩⟩⟩
      · rw [bif_neg (by rfl)]; simp
      · rw [bif_neg (by rfl)]; simp
      · have ha := s85 a n (by simp only [sizeT, sizeTs] at hn; omega)
        have hb := s85 b n (by simp only [sizeT, sizeTs] at hn; omega)
        rw [bif_pos (by rfl)]
        simp only [encTs, nth, show Int.toNat 0 = 0 from rfl, show Int.toNat 1 = 1 from rfl, Option.bind_some, okT_sh, cond_true, lookT, ha, hb, ok_bool, toBool_bool, formedTs]
        cases formed a <;> simp
      · rw [bif_neg (by simp only [encTs, List.length_cons]; simp; omega)]; simp
    rw [bif_neg (by simpa [sTo] using h1)]
    by_cases h2 : s = sPair
    · rw [bif_pos (by rw [h2]; rfl), if_pos (.inr h2)]
      clear h0 h1 h2
      rcases l with _ | ⟨a, _ | ⟨b, _ | ⟨c, r⟩⟩⟩
      · rw [bif_neg (by rfl)]; simp
      · rw [bif_neg (by rfl)]; simp
      · have ha := s85 a n (by simp only [sizeT, sizeTs] at hn; omega)
        have hb := s85 b n (by simp only [sizeT, sizeTs] at hn; omega)
        rw [bif_pos (by rfl)]
        simp only [encTs, nth, show Int.toNat 0 = 0 from rfl, show Int.toNat 1 = 1 from rfl, Option.bind_some, okT_sh, cond_true, lookT, ha, hb, ok_bool, toBool_bool, formedTs]
        cases formed a <;> simp
      · rw [bif_neg (by simp only [encTs, List.length_cons]; simp; omega)]; simp
    rw [bif_neg (by simpa [sPair] using h2), if_neg (by simp [h1, h2])]
termination_by sizeT t
decreasing_by all_goals simp only [sizeT, sizeTs]; omega

theorem s60 (t : Ty) (ht : sizeT t ≤ 500000000000) : Ev E (2 * sizeT t + 3) 60 [encT t] (.bool (validT t)) :=
  Ev.mk fun n hn => by
    have h1 := s80 t ht n (by omega)
    have h2 := s81 t n (by omega)
    cases t with
    | mk s l =>
    rw [encT] at h1 h2 ⊢
    rw [e60, h1]
    simp only [Option.bind_some, ok_tup, oks_cons, ok_int, oks_nil, Bool.and_true, cond_true, tupl_tup, List.headD_cons, List.tail_cons, toInt_int]
    unfold validT
    by_cases c1 : sizeT (.mk s l) ≤ 60
    · rw [bif_pos (by exact decide_eq_true (by omega)), decide_eq_true c1]
      by_cases c2 : depthT (.mk s l) ≤ 12
      · rw [bif_pos (by exact decide_eq_true (by omega)), decide_eq_true c2, h2]
        simp
      · rw [bif_neg (by exact decide_eq_false (by omega)), decide_eq_false c2]
        simp
    · rw [bif_neg (by exact decide_eq_false (by omega)), decide_eq_false c1]
      simp

theorem s66 (t : Ty) (ht : sizeT t ≤ 500000000000) : Ev E (2 * sizeT t + 3) 66 [encT t] (.bool (validT t)) :=
  Ev.mk fun n hn => by
    have h1 := s84 t ht n (by omega)
    have h2 := s85 t n (by omega)
    cases t with
    | mk s l =>
    rw [encT] at h1 h2 ⊢
    rw [e66, h1]
    simp only [Option.bind_some, ok_tup, oks_cons, ok_int, oks_nil, Bool.and_true, cond_true, tupl_tup, List.headD_cons, List.tail_cons, toInt_int]
    unfold validT
    by_cases c1 : sizeT (.mk s l) ≤ 60
    · rw [bif_pos (by exact decide_eq_true (by omega)), decide_eq_true c1]
      by_cases c2 : depthT (.mk s l) ≤ 12
      · rw [bif_pos (by exact decide_eq_true (by omega)), decide_eq_true c2, h2]
        simp
      · rw [bif_neg (by exact decide_eq_false (by omega)), decide_eq_false c2]
        simp
    · rw [bif_neg (by exact decide_eq_false (by omega)), decide_eq_false c1]
      simp

mutual
/-- Equality of types, the reference's. -/
theorem s16 : ∀ a b : Ty, sizeT a ≤ 500000000000 → Ev E (2 * sizeT a + 2) 16 [encT a, encT b] (.bool (eqT a b))
  | .mk s l, .mk s' l', h => Ev.mk fun n hn => by
    have hl := len_sizeTs l
    unfold sizeT at h hn
    rw [encT, encT, e16]
    unfold eqT
    by_cases hs : s = s'
    · rw [bif_neg (by simp [hs])]
      by_cases hll : l.length = l'.length
      · have e := l16 l l' [] [] n n s s' (by omega) (by omega) (by omega) rfl hll (by simp; omega)
        rw [bif_neg (by rw [lenT, lenT, hll]; simp)]
        simp only [List.nil_append, List.length_nil] at e
        rw [show (0 : Int) = ((0 : Nat) : Int) from rfl, e]
        simp [hs]
      · have : eqTs l l' = false := by
          cases hq : eqTs l l' with
          | false => rfl
          | true => exact absurd (congrArg List.length ((eqTs_iff l l').1 hq)) hll
        rw [bif_pos (by rw [lenT, lenT]; simp; omega), this]
        simp
    · rw [bif_pos (by simp [hs])]
      simp [hs]
theorem l16 : ∀ (r r' pre pre' : List Ty) (n q : Nat) (s s' : List UInt8), r.length < q → 2 * sizeTs r + 2 ≤ n → sizeTs r ≤ 500000000000 → pre.length = pre'.length → r.length = r'.length → (pre ++ r).length ≤ 1000000000000 →
    L16_0 n q (pre.length : Nat) s (encTs (pre ++ r)) s' (encTs (pre' ++ r')) = some (.bool (eqTs r r'))
  | [], [], pre, pre', n, q, s, s', hq, hn, hs, hp, hr, hb => by
    obtain ⟨q, rfl⟩ : ∃ k, q = k + 1 := ⟨q - 1, by omega⟩
    rw [show q + 1 = Nat.succ q from rfl, l16_0, bif_neg (by rw [lenT]; simp)]
    rfl
  | [], _ :: _, _, _, _, _, _, _, _, _, _, _, hr, _ => by simp at hr
  | _ :: _, [], _, _, _, _, _, _, _, _, _, _, hr, _ => by simp at hr
  | x :: r, x' :: r', pre, pre', n, q, s, s', hq, hn, hs, hp, hr, hb => by
    obtain ⟨q, rfl⟩ : ∃ k, q = k + 1 := ⟨q - 1, by omega⟩
    simp only [List.length_cons] at hq hr
    have hx := sizeT_pos x
    simp only [sizeTs] at hn hs
    have hpl : pre.length < (pre ++ x :: r).length := by simp
    have n2 : nth (encTs (pre' ++ x' :: r')) pre.length = some (encT x') := by rw [hp]; exact nthT pre' x' r'
    rw [show q + 1 = Nat.succ q from rfl, l16_0, bif_pos (by rw [lenT]; exact decide_eq_true (by omega)), bif_pos (by exact decide_eq_true (by omega)), Int.toNat_natCast, nthT, Option.bind_some, okT_sh, cond_true, bif_pos (by exact decide_eq_true (by omega)), n2, Option.bind_some, okT_sh, cond_true, lookT, lookT,
      s16 x x' (by omega) n (by omega)]
    simp only [Option.bind_some, ok_bool, cond_true, toBool_bool, eqTs]
    cases hxx : eqT x x' with
    | false => simp
    | true =>
      have ih := l16 r r' (pre ++ [x]) (pre' ++ [x']) n q s s' (by omega) (by omega) (by omega) (by simp [hp]) (by omega) (by simp at hb ⊢; omega)
      simp only [List.append_assoc, List.singleton_append, List.length_append, List.length_singleton] at ih
      rw [w64 (by simp at hb; omega)]
      simpa using ih
end

end Go.Proofs.Aw.Sa
