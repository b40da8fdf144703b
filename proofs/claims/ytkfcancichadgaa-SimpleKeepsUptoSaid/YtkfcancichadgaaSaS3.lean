/-
  SIMPLE, specs 3: equal types and terms, the program's and the reference's.
-/
import Derived.Test.YtkfcancichadgaaSaS2
import Derived.Test.YtkfcancichadgaaSaE2
set_option linter.unusedSimpArgs false
set_option linter.unusedVariables false
namespace Go.Proofs.Aw.Sa
open Go.Proofs

mutual
/-- Nodes, those of types counted. -/
def wL : Lam → Nat
  | .mk _ _ t l => 1 + sizeT t + wLs l
def wLs : List Lam → Nat
  | [] => 0
  | t :: r => wL t + wLs r
end

theorem wL_pos (t : Lam) : 2 ≤ wL t := by
  cases t with
  | mk o n t l => have := sizeT_pos t; unfold wL; omega
theorem len_wLs : ∀ l : List Lam, l.length ≤ wLs l
  | [] => by simp [wLs]
  | t :: r => by have := len_wLs r; have := wL_pos t; simp [wLs]; omega

theorem eqTs_len {l l' : List Ty} (h : l.length ≠ l'.length) : eqTs l l' = false := by
  cases hq : eqTs l l' with
  | false => rfl
  | true => exact absurd (congrArg List.length ((eqTs_iff l l').1 hq)) h
theorem eqLs_len {l l' : List Lam} (h : l.length ≠ l'.length) : eqLs l l' = false := by
  cases hq : eqLs l l' with
  | false => rfl
  | true => exact absurd (congrArg List.length ((eqLs_iff l l').1 hq)) h

mutual
/-- Equality of types, the program's. -/
theorem s56 : ∀ a b : Ty, sizeT a ≤ 500000000000 → Ev E (2 * sizeT a + 3) 56 [encT a, encT b] (.bool (eqT a b))
  | .mk s l, .mk s' l', h => Ev.mk fun n hn => by
    have hl := len_sizeTs l
    unfold sizeT at h hn
    rw [encT, encT, e56]
    unfold eqT
    by_cases hs : s = s'
    · rw [bif_pos (by simp [hs])]
      have h78 : Ev E (2 * sizeTs l + 4) 78 [.slc (encTs l), .slc (encTs l'), .fn 56 [] []] (.bool (eqTs l l')) := Ev.mk fun m hm => by
        rw [e78]
        by_cases hll : l.length = l'.length
        · have e := l78 l l' [] [] m m (by omega) (by omega) (by omega) rfl hll (by simp; omega)
          rw [bif_neg (by rw [lenT, lenT, hll]; simp)]
          simp only [List.nil_append, List.length_nil] at e
          rw [lenT, show (0 : Int) = ((0 : Nat) : Int) from rfl, e]
        · rw [bif_pos (by rw [lenT, lenT]; simp; omega), eqTs_len hll]
      rw [h78 n (by omega)]
      simp [hs]
    · rw [bif_neg (by simp [hs])]
      simp [hs]
theorem l78 : ∀ (r r' pre pre' : List Ty) (n q : Nat), r.length < q → 2 * sizeTs r + 3 ≤ n → sizeTs r ≤ 500000000000 → pre.length = pre'.length → r.length = r'.length → (pre ++ r).length ≤ 1000000000000 →
    L78_0 n q (encTs (pre' ++ r')) 56 [] [] (encTs (pre ++ r)) ((pre ++ r).length : Nat) (pre.length : Nat) = some (.bool (eqTs r r'))
  | [], [], pre, pre', n, q, hq, hn, hs, hp, hr, hb => by
    obtain ⟨q, rfl⟩ : ∃ k, q = k + 1 := ⟨q - 1, by omega⟩
    rw [show q + 1 = Nat.succ q from rfl, l78_0, bif_neg (by simp)]
    rfl
  | [], _ :: _, _, _, _, _, _, _, _, _, hr, _ => by simp at hr
  | _ :: _, [], _, _, _, _, _, _, _, _, hr, _ => by simp at hr
  | x :: r, x' :: r', pre, pre', n, q, hq, hn, hs, hp, hr, hb => by
    obtain ⟨q, rfl⟩ : ∃ k, q = k + 1 := ⟨q - 1, by omega⟩
    simp only [List.length_cons] at hq hr
    have hx := sizeT_pos x
    simp only [sizeTs] at hn hs
    have hpl : pre.length < (pre ++ x :: r).length := by simp
    have n2 : nth (encTs (pre' ++ x' :: r')) pre.length = some (encT x') := by rw [hp]; exact nthT pre' x' r'
    rw [show q + 1 = Nat.succ q from rfl, l78_0, bif_pos (by exact decide_eq_true (by omega)), bif_pos (by exact decide_eq_true (by omega)), Int.toNat_natCast, nthT, Option.bind_some, okT_sh, cond_true, bif_pos (by exact decide_eq_true (by omega)), n2, Option.bind_some, okT_sh, cond_true, lookT, lookT]
    rw [show ([] : List Tree) ++ [encT x, encT x'] ++ [] = [encT x, encT x'] from rfl, s56 x x' (by omega) n (by omega)]
    simp only [Option.bind_some, ok_bool, cond_true, toBool_bool, eqTs]
    cases hxx : eqT x x' with
    | false => simp
    | true =>
      have ih := l78 r r' (pre ++ [x]) (pre' ++ [x']) n q (by omega) (by omega) (by omega) (by simp [hp]) (by omega) (by simp at hb ⊢; omega)
      simp only [List.append_assoc, List.singleton_append, List.length_append, List.length_singleton] at ih
      rw [w64 (by simp at hb; omega)]
      simpa using ih
end

mutual
/-- Equality of terms, the reference's. -/
theorem s22 : ∀ a b : Lam, wL a ≤ 500000000000 → Ev E (2 * wL a + 3) 22 [encL a, encL b] (.bool (eqL a b))
  | .mk o m (.mk s u) l, .mk o' m' (.mk s' u') l', h => Ev.mk fun n hn => by
    have hl := len_wLs l
    unfold wL at h hn
    have h16 := s16 (.mk s u) (.mk s' u') (by omega) n (by omega)
    rw [encT, encT] at h16
    rw [encL, encL, e22]
    unfold eqL
    by_cases ho : o = o'
    · rw [bif_neg (by simp [ho])]
      by_cases hm : m = m'
      · rw [bif_neg (by simp [hm]), h16]
        simp only [Option.bind_some, ok_bool, cond_true, toBool_bool]
        cases ht : eqT (.mk s u) (.mk s' u') with
        | false => simp
        | true =>
          rw [Bool.not_true, cond_false]
          by_cases hll : l.length = l'.length
          · have e := l22 l l' [] [] n n o m s (encTs u) o' m' s' (encTs u') (by omega) (by omega) (by omega) rfl hll (by simp; omega)
            rw [bif_neg (by rw [lenL, lenL, hll]; simp)]
            simp only [List.nil_append, List.length_nil] at e
            rw [show (0 : Int) = ((0 : Nat) : Int) from rfl, e]
            simp [ho, hm]
          · rw [bif_pos (by rw [lenL, lenL]; simp; omega), eqLs_len hll]
            simp
      · rw [bif_pos (by simp [hm])]
        simp [hm]
    · rw [bif_pos (by simp [ho])]
      simp [ho]
theorem l22 : ∀ (r r' pre pre' : List Lam) (n q : Nat) (o m : Int) (s : List UInt8) (u : List Tree) (o' m' : Int) (s' : List UInt8) (u' : List Tree), r.length < q → 2 * wLs r + 3 ≤ n → wLs r ≤ 500000000000 → pre.length = pre'.length → r.length = r'.length → (pre ++ r).length ≤ 1000000000000 →
    L22_0 n q (pre.length : Nat) o m s u (encLs (pre ++ r)) o' m' s' u' (encLs (pre' ++ r')) = some (.bool (eqLs r r'))
  | [], [], pre, pre', n, q, o, m, s, u, o', m', s', u', hq, hn, hs, hp, hr, hb => by
    obtain ⟨q, rfl⟩ : ∃ k, q = k + 1 := ⟨q - 1, by omega⟩
    rw [show q + 1 = Nat.succ q from rfl, l22_0, bif_neg (by rw [lenL]; simp)]
    rfl
  | [], _ :: _, _, _, _, _, _, _, _, _, _, _, _, _, _, _, _, _, hr, _ => by simp at hr
  | _ :: _, [], _, _, _, _, _, _, _, _, _, _, _, _, _, _, _, _, hr, _ => by simp at hr
  | x :: r, x' :: r', pre, pre', n, q, o, m, s, u, o', m', s', u', hq, hn, hs, hp, hr, hb => by
    obtain ⟨q, rfl⟩ : ∃ k, q = k + 1 := ⟨q - 1, by omega⟩
    simp only [List.length_cons] at hq hr
    have hx := wL_pos x
    simp only [wLs] at hn hs
    have hpl : pre.length < (pre ++ x :: r).length := by simp
    have n2 : nth (encLs (pre' ++ x' :: r')) pre.length = some (encL x') := by rw [hp]; exact nthL pre' x' r'
    rw [show q + 1 = Nat.succ q from rfl, l22_0, bif_pos (by rw [lenL]; exact decide_eq_true (by omega)), bif_pos (by exact decide_eq_true (by omega)), Int.toNat_natCast, nthL, Option.bind_some, okL_sh, cond_true, bif_pos (by exact decide_eq_true (by omega)), n2, Option.bind_some, okL_sh, cond_true, lookL, lookL,
      s22 x x' (by omega) n (by omega)]
    simp only [Option.bind_some, ok_bool, cond_true, toBool_bool, eqLs]
    cases hxx : eqL x x' with
    | false => simp
    | true =>
      have ih := l22 r r' (pre ++ [x]) (pre' ++ [x']) n q o m s u o' m' s' u' (by omega) (by omega) (by omega) (by simp [hp]) (by omega) (by simp at hb ⊢; omega)
      simp only [List.append_assoc, List.singleton_append, List.length_append, List.length_singleton] at ih
      rw [w64 (by simp at hb; omega)]
      simpa using ih
end

mutual
/-- Equality of terms, the program's. -/
theorem s36 : ∀ a b : Lam, wL a ≤ 500000000000 → Ev E (2 * wL a + 4) 36 [encL a, encL b] (.bool (eqL a b))
  | .mk o m (.mk s u) l, .mk o' m' (.mk s' u') l', h => Ev.mk fun n hn => by
    have hl := len_wLs l
    unfold wL at h hn
    have h56 := s56 (.mk s u) (.mk s' u') (by omega) n (by omega)
    rw [encT, encT] at h56
    rw [encL, encL, e36]
    unfold eqL
    by_cases ho : o = o'
    · rw [bif_pos (by simp [ho])]
      by_cases hm : m = m'
      · rw [bif_pos (by simp [hm]), h56]
        simp only [Option.bind_some, ok_bool, cond_true, toBool_bool]
        cases ht : eqT (.mk s u) (.mk s' u') with
        | false => simp
        | true =>
          have h57 : Ev E (2 * wLs l + 5) 57 [.slc (encLs l), .slc (encLs l'), .fn 36 [] []] (.bool (eqLs l l')) := Ev.mk fun k hk => by
            rw [e57]
            by_cases hll : l.length = l'.length
            · have e := l57 l l' [] [] k k (by omega) (by omega) (by omega) rfl hll (by simp; omega)
              rw [bif_neg (by rw [lenL, lenL, hll]; simp)]
              simp only [List.nil_append, List.length_nil] at e
              rw [lenL, show (0 : Int) = ((0 : Nat) : Int) from rfl, e]
            · rw [bif_pos (by rw [lenL, lenL]; simp; omega), eqLs_len hll]
          rw [cond_true, h57 n (by omega)]
          simp [ho, hm]
      · rw [bif_neg (by simp [hm])]
        simp [hm]
    · rw [bif_neg (by simp [ho])]
      simp [ho]
theorem l57 : ∀ (r r' pre pre' : List Lam) (n q : Nat), r.length < q → 2 * wLs r + 4 ≤ n → wLs r ≤ 500000000000 → pre.length = pre'.length → r.length = r'.length → (pre ++ r).length ≤ 1000000000000 →
    L57_0 n q (encLs (pre' ++ r')) 36 [] [] (encLs (pre ++ r)) ((pre ++ r).length : Nat) (pre.length : Nat) = some (.bool (eqLs r r'))
  | [], [], pre, pre', n, q, hq, hn, hs, hp, hr, hb => by
    obtain ⟨q, rfl⟩ : ∃ k, q = k + 1 := ⟨q - 1, by omega⟩
    rw [show q + 1 = Nat.succ q from rfl, l57_0, bif_neg (by simp)]
    rfl
  | [], _ :: _, _, _, _, _, _, _, _, _, hr, _ => by simp at hr
  | _ :: _, [], _, _, _, _, _, _, _, _, hr, _ => by simp at hr
  | x :: r, x' :: r', pre, pre', n, q, hq, hn, hs, hp, hr, hb => by
    obtain ⟨q, rfl⟩ : ∃ k, q = k + 1 := ⟨q - 1, by omega⟩
    simp only [List.length_cons] at hq hr
    have hx := wL_pos x
    simp only [wLs] at hn hs
    have hpl : pre.length < (pre ++ x :: r).length := by simp
    have n2 : nth (encLs (pre' ++ x' :: r')) pre.length = some (encL x') := by rw [hp]; exact nthL pre' x' r'
    rw [show q + 1 = Nat.succ q from rfl, l57_0, bif_pos (by exact decide_eq_true (by omega)), bif_pos (by exact decide_eq_true (by omega)), Int.toNat_natCast, nthL, Option.bind_some, okL_sh, cond_true, bif_pos (by exact decide_eq_true (by omega)), n2, Option.bind_some, okL_sh, cond_true, lookL, lookL]
    rw [show ([] : List Tree) ++ [encL x, encL x'] ++ [] = [encL x, encL x'] from rfl, s36 x x' (by omega) n (by omega)]
    simp only [Option.bind_some, ok_bool, cond_true, toBool_bool, eqLs]
    cases hxx : eqL x x' with
    | false => simp
    | true =>
      have ih := l57 r r' (pre ++ [x]) (pre' ++ [x']) n q (by omega) (by omega) (by omega) (by simp [hp]) (by omega) (by simp at hb ⊢; omega)
      simp only [List.append_assoc, List.singleton_append, List.length_append, List.length_singleton] at ih
      rw [w64 (by simp at hb; omega)]
      simpa using ih
end

end Go.Proofs.Aw.Sa
