/-
  SIMPLE, specs 7: the reference's shift.
-/
import Derived.Test.YtkfcancichadgaaSaS6
set_option linter.unusedSimpArgs false
set_option linter.unusedVariables false
namespace Go.Proofs.Aw.Sa
open Go.Proofs

theorem s68 (o m : Int) (s : List UInt8) (u l : List Tree) : Ev E 2 68 [.agg [I o, I m, .str s, .slc u, .slc l]] (.bool (partsN o == (l.length : Int))) :=
  Ev.mk fun n hn => by
    rw [e68, s65 o n (by omega)]
    simp

theorem s77 (o m : Int) (s : List UInt8) (u l : List Tree) : Ev E 3 77 [.agg [I o, I m, .str s, .slc u, .slc l]] (I (bindsN o l.length)) :=
  Ev.mk fun n hn => by
    rw [e77]
    unfold bindsN
    by_cases h : o = 2
    · rw [bif_pos (by simp [h]), s68 o m s u l n (by omega)]
      simp only [Option.bind_some, ok_bool, cond_true, toBool_bool]
      subst h
      rw [show partsN 2 = 1 from rfl]
      by_cases hl : l.length = 1
      · rw [hl]; rfl
      · rw [bif_neg (by simp; omega), if_neg (by simp [hl])]
    · rw [bif_neg (by simp [h]), if_neg (by simp [h])]

mutual
/-- Variables of at most B. -/
def numsLe (B : Int) : Lam → Prop
  | .mk o n _ l => (o = 1 → n ≤ B) ∧ numsLes B l
def numsLes (B : Int) : List Lam → Prop
  | [] => True
  | t :: r => numsLe B t ∧ numsLes B r
end

theorem bindsN_b (o : Int) (l : Nat) : 0 ≤ bindsN o l ∧ bindsN o l ≤ 1 := by unfold bindsN; split <;> omega
theorem lenShifts (d k : Int) : ∀ l : List Lam, (shifts d k l).length = l.length
  | [] => rfl
  | t :: r => by simp [shifts, lenShifts d k r]
theorem openL (t : Lam) : Sh.open (Sh.agg [Sh.int IntKind.i64, Sh.int IntKind.i64, Sh.str, Sh.slc, Sh.slc]) (encL t) = encL t := by
  cases t with
  | mk o m t l => cases t; rfl

mutual
theorem s53 : ∀ (t : Lam) (d k : Int), wL t ≤ 500000000000 → numsLe 1152921504606846976 t → -1099511627776 ≤ d ∧ d ≤ 1099511627776 → 0 ≤ k ∧ k + wL t ≤ 4611686018430387904 →
    Ev E (2 * wL t + 4) 53 [encL t, I d, I k] (encL (shift d k t))
  | .mk o m (.mk s u) l, d, k, h, hm, hd, hk => Ev.mk fun n hn => by
    have hl := len_wLs l
    have hsp := sizeT_pos (.mk s u)
    unfold wL at h hn hk
    unfold numsLe at hm
    have hL := l53 l [] [] n n d k o m s (encTs u) (by omega) (by omega) (by omega) hm.2 hd (by omega) (by simp; omega)
    simp only [List.nil_append, List.length_nil] at hL
    rw [show ((0 : Nat) : Int) = 0 from rfl] at hL
    rw [encL, e53]
    unfold shift
    rw [encL]
    by_cases c1 : o = 1
    · have hm1 := hm.1 c1
      rw [bif_pos (by simp [c1])]
      by_cases c2 : m ≥ 0
      · rw [bif_pos (by exact decide_eq_true c2)]
        by_cases c3 : m ≥ k
        · rw [bif_pos (by exact decide_eq_true c3), w64 (x := m + d) (by omega)]
          by_cases c4 : m + d ≥ k
          · rw [bif_pos (by exact decide_eq_true c4), if_pos ⟨c1, c2, c3, c4⟩]
            exact hL _ _ _ _ _ _ _
          · rw [bif_neg (by exact decide_eq_false c4), if_neg (by omega)]
            exact hL _ _ _ _ _ _ _
        · rw [bif_neg (by exact decide_eq_false c3), if_neg (by omega)]
          exact hL _ _ _ _ _ _ _
      · rw [bif_neg (by exact decide_eq_false c2), if_neg (by omega)]
        exact hL _ _ _ _ _ _ _
    · rw [bif_neg (by simp [c1]), if_neg (by omega)]
      exact hL _ _ _ _ _ _ _
theorem l53 : ∀ (r pre : List Lam) (acc : List Tree) (n q : Nat) (d k o m : Int) (s : List UInt8) (u : List Tree), r.length < q → 2 * wLs r + 5 ≤ n → wLs r ≤ 500000000000 → numsLes 1152921504606846976 r →
    -1099511627776 ≤ d ∧ d ≤ 1099511627776 → 0 ≤ k ∧ k + wLs r + 1 ≤ 4611686018430387904 → acc.length + r.length + (pre ++ r).length ≤ 1500000000000 →
    ∀ (j1 j2 : Int) (j3 : List UInt8) (o' m' : Int) (s' : List UInt8) (u' : List Tree),
    (match acc with
      | [] => L53_0 n q d k (pre.length : Nat) o m s u (encLs (pre ++ r)) j1 j2 j3 o' m' s' u'
      | _ => L53_0b n q d k (pre.length : Nat) o m s u (encLs (pre ++ r)) j1 j2 j3 o' m' s' u' acc) = some (.agg [I o', I m', .str s', .slc u', .slc (acc ++ encLs (shifts d (k + bindsN o (pre ++ r).length) r))])
  | [], pre, acc, n, q, d, k, o, m, s, u, hq, hn, hs, hm, hd, hk, hb => fun j1 j2 j3 o' m' s' u' => by
    obtain ⟨q, rfl⟩ : ∃ k, q = k + 1 := ⟨q - 1, by omega⟩
    cases acc with
    | nil =>
      simp only [show q + 1 = Nat.succ q from rfl]
      rw [l53_0, bif_neg (by rw [lenL]; simp)]
      simp [shifts, encLs]
    | cons a ac =>
      simp only [show q + 1 = Nat.succ q from rfl]
      rw [l53_0b, bif_neg (by rw [lenL]; simp)]
      simp [shifts, encLs]
  | x :: r, pre, acc, n, q, d, k, o, m, s, u, hq, hn, hs, hm, hd, hk, hb => fun j1 j2 j3 o' m' s' u' => by
    obtain ⟨q, rfl⟩ : ∃ k, q = k + 1 := ⟨q - 1, by omega⟩
    simp only [List.length_cons] at hq hb
    have hx := wL_pos x
    simp only [wLs] at hn hs hk
    unfold numsLes at hm
    have hpl : pre.length < (pre ++ x :: r).length := by simp
    have hbn := bindsN_b o (pre ++ x :: r).length
    have h77 := s77 o m s u (encLs (pre ++ x :: r)) n (by omega)
    rw [lenL] at h77
    have h53 := s53 x d (k + bindsN o (pre ++ x :: r).length) (by omega) hm.1 hd (by omega) n (by omega)
    have ih := l53 r (pre ++ [x]) (acc ++ [encL (shift d (k + bindsN o (pre ++ x :: r).length) x)]) n q d k o m s u (by omega) (by omega) (by omega) hm.2 hd (by omega) (by simp at hb ⊢; omega) j1 j2 j3 o' m' s' u'
    simp only [List.append_assoc, List.singleton_append, List.length_append, List.length_singleton] at ih
    have hgoal : acc ++ encLs (shifts d (k + bindsN o (pre ++ x :: r).length) (x :: r)) = acc ++ ([encL (shift d (k + bindsN o (pre ++ x :: r).length) x)] ++ encLs (shifts d (k + bindsN o (pre ++ x :: r).length) r)) := by
      simp [shifts, encLs]
    rw [hgoal]
    have hlim : Nat.ble ((acc.length + List.length [encL (shift d (k + bindsN o (pre ++ x :: r).length) x)]) * 80) 140737488355328 = true := by
      rw [Nat.ble_eq]; simp; omega
    cases acc with
    | nil =>
      simp only [show q + 1 = Nat.succ q from rfl]
      rw [l53_0, bif_pos (by rw [lenL]; exact decide_eq_true (by omega)), bif_pos (by exact decide_eq_true (by omega)), Int.toNat_natCast, nthL, Option.bind_some, okL_sh, cond_true, h77]
      simp only [Option.bind_some, ok_int, cond_true, toInt_int]
      rw [lookL, w64 (x := k + bindsN o (pre ++ x :: r).length) (by omega), h53]
      simp only [Option.bind_some, okL_sh, cond_true]
      rw [lookL, w64 (by simp at hb; omega)]
      simpa using ih
    | cons a ac =>
      simp only [show q + 1 = Nat.succ q from rfl]
      rw [l53_0b, bif_pos (by rw [lenL]; exact decide_eq_true (by omega)), bif_pos (by exact decide_eq_true (by omega)), Int.toNat_natCast, nthL, Option.bind_some, okL_sh, cond_true, h77]
      simp only [Option.bind_some, ok_int, cond_true, toInt_int]
      rw [lookL, w64 (x := k + bindsN o (pre ++ x :: r).length) (by omega), h53]
      simp only [Option.bind_some, okL_sh, cond_true, openL]
      rw [bif_pos (by rw [hlim]; rfl), w64 (by simp at hb; omega)]
      simpa using ih
end

end Go.Proofs.Aw.Sa
