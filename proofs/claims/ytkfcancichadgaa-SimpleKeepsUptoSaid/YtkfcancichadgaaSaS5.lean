/-
  SIMPLE, specs 5: what is a term at all, the reference's; valid terms.
-/
import Derived.Test.YtkfcancichadgaaSaS4
set_option linter.unusedSimpArgs false
set_option linter.unusedVariables false
namespace Go.Proofs.Aw.Sa
open Go.Proofs

mutual
theorem s45 : ∀ t : Lam, wL t ≤ 500000000000 → Ev E (2 * wL t + 4) 45 [encL t] (.bool (shaped t))
  | .mk o m (.mk s u) l, h => Ev.mk fun n hn => by
    have hl := len_wLs l
    have hsp := sizeT_pos (.mk s u)
    unfold wL at h hn
    have h65 := s65 o n (by omega)
    have h66 := s66 (.mk s u) (by omega) n (by omega)
    rw [encT] at h66
    have hL := l45 l [] n n o m s (encTs u) (by omega) (by omega) (by omega) (by simp; omega)
    simp only [List.nil_append, List.length_nil] at hL
    rw [show ((0 : Nat) : Int) = 0 from rfl] at hL
    rw [encL, e45]
    simp only [h65, h66, hL, Option.bind_some, ok_bool, ok_int, cond_true, toBool_bool, toInt_int, lenL]
    have tops : (bif o == 1 then bif decide (m < 0) then some (Tree.bool false) else bif decide (m > 200) then some (Tree.bool false) else some (Tree.bool (shapeds l))
        else bif o == 4 then bif decide (m < 0) then some (Tree.bool false) else bif decide (m > 1000) then some (Tree.bool false) else some (Tree.bool (shapeds l))
        else bif decide (m < 0) then some (Tree.bool false) else bif decide (m > 0) then some (Tree.bool false) else some (Tree.bool (shapeds l))) =
        some (Tree.bool (decide (0 ≤ m) && decide (m ≤ topN o) && shapeds l)) := by
      have core : ∀ top : Int, (bif decide (m < 0) then some (Tree.bool false) else bif decide (m > top) then some (Tree.bool false) else some (Tree.bool (shapeds l))) = some (Tree.bool (decide (0 ≤ m) && decide (m ≤ top) && shapeds l)) := by
        intro top
        by_cases c1 : m < 0
        · rw [bif_pos (by exact decide_eq_true c1), decide_eq_false (show ¬ 0 ≤ m by omega)]; simp
        · rw [bif_neg (by exact decide_eq_false c1), decide_eq_true (show 0 ≤ m by omega), Bool.true_and]
          by_cases c2 : m > top
          · rw [bif_pos (by exact decide_eq_true c2), decide_eq_false (show ¬ m ≤ top by omega)]; simp
          · rw [bif_neg (by exact decide_eq_false c2), decide_eq_true (show m ≤ top by omega), Bool.true_and]
      unfold topN
      by_cases c1 : o = 1
      · rw [bif_pos (by simp [c1]), if_pos c1]; exact core 200
      · rw [bif_neg (by simp [c1]), if_neg c1]
        by_cases c4 : o = 4
        · rw [bif_pos (by simp [c4]), if_pos c4]; exact core 1000
        · rw [bif_neg (by simp [c4]), if_neg c4]; exact core 0
    rw [tops]
    unfold shaped
    by_cases hp : (l.length : Int) = partsN o
    · rw [bif_neg (by simp [hp]), bif_neg (by exact decide_eq_false (by omega)), show ((l.length : Int) == partsN o) = true by simp [hp], Bool.true_and]
      by_cases c3 : o = 2
      · rw [bif_pos (by simp [c3]), if_pos c3]
        cases validT (.mk s u) with
        | false => simp
        | true => rw [Bool.not_true, cond_false, bif_neg (by simp [c3])]; simp
      · rw [bif_neg (by simp [c3]), bif_pos (by simp [c3]), if_neg c3]
        unfold zeroT
        rw [lenT]
        cases s with
        | cons => rw [bif_pos (by rfl)]; simp [Ty.name]
        | nil =>
          rw [bif_neg (by rfl)]
          cases u with
          | nil => rw [bif_neg (by exact decide_eq_false (by simp))]; simp [Ty.name, Ty.parts]
          | cons => rw [bif_pos (by exact decide_eq_true (by simp))]; simp [Ty.name, Ty.parts]
    · rw [bif_pos (by simp; omega), show ((l.length : Int) == partsN o) = false by simp [hp]]
      simp
theorem l45 : ∀ (r pre : List Lam) (n q : Nat) (o m : Int) (s : List UInt8) (u : List Tree), r.length < q → 2 * wLs r + 4 ≤ n → wLs r ≤ 500000000000 → (pre ++ r).length ≤ 1000000000000 →
    L45_0 n q (pre.length : Nat) o m s u (encLs (pre ++ r)) = some (.bool (shapeds r))
  | [], pre, n, q, o, m, s, u, hq, hn, hs, hb => by
    obtain ⟨q, rfl⟩ : ∃ k, q = k + 1 := ⟨q - 1, by omega⟩
    rw [show q + 1 = Nat.succ q from rfl, l45_0, bif_neg (by rw [lenL]; simp)]
    rfl
  | x :: r, pre, n, q, o, m, s, u, hq, hn, hs, hb => by
    obtain ⟨q, rfl⟩ : ∃ k, q = k + 1 := ⟨q - 1, by omega⟩
    simp only [List.length_cons] at hq
    have hx := wL_pos x
    simp only [wLs] at hn hs
    have hpl : pre.length < (pre ++ x :: r).length := by simp
    rw [show q + 1 = Nat.succ q from rfl, l45_0, bif_pos (by rw [lenL]; exact decide_eq_true (by omega)), bif_pos (by exact decide_eq_true (by omega)), Int.toNat_natCast, nthL, Option.bind_some, okL_sh, cond_true, lookL, s45 x (by omega) n (by omega)]
    simp only [Option.bind_some, ok_bool, cond_true, toBool_bool, shapeds]
    cases hx2 : shaped x with
    | false => simp
    | true =>
      have ih := l45 r (pre ++ [x]) n q o m s u (by omega) (by omega) (by omega) (by simp at hb ⊢; omega)
      simp only [List.append_assoc, List.singleton_append, List.length_append, List.length_singleton] at ih
      rw [w64 (by simp at hb; omega)]
      simpa using ih
end

mutual
theorem sizeL_wL : ∀ t : Lam, sizeL t ≤ wL t
  | .mk _ _ _ l => by unfold sizeL wL; have := sizeLs_wLs l; omega
theorem sizeLs_wLs : ∀ l : List Lam, sizeLs l ≤ wLs l
  | [] => by simp [sizeLs, wLs]
  | t :: r => by have := sizeL_wL t; have := sizeLs_wLs r; unfold sizeLs wLs; omega
end

theorem s30 (t : Lam) (ht : wL t ≤ 500000000000) : Ev E (4 * wL t + 5) 30 [encL t] (.bool (validL t)) :=
  Ev.mk fun n hn => by
    have hw := sizeL_wL t
    have h1 := s48 t (by omega) n (by omega)
    have h2 := s51 t ht n (by omega)
    cases t with
    | mk o m t l =>
    cases t with
    | mk s u =>
    rw [encL] at h1 h2 ⊢
    rw [e30, h1]
    simp only [Option.bind_some, ok_tup, oks_cons, ok_int, oks_nil, Bool.and_true, cond_true, tupl_tup, List.headD_cons, List.tail_cons, toInt_int]
    unfold validL
    by_cases c1 : sizeL (.mk o m (.mk s u) l) ≤ 300
    · rw [bif_pos (by exact decide_eq_true (by omega)), decide_eq_true c1]
      by_cases c2 : depthL (.mk o m (.mk s u) l) ≤ 60
      · rw [bif_pos (by exact decide_eq_true (by omega)), decide_eq_true c2, h2]
        simp
      · rw [bif_neg (by exact decide_eq_false (by omega)), decide_eq_false c2]
        simp
    · rw [bif_neg (by exact decide_eq_false (by omega)), decide_eq_false c1]
      simp

theorem s18 (t : Lam) (ht : wL t ≤ 500000000000) : Ev E (4 * wL t + 6) 18 [encL t] (.bool (validL t)) :=
  Ev.mk fun n hn => by
    have hw := sizeL_wL t
    have h1 := s38 t (by omega) n (by omega)
    have h2 := s45 t ht n (by omega)
    cases t with
    | mk o m t l =>
    cases t with
    | mk s u =>
    rw [encL] at h1 h2 ⊢
    rw [e18, h1]
    simp only [Option.bind_some, ok_tup, oks_cons, ok_int, oks_nil, Bool.and_true, cond_true, tupl_tup, List.headD_cons, List.tail_cons, toInt_int]
    unfold validL
    by_cases c1 : sizeL (.mk o m (.mk s u) l) ≤ 300
    · rw [bif_pos (by exact decide_eq_true (by omega)), decide_eq_true c1]
      by_cases c2 : depthL (.mk o m (.mk s u) l) ≤ 60
      · rw [bif_pos (by exact decide_eq_true (by omega)), decide_eq_true c2, h2]
        simp
      · rw [bif_neg (by exact decide_eq_false (by omega)), decide_eq_false c2]
        simp
    · rw [bif_neg (by exact decide_eq_false (by omega)), decide_eq_false c1]
      simp

end Go.Proofs.Aw.Sa
