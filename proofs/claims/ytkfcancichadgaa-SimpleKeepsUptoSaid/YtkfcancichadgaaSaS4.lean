/-
  SIMPLE, specs 4: what is a term at all.
-/
import Derived.Test.YtkfcancichadgaaSaS3
set_option linter.unusedSimpArgs false
set_option linter.unusedVariables false
namespace Go.Proofs.Aw.Sa
open Go.Proofs

theorem s73 (o : Int) : Ev E 1 73 [I o] (I (partsN o)) :=
  Ev.mk fun n _ => by
    rw [e73]
    unfold partsN
    by_cases h1 : o = 1
    · subst h1; rfl
    by_cases h4 : o = 4
    · subst h4; rfl
    by_cases h2 : o = 2
    · subst h2; rfl
    by_cases h5 : o = 5
    · subst h5; rfl
    by_cases h8 : o = 8
    · subst h8; rfl
    by_cases h9 : o = 9
    · subst h9; rfl
    by_cases h3 : o = 3
    · subst h3; rfl
    by_cases h7 : o = 7
    · subst h7; rfl
    by_cases h6 : o = 6
    · subst h6; rfl
    rw [bif_neg (by simp [h1]), bif_neg (by simp [h4]), bif_neg (by simp [h2]), bif_neg (by simp [h5]), bif_neg (by simp [h8]), bif_neg (by simp [h9]), bif_neg (by simp [h3]), bif_neg (by simp [h7]), bif_neg (by simp [h6])]
    simp [h1, h2, h3, h4, h5, h6, h7, h8, h9]

theorem s65 (o : Int) : Ev E 1 65 [I o] (I (partsN o)) :=
  Ev.mk fun n _ => by
    rw [e65]
    unfold partsN
    by_cases h1 : o = 1
    · subst h1; rfl
    by_cases h4 : o = 4
    · subst h4; rfl
    by_cases h2 : o = 2
    · subst h2; rfl
    by_cases h5 : o = 5
    · subst h5; rfl
    by_cases h8 : o = 8
    · subst h8; rfl
    by_cases h9 : o = 9
    · subst h9; rfl
    by_cases h3 : o = 3
    · subst h3; rfl
    by_cases h7 : o = 7
    · subst h7; rfl
    by_cases h6 : o = 6
    · subst h6; rfl
    rw [bif_neg (by simp [h1]), bif_neg (by simp [h4]), bif_neg (by simp [h2]), bif_neg (by simp [h5]), bif_neg (by simp [h8]), bif_neg (by simp [h9]), bif_neg (by simp [h3]), bif_neg (by simp [h7]), bif_neg (by simp [h6])]
    simp [h1, h2, h3, h4, h5, h6, h7, h8, h9]

theorem s74 (t : Ty) : Ev E 1 74 [encT t] (.bool (zeroT t)) :=
  Ev.mk fun n _ => by
    cases t with
    | mk s l =>
      rw [encT, e74]
      unfold zeroT
      rw [lenT]
      cases s <;> cases l <;> simp [Ty.name, Ty.parts]
      omega

/-- The place of the first part that is no term. -/
def idxS : Int → List Lam → Int
  | _, [] => -1
  | i, x :: r => bif shaped x then idxS (i + 1) r else i

theorem idxS_ge : ∀ (l : List Lam) (i : Int), 0 ≤ i → (idxS i l ≥ 0 ↔ shapeds l = false)
  | [], i, h => by simp [idxS, shapeds]
  | x :: r, i, h => by
    simp only [idxS, shapeds]
    cases hx : shaped x with
    | true => simpa using idxS_ge r (i + 1) (by omega)
    | false => simp [h]

mutual
theorem s51 : ∀ t : Lam, wL t ≤ 500000000000 → Ev E (4 * wL t) 51 [encL t] (.bool (shaped t))
  | .mk o m (.mk s u) l, h => by
    have hw := wL_pos (.mk o m (.mk s u) l)
    obtain ⟨c, hc⟩ : ∃ c, 4 * wL (.mk o m (.mk s u) l) = c + 1 := ⟨4 * wL (.mk o m (.mk s u) l) - 1, by omega⟩
    rw [hc]
    refine Ev.mk fun n hn => ?_
    have hl := len_wLs l
    have hsp := sizeT_pos (.mk s u)
    unfold wL at h hn hc
    have h73 := s73 o n (by omega)
    have h60 := s60 (.mk s u) (by omega) n (by omega)
    have h74 := s74 (.mk s u) n (by omega)
    rw [encT] at h60 h74
    have h75 : Ev E (4 * wLs l + 5) 75 [.slc (encLs l), .fn 76 [] []] (.bool (!shapeds l)) := Ev.mk fun k hk => by
      have h86 : Ev E (4 * wLs l + 4) 86 [.slc (encLs l), .fn 76 [] []] (I (idxS 0 l)) := Ev.mk fun j hj => by
        rw [e86, lenL]
        have e := l86 l [] j j (by omega) (by omega) (by omega) (by simp; omega)
        simpa using e
      rw [e75, h86 k (by omega)]
      simp only [Option.bind_some, ok_int, cond_true, toInt_int]
      have := idxS_ge l 0 (by omega)
      cases hs : shapeds l with
      | true =>
        exact congrArg (fun b => some (Tree.bool b)) (decide_eq_false (fun q => by rw [this, hs] at q; cases q))
      | false =>
        exact congrArg (fun b => some (Tree.bool b)) (decide_eq_true (this.2 hs))
    have h75 := h75 n (by omega)
    rw [encL, e51]
    simp only [h73, h60, h74, h75, Option.bind_some, ok_bool, ok_int, cond_true, toBool_bool, toInt_int, lenL]
    unfold shaped topN
    generalize validT (.mk s u) = v at *
    generalize zeroT (.mk s u) = z at *
    generalize shapeds l = sh at *
    have core : ∀ top : Int, (bif (l.length : Int) != partsN o then some (Tree.bool false) else bif decide (m < 0) then some (Tree.bool false) else bif decide (m > top) then some (Tree.bool false) else
        bif o == 2 then (bif !v then some (Tree.bool false) else bif o != 2 then (bif !z then some (Tree.bool false) else some (Tree.bool !!sh)) else some (Tree.bool !!sh))
        else (bif o != 2 then (bif !z then some (Tree.bool false) else some (Tree.bool !!sh)) else some (Tree.bool !!sh))) =
        some (Tree.bool ((l.length : Int) == partsN o && decide (0 ≤ m) && decide (m ≤ top) && (if o = 2 then v else z) && sh)) := by
      intro top
      rw [show ((l.length : Int) != partsN o) = !((l.length : Int) == partsN o) from rfl]
      generalize ((l.length : Int) == partsN o) = b1
      cases b1 with
      | false => simp
      | true =>
        rw [Bool.not_true, cond_false, Bool.true_and]
        by_cases c1 : m < 0
        · rw [bif_pos (by exact decide_eq_true c1), decide_eq_false (show ¬ 0 ≤ m by omega)]; simp
        · rw [bif_neg (by exact decide_eq_false c1), decide_eq_true (show 0 ≤ m by omega), Bool.true_and]
          by_cases c2 : m > top
          · rw [bif_pos (by exact decide_eq_true c2), decide_eq_false (show ¬ m ≤ top by omega)]; simp
          · rw [bif_neg (by exact decide_eq_false c2), decide_eq_true (show m ≤ top by omega), Bool.true_and]
            by_cases c3 : o = 2
            · rw [bif_pos (by simp [c3]), if_pos c3]
              cases v <;> simp [c3]
            · rw [bif_neg (by simp [c3]), bif_pos (by simp [c3]), if_neg c3]
              cases z <;> simp
    by_cases c1 : o = 1
    · rw [bif_pos (by simp [c1]), if_pos c1]; exact core 200
    · rw [bif_neg (by simp [c1]), if_neg c1]
      by_cases c4 : o = 4
      · rw [bif_pos (by simp [c4]), if_pos c4]; exact core 1000
      · rw [bif_neg (by simp [c4]), if_neg c4]; exact core 0
theorem l86 : ∀ (r pre : List Lam) (n q : Nat), r.length < q → 4 * wLs r + 3 ≤ n → wLs r ≤ 500000000000 → (pre ++ r).length ≤ 1000000000000 →
    L86_0 n q (encLs (pre ++ r)) 76 [] [] ((pre ++ r).length : Nat) (pre.length : Nat) = some (I (idxS pre.length r))
  | [], pre, n, q, hq, hn, hs, hb => by
    obtain ⟨q, rfl⟩ : ∃ k, q = k + 1 := ⟨q - 1, by omega⟩
    rw [show q + 1 = Nat.succ q from rfl, l86_0, bif_neg (by simp)]
    rfl
  | x :: r, pre, n, q, hq, hn, hs, hb => by
    obtain ⟨q, rfl⟩ : ∃ k, q = k + 1 := ⟨q - 1, by omega⟩
    simp only [List.length_cons] at hq
    have hx := wL_pos x
    simp only [wLs] at hn hs
    have hpl : pre.length < (pre ++ x :: r).length := by simp
    have h76 : Ev E (4 * wL x + 1) 76 [encL x] (.bool (!shaped x)) := Ev.mk fun k hk => by
      have h51 := s51 x (by omega) k (by omega)
      cases x with
      | mk o m t l =>
        cases t with
        | mk s u =>
          rw [encL] at h51 ⊢
          rw [e76, h51]
          simp
    rw [show q + 1 = Nat.succ q from rfl, l86_0, bif_pos (by exact decide_eq_true (by omega)), bif_pos (by exact decide_eq_true (by omega)), Int.toNat_natCast, nthL, Option.bind_some, okL_sh, cond_true, lookL]
    rw [show ([] : List Tree) ++ [encL x] ++ [] = [encL x] from rfl, h76 n (by omega)]
    simp only [Option.bind_some, ok_bool, cond_true, toBool_bool, idxS]
    cases hx2 : shaped x with
    | false => simp
    | true =>
      have ih := l86 r (pre ++ [x]) n q (by omega) (by omega) (by omega) (by simp at hb ⊢; omega)
      simp only [List.append_assoc, List.singleton_append, List.length_append, List.length_singleton] at ih
      rw [w64 (by simp at hb; omega)]
      simpa using ih
end

end Go.Proofs.Aw.Sa
