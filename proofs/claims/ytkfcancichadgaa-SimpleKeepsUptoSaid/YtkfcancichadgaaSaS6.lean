/-
  SIMPLE, specs 6: copies.
-/
import Derived.Test.YtkfcancichadgaaSaS5
set_option linter.unusedSimpArgs false
set_option linter.unusedVariables false
namespace Go.Proofs.Aw.Sa
open Go.Proofs

theorem setN_same {α : Type} (x : α) (r : List α) : ∀ (l : List α), setN (l ++ x :: r) l.length x = l ++ x :: r
  | [] => rfl
  | y :: l => by
    show y :: setN (l ++ x :: r) l.length x = y :: (l ++ x :: r)
    rw [setN_same x r l]

theorem firstT (l : List Ty) : firstOk (Sh.agg [Sh.str, Sh.slc]) (encTs l) = true := by
  cases l with
  | nil => rfl
  | cons t r => cases t; rfl
theorem firstL (l : List Lam) : firstOk (Sh.agg [Sh.int IntKind.i64, Sh.int IntKind.i64, Sh.str, Sh.slc, Sh.slc]) (encLs l) = true := by
  cases l with
  | nil => rfl
  | cons t r =>
    cases t with
    | mk o m t l => cases t; rfl

mutual
/-- A copy of a type. -/
theorem s41 : ∀ t : Ty, sizeT t ≤ 500000000000 → Ev E (2 * sizeT t + 2) 41 [encT t] (encT t)
  | .mk s l, h => Ev.mk fun n hn => by
    have hl := len_sizeTs l
    unfold sizeT at h hn
    rw [encT, e41, firstT, cond_true, lenT, bif_pos (by rw [Nat.ble_eq]; omega)]
    have e := l41 l [] n n s [] (by omega) (by omega) (by omega) (by simp; omega)
    simpa using e
theorem l41 : ∀ (r pre : List Ty) (n q : Nat) (s j : List UInt8), r.length < q → 2 * sizeTs r + 2 ≤ n → sizeTs r ≤ 500000000000 → (pre ++ r).length ≤ 1000000000000 →
    L41_0 n q ((pre ++ r).length : Nat) (pre.length : Nat) s (encTs (pre ++ r)) j = some (.agg [.str s, .slc (encTs (pre ++ r))])
  | [], pre, n, q, s, j, hq, hn, hs, hb => by
    obtain ⟨q, rfl⟩ : ∃ k, q = k + 1 := ⟨q - 1, by omega⟩
    rw [show q + 1 = Nat.succ q from rfl, l41_0, bif_neg (by simp)]
  | x :: r, pre, n, q, s, j, hq, hn, hs, hb => by
    obtain ⟨q, rfl⟩ : ∃ k, q = k + 1 := ⟨q - 1, by omega⟩
    simp only [List.length_cons] at hq
    have hx := sizeT_pos x
    simp only [sizeTs] at hn hs
    have hpl : pre.length < (pre ++ x :: r).length := by simp
    have hc : (decide ((0 : Int) ≤ (pre.length : Nat)) && (decide (((pre.length : Nat) : Int) < ((encTs (pre ++ x :: r)).length : Nat)) && Nat.beq (List.length [Sh.str, Sh.slc]) (List.length [Sh.str, Sh.slc]))) = true := by
      rw [lenT, decide_eq_true (by omega), decide_eq_true (by omega)]; rfl
    rw [show q + 1 = Nat.succ q from rfl, l41_0, bif_pos (by exact decide_eq_true (by omega)), bif_pos hc, Int.toNat_natCast, nthT, Option.bind_some, okT_sh, cond_true, lookT, s41 x (by omega) n (by omega), Option.bind_some, okT_sh, cond_true, bif_pos hc, Option.bind_some, okT_sh, cond_true, lookT]
    have ih := l41 r (pre ++ [x]) n q s j (by omega) (by omega) (by omega) (by simp at hb ⊢; omega)
    simp only [List.append_assoc, List.singleton_append, List.length_append, List.length_singleton] at ih
    have hset : setN (encTs (pre ++ x :: r)) pre.length (encT x) = encTs (pre ++ x :: r) := by
      have := setN_same (encT x) (encTs r) (encTs pre)
      rw [lenT] at this
      simpa [encTs_map] using this
    rw [hset, w64 (by simp at hb; omega)]
    simpa using ih
end

mutual
/-- A copy of a term. -/
theorem s42 : ∀ t : Lam, wL t ≤ 500000000000 → Ev E (2 * wL t + 4) 42 [encL t] (encL t)
  | .mk o m (.mk s u) l, h => Ev.mk fun n hn => by
    have hl := len_wLs l
    have hsp := sizeT_pos (.mk s u)
    unfold wL at h hn
    have h41 := s41 (.mk s u) (by omega) n (by omega)
    rw [encT] at h41
    rw [encL, e42, h41]
    simp only [Option.bind_some, ok_agg, oks_cons, ok_str, ok_slc, oks_nil, Bool.and_true, cond_true, cs_agg, List.headD_cons, List.tail_cons, toStr_str, elems_slc]
    rw [firstL, cond_true, lenL, bif_pos (by rw [Nat.ble_eq]; omega)]
    have e := l42 l [] n n o m s (encTs u) 0 0 [] (by omega) (by omega) (by omega) (by simp; omega)
    simpa using e
theorem l42 : ∀ (r pre : List Lam) (n q : Nat) (o m : Int) (s : List UInt8) (u : List Tree) (j1 j2 : Int) (j3 : List UInt8), r.length < q → 2 * wLs r + 4 ≤ n → wLs r ≤ 500000000000 → (pre ++ r).length ≤ 1000000000000 →
    L42_0 n q ((pre ++ r).length : Nat) (pre.length : Nat) o m s u (encLs (pre ++ r)) j1 j2 j3 = some (.agg [I o, I m, .str s, .slc u, .slc (encLs (pre ++ r))])
  | [], pre, n, q, o, m, s, u, j1, j2, j3, hq, hn, hs, hb => by
    obtain ⟨q, rfl⟩ : ∃ k, q = k + 1 := ⟨q - 1, by omega⟩
    rw [show q + 1 = Nat.succ q from rfl, l42_0, bif_neg (by simp)]
  | x :: r, pre, n, q, o, m, s, u, j1, j2, j3, hq, hn, hs, hb => by
    obtain ⟨q, rfl⟩ : ∃ k, q = k + 1 := ⟨q - 1, by omega⟩
    simp only [List.length_cons] at hq
    have hx := wL_pos x
    simp only [wLs] at hn hs
    have hpl : pre.length < (pre ++ x :: r).length := by simp
    have hc : (decide ((0 : Int) ≤ (pre.length : Nat)) && (decide (((pre.length : Nat) : Int) < ((encLs (pre ++ x :: r)).length : Nat)) && Nat.beq (List.length [Sh.int IntKind.i64, Sh.int IntKind.i64, Sh.str, Sh.slc, Sh.slc]) (List.length [Sh.int IntKind.i64, Sh.int IntKind.i64, Sh.str, Sh.slc, Sh.slc]))) = true := by
      rw [lenL, decide_eq_true (by omega), decide_eq_true (by omega)]; rfl
    rw [show q + 1 = Nat.succ q from rfl, l42_0, bif_pos (by exact decide_eq_true (by omega)), bif_pos hc, Int.toNat_natCast, nthL, Option.bind_some, okL_sh, cond_true, lookL, s42 x (by omega) n (by omega), Option.bind_some, okL_sh, cond_true, bif_pos hc, Option.bind_some, okL_sh, cond_true, lookL]
    have ih := l42 r (pre ++ [x]) n q o m s u j1 j2 j3 (by omega) (by omega) (by omega) (by simp at hb ⊢; omega)
    simp only [List.append_assoc, List.singleton_append, List.length_append, List.length_singleton] at ih
    have hset : setN (encLs (pre ++ x :: r)) pre.length (encL x) = encLs (pre ++ x :: r) := by
      have := setN_same (encL x) (encLs r) (encLs pre)
      rw [lenL] at this
      simpa [encLs_map] using this
    rw [hset, w64 (by simp at hb; omega)]
    simpa using ih
end

end Go.Proofs.Aw.Sa
