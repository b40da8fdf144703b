/-
  SIMPLE, specs 8: variables that are near; equal lists of numbers.
-/
import Derived.Test.YtkfcancichadgaaSaS7
set_option linter.unusedSimpArgs false
set_option linter.unusedVariables false
namespace Go.Proofs.Aw.Sa
open Go.Proofs

mutual
def nearL : Lam → Bool
  | .mk o n _ l => !(o == 1 && decide (n > 1000000)) && nearLs l
def nearLs : List Lam → Bool
  | [] => true
  | t :: r => nearL t && nearLs r
end

mutual
theorem near_le : ∀ t : Lam, nearL t = true → numsLe 1000000 t
  | .mk o n _ l, h => by
    unfold nearL at h
    unfold numsLe
    simp at h
    exact ⟨fun q => by rcases h.1 with w | w
                       · exact absurd q w
                       · exact w, nears_le l h.2⟩
theorem nears_le : ∀ l : List Lam, nearLs l = true → numsLes 1000000 l
  | [], _ => by unfold numsLes; trivial
  | t :: r, h => by
    unfold nearLs at h
    unfold numsLes
    simp at h
    exact ⟨near_le t h.1, nears_le r h.2⟩
end

mutual
theorem s19 : ∀ t : Lam, wL t ≤ 500000000000 → Ev E (2 * wL t + 4) 19 [encL t] (.bool (nearL t))
  | .mk o m (.mk s u) l, h => Ev.mk fun n hn => by
    have hl := len_wLs l
    unfold wL at h hn
    have hL := l19 l [] n n o m s (encTs u) (by omega) (by omega) (by omega) (by simp; omega)
    simp only [List.nil_append, List.length_nil] at hL
    rw [show ((0 : Nat) : Int) = 0 from rfl] at hL
    rw [encL, e19, hL]
    unfold nearL
    by_cases c1 : o = 1
    · rw [bif_pos (by simp [c1])]
      by_cases c2 : m > 1000000
      · rw [bif_pos (by exact decide_eq_true c2)]; simp [c1, c2]
      · rw [bif_neg (by exact decide_eq_false c2), decide_eq_false c2]; simp
    · rw [bif_neg (by simp [c1])]; simp [c1]
theorem l19 : ∀ (r pre : List Lam) (n q : Nat) (o m : Int) (s : List UInt8) (u : List Tree), r.length < q → 2 * wLs r + 4 ≤ n → wLs r ≤ 500000000000 → (pre ++ r).length ≤ 1000000000000 →
    L19_0 n q (pre.length : Nat) o m s u (encLs (pre ++ r)) = some (.bool (nearLs r))
  | [], pre, n, q, o, m, s, u, hq, hn, hs, hb => by
    obtain ⟨q, rfl⟩ : ∃ k, q = k + 1 := ⟨q - 1, by omega⟩
    rw [show q + 1 = Nat.succ q from rfl, l19_0, bif_neg (by rw [lenL]; simp)]
    rfl
  | x :: r, pre, n, q, o, m, s, u, hq, hn, hs, hb => by
    obtain ⟨q, rfl⟩ : ∃ k, q = k + 1 := ⟨q - 1, by omega⟩
    simp only [List.length_cons] at hq
    have hx := wL_pos x
    simp only [wLs] at hn hs
    have hpl : pre.length < (pre ++ x :: r).length := by simp
    rw [show q + 1 = Nat.succ q from rfl, l19_0, bif_pos (by rw [lenL]; exact decide_eq_true (by omega)), bif_pos (by exact decide_eq_true (by omega)), Int.toNat_natCast, nthL, Option.bind_some, okL_sh, cond_true, lookL, s19 x (by omega) n (by omega)]
    simp only [Option.bind_some, ok_bool, cond_true, toBool_bool, nearLs]
    cases hx2 : nearL x with
    | false => simp
    | true =>
      have ih := l19 r (pre ++ [x]) n q o m s u (by omega) (by omega) (by omega) (by simp at hb ⊢; omega)
      simp only [List.append_assoc, List.singleton_append, List.length_append, List.length_singleton] at ih
      rw [w64 (by simp at hb; omega)]
      simpa using ih
end

/-- Lists of numbers that are the same. -/
theorem s23 (l : List Int) (hl : l.length ≤ 1000000) : Ev E (l.length + 2) 23 [.slc (l.map I), .slc (l.map I)] (.bool true) :=
  Ev.mk fun n hn => by
    have loop : ∀ (r pre : List Int) (q : Nat), r.length < q → (pre ++ r).length ≤ 1000000 → L23_0 n q ((pre ++ r).map I) ((pre ++ r).map I) (pre.length : Nat) = some (.bool true) := by
      intro r
      induction r with
      | nil =>
        intro pre q hq hb
        obtain ⟨q, rfl⟩ : ∃ k, q = k + 1 := ⟨q - 1, by omega⟩
        rw [show q + 1 = Nat.succ q from rfl, l23_0, bif_neg (by simp)]
      | cons x r ih =>
        intro pre q hq hb
        obtain ⟨q, rfl⟩ : ∃ k, q = k + 1 := ⟨q - 1, by omega⟩
        simp only [List.length_cons] at hq
        have hpl : pre.length < (pre ++ x :: r).length := by simp
        have hn2 : nth ((pre ++ x :: r).map I) pre.length = some (I x) := by rw [nth_map, nth_app]; rfl
        rw [show q + 1 = Nat.succ q from rfl, l23_0, bif_pos (by rw [List.length_map]; exact decide_eq_true (by omega)), bif_pos (by exact decide_eq_true (by omega)), Int.toNat_natCast, hn2]
        simp only [Option.bind_some, ok_int, cond_true, toInt_int]
        rw [bif_pos (by exact decide_eq_true (by omega)), bif_neg (by simp)]
        have e := ih (pre ++ [x]) q (by omega) (by simpa using hb)
        simp only [List.append_assoc, List.singleton_append, List.length_append, List.length_singleton] at e
        rw [w64 (by simp at hb; omega)]
        simpa using e
    have e := loop l [] n (by omega) (by simpa using hl)
    rw [e23, bif_neg (by simp)]
    simpa using e

end Go.Proofs.Aw.Sa
