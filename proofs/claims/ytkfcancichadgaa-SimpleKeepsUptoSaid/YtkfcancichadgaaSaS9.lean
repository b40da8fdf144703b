/-
  SIMPLE, specs 9: terms without types.
-/
import Derived.Test.YtkfcancichadgaaSaS8
set_option linter.unusedSimpArgs false
set_option linter.unusedVariables false
namespace Go.Proofs.Aw.Sa
open Go.Proofs

mutual
def eraseL : Lam → Lam
  | .mk o n _ l => .mk o n tyZero (eraseLs l)
def eraseLs : List Lam → List Lam
  | [] => []
  | t :: r => eraseL t :: eraseLs r
end

theorem setN_app {α : Type} (x y : α) (r : List α) : ∀ (l : List α), setN (l ++ x :: r) l.length y = l ++ y :: r
  | [] => rfl
  | z :: l => by
    show z :: setN (l ++ x :: r) l.length y = z :: (l ++ y :: r)
    rw [setN_app x y r l]

mutual
/-- The reference's. -/
theorem s35 : ∀ t : Lam, wL t ≤ 500000000000 → Ev E (2 * wL t + 4) 35 [encL t] (encL (eraseL t))
  | .mk o m (.mk s u) l, h => Ev.mk fun n hn => by
    have hl := len_wLs l
    unfold wL at h hn
    have hL := l35 l [] [] n n o m s (encTs u) (by omega) (by omega) (by omega) (by simp; omega) 0 0 [] o m []
    simp only [List.nil_append, List.length_nil] at hL
    rw [show ((0 : Nat) : Int) = 0 from rfl] at hL
    rw [encL, e35]
    exact hL
theorem l35 : ∀ (r pre : List Lam) (acc : List Tree) (n q : Nat) (o m : Int) (s : List UInt8) (u : List Tree), r.length < q → 2 * wLs r + 4 ≤ n → wLs r ≤ 500000000000 → acc.length + r.length + (pre ++ r).length ≤ 1500000000000 →
    ∀ (j1 j2 : Int) (j3 : List UInt8) (o' m' : Int) (s' : List UInt8),
    (match acc with
      | [] => L35_0 n q (pre.length : Nat) o m s u (encLs (pre ++ r)) j1 j2 j3 o' m' s'
      | _ => L35_0b n q (pre.length : Nat) o m s u (encLs (pre ++ r)) j1 j2 j3 o' m' s' acc) = some (.agg [I o', I m', .str s', .slc [], .slc (acc ++ encLs (eraseLs r))])
  | [], pre, acc, n, q, o, m, s, u, hq, hn, hs, hb => fun j1 j2 j3 o' m' s' => by
    obtain ⟨q, rfl⟩ : ∃ k, q = k + 1 := ⟨q - 1, by omega⟩
    cases acc with
    | nil =>
      simp only [show q + 1 = Nat.succ q from rfl]
      rw [l35_0, bif_neg (by rw [lenL]; simp)]
      simp [eraseLs, encLs]
    | cons a ac =>
      simp only [show q + 1 = Nat.succ q from rfl]
      rw [l35_0b, bif_neg (by rw [lenL]; simp)]
      simp [eraseLs, encLs]
  | x :: r, pre, acc, n, q, o, m, s, u, hq, hn, hs, hb => fun j1 j2 j3 o' m' s' => by
    obtain ⟨q, rfl⟩ : ∃ k, q = k + 1 := ⟨q - 1, by omega⟩
    simp only [List.length_cons] at hq hb
    have hx := wL_pos x
    simp only [wLs] at hn hs
    have hpl : pre.length < (pre ++ x :: r).length := by simp
    have h35 := s35 x (by omega) n (by omega)
    have ih := l35 r (pre ++ [x]) (acc ++ [encL (eraseL x)]) n q o m s u (by omega) (by omega) (by omega) (by simp at hb ⊢; omega) j1 j2 j3 o' m' s'
    simp only [List.append_assoc, List.singleton_append, List.length_append, List.length_singleton] at ih
    have hgoal : acc ++ encLs (eraseLs (x :: r)) = acc ++ ([encL (eraseL x)] ++ encLs (eraseLs r)) := by
      simp [eraseLs, encLs]
    rw [hgoal]
    have hlim : Nat.ble ((acc.length + List.length [encL (eraseL x)]) * 80) 140737488355328 = true := by
      rw [Nat.ble_eq]; simp; omega
    cases acc with
    | nil =>
      simp only [show q + 1 = Nat.succ q from rfl]
      rw [l35_0, bif_pos (by rw [lenL]; exact decide_eq_true (by omega)), bif_pos (by exact decide_eq_true (by omega)), Int.toNat_natCast, nthL, Option.bind_some, okL_sh, cond_true, lookL, h35]
      simp only [Option.bind_some, okL_sh, cond_true]
      rw [lookL, w64 (by simp at hb; omega)]
      simpa using ih
    | cons a ac =>
      simp only [show q + 1 = Nat.succ q from rfl]
      rw [l35_0b, bif_pos (by rw [lenL]; exact decide_eq_true (by omega)), bif_pos (by exact decide_eq_true (by omega)), Int.toNat_natCast, nthL, Option.bind_some, okL_sh, cond_true, lookL, h35]
      simp only [Option.bind_some, okL_sh, cond_true, openL]
      rw [bif_pos (by rw [hlim]; rfl), w64 (by simp at hb; omega)]
      simpa using ih
end

mutual
/-- The program's. -/
theorem s34 : ∀ t : Lam, wL t ≤ 500000000000 → Ev E (2 * wL t + 4) 34 [encL t] (encL (eraseL t))
  | .mk o m (.mk s u) l, h => Ev.mk fun n hn => by
    have hl := len_wLs l
    unfold wL at h hn
    have hL := l34 l [] n n o m (by omega) (by omega) (by omega) (by simp; omega) [] 0 0 []
    simp only [List.nil_append, List.length_nil] at hL
    rw [show ((0 : Nat) : Int) = 0 from rfl] at hL
    rw [encL, e34, firstL, cond_true, lenL, bif_pos (by rw [Nat.ble_eq]; omega)]
    exact hL
theorem l34 : ∀ (r pre : List Lam) (n q : Nat) (o m : Int), r.length < q → 2 * wLs r + 4 ≤ n → wLs r ≤ 500000000000 → (pre ++ r).length ≤ 1000000000000 →
    ∀ (s : List UInt8) (j1 j2 : Int) (j3 : List UInt8),
    L34_0 n q ((pre ++ r).length : Nat) (pre.length : Nat) o m s (encLs (pre ++ r)) j1 j2 j3 = some (.agg [I o, I m, .str s, .slc [], .slc (encLs (pre ++ eraseLs r))])
  | [], pre, n, q, o, m, hq, hn, hs, hb => fun s j1 j2 j3 => by
    obtain ⟨q, rfl⟩ : ∃ k, q = k + 1 := ⟨q - 1, by omega⟩
    rw [show q + 1 = Nat.succ q from rfl, l34_0, bif_neg (by simp)]
    simp [eraseLs]
  | x :: r, pre, n, q, o, m, hq, hn, hs, hb => fun s j1 j2 j3 => by
    obtain ⟨q, rfl⟩ : ∃ k, q = k + 1 := ⟨q - 1, by omega⟩
    simp only [List.length_cons] at hq
    have hx := wL_pos x
    simp only [wLs] at hn hs
    have hpl : pre.length < (pre ++ x :: r).length := by simp
    have hc : (decide ((0 : Int) ≤ (pre.length : Nat)) && (decide (((pre.length : Nat) : Int) < ((encLs (pre ++ x :: r)).length : Nat)) && Nat.beq (List.length [Sh.int IntKind.i64, Sh.int IntKind.i64, Sh.str, Sh.slc, Sh.slc]) (List.length [Sh.int IntKind.i64, Sh.int IntKind.i64, Sh.str, Sh.slc, Sh.slc]))) = true := by
      rw [lenL, decide_eq_true (by omega), decide_eq_true (by omega)]; rfl
    rw [show q + 1 = Nat.succ q from rfl, l34_0, bif_pos (by exact decide_eq_true (by omega)), bif_pos hc, Int.toNat_natCast, nthL, Option.bind_some, okL_sh, cond_true, lookL, s34 x (by omega) n (by omega), Option.bind_some, okL_sh, cond_true, bif_pos hc, Option.bind_some, okL_sh, cond_true, lookL]
    have ih := l34 r (pre ++ [eraseL x]) n q o m (by omega) (by omega) (by omega) (by simp at hb ⊢; omega) s j1 j2 j3
    simp only [List.append_assoc, List.singleton_append, List.length_append, List.length_singleton] at ih
    have hset : setN (encLs (pre ++ x :: r)) pre.length (encL (eraseL x)) = encLs (pre ++ eraseL x :: r) := by
      have := setN_app (encL x) (encL (eraseL x)) (encLs r) (encLs pre)
      rw [lenL] at this
      simpa [encLs_map] using this
    rw [hset, w64 (by simp at hb; omega)]
    simpa [eraseLs] using ih
end

end Go.Proofs.Aw.Sa
