/-
  SIMPLE, specs 1: sizes.
-/
import Derived.Test.YtkfcancichadgaaSaE1
import Derived.Test.YtkfcancichadgaaSaPure
set_option linter.unusedSimpArgs false
set_option linter.unusedVariables false
namespace Go.Proofs.Aw.Sa
open Go.Proofs

abbrev E : Env := Tab.env tab

@[simp] theorem toStr_str (s : List UInt8) : Tree.toStr (.str s) = s := rfl
@[simp] theorem ok_str (s : List UInt8) : Sh.ok .str (.str s) = true := rfl

theorem okT_sh (t : Ty) : Sh.ok (Sh.agg [Sh.str, Sh.slc]) (encT t) = true := by cases t; simp [encT]
theorem lookT (t : Ty) : Tree.agg [Tree.str (Tree.toStr (List.headD (Tree.cs (encT t)) (Tree.bool false))), Tree.slc (Tree.elems (List.headD (List.tail (Tree.cs (encT t))) (Tree.bool false)))] = encT t := by cases t; simp [encT]
theorem nthT (pre : List Ty) (x : Ty) (r : List Ty) : nth (encTs (pre ++ x :: r)) pre.length = some (encT x) := by
  rw [encTs_map, nth_map, nth_app]; rfl
theorem lenT (l : List Ty) : (encTs l).length = l.length := by rw [encTs_map, List.length_map]

theorem sizeT_pos (t : Ty) : 1 ≤ sizeT t := by cases t; unfold sizeT; omega
theorem len_sizeTs : ∀ l : List Ty, l.length ≤ sizeTs l
  | [] => by simp [sizeTs]
  | t :: r => by have := len_sizeTs r; have := sizeT_pos t; simp [sizeTs]; omega
theorem depthT_le : ∀ t : Ty, depthT t ≤ sizeT t
  | .mk s l => by unfold depthT sizeT; have := depthTs_le l; omega
where
  depthTs_le : ∀ l : List Ty, depthTs l ≤ sizeTs l
    | [] => by simp [depthTs]
    | t :: r => by have := depthT_le t; have := depthTs_le r; unfold depthTs sizeTs; omega

theorem imaxN (a b : Nat) : imax (a : Int) b = ((max a b : Nat) : Int) := by
  unfold imax
  split <;> omega

mutual
theorem s80 : ∀ t : Ty, sizeT t ≤ 500000000000 → Ev E (2 * sizeT t + 2) 80 [encT t] (.tup [I (sizeT t), I (depthT t)])
  | .mk s l, h => Ev.mk fun n hn => by
    have hl := len_sizeTs l
    unfold sizeT at h hn ⊢
    rw [encT, e80]
    have := l80 l [] n n 0 0 (by omega) (by omega) (by omega) (by simp; omega)
    rw [lenT]
    simp only [List.nil_append, List.length_nil] at this
    unfold depthT
    simpa [Nat.add_comm] using this
theorem l80 : ∀ (r pre : List Ty) (n q a d : Nat), r.length < q → 2 * sizeTs r + 2 ≤ n → sizeTs r ≤ 500000000000 → a + sizeTs r ≤ 1000000000000 ∧ d ≤ 1000000000000 ∧ (pre ++ r).length ≤ 1000000000000 →
    L80_0 n q a d (encTs (pre ++ r)) ((pre ++ r).length : Nat) (pre.length : Nat) = some (.tup [I ((a + sizeTs r + 1 : Nat) : Int), I ((max d (depthTs r) + 1 : Nat) : Int)])
  | [], pre, n, q, a, d, hq, hn, hs, hb => by
    obtain ⟨q, rfl⟩ : ∃ k, q = k + 1 := ⟨q - 1, by omega⟩
    simp only [List.append_nil, sizeTs] at hs hb ⊢
    rw [show q + 1 = Nat.succ q from rfl, l80_0, bif_neg (by simp), w64 (by omega), w64 (by omega)]
    simp [depthTs]
  | x :: r, pre, n, q, a, d, hq, hn, hs, hb => by
    obtain ⟨q, rfl⟩ : ∃ k, q = k + 1 := ⟨q - 1, by omega⟩
    simp only [List.length_cons] at hq
    have hx := sizeT_pos x
    have hdx := depthT_le x
    simp only [sizeTs] at hn hs hb
    have hpl : pre.length < (pre ++ x :: r).length := by simp
    rw [show q + 1 = Nat.succ q from rfl, l80_0, bif_pos (by exact decide_eq_true (by omega)), bif_pos (by exact decide_eq_true (by omega)), Int.toNat_natCast, nthT, Option.bind_some, okT_sh, cond_true, lookT]
    rw [s80 x (by omega) n (by omega)]
    simp only [Option.bind_some, ok_tup, oks_cons, ok_int, oks_nil, Bool.and_true, cond_true, tupl_tup, List.headD_cons, List.tail_cons, toInt_int]
    rw [imaxN, show (a : Int) + (sizeT x : Int) = ((a + sizeT x : Nat) : Int) by omega, w64 (by omega), w64 (by omega)]
    have ih := l80 r (pre ++ [x]) n q (a + sizeT x) (max d (depthT x)) (by omega) (by omega) (by omega) (by simp at hb ⊢; omega)
    simp only [List.append_assoc, List.singleton_append, List.length_append, List.length_singleton] at ih
    simp only [sizeTs, depthTs]
    rw [← Nat.max_assoc, ← Nat.add_assoc a]
    simpa using ih
end

theorem okL_sh (t : Lam) : Sh.ok (Sh.agg [Sh.int IntKind.i64, Sh.int IntKind.i64, Sh.str, Sh.slc, Sh.slc]) (encL t) = true := by
  cases t with
  | mk o n t l => cases t; simp [encL]
theorem lookL (t : Lam) : Tree.agg [Tree.int IntKind.i64 (Tree.toInt (List.headD (Tree.cs (encL t)) (Tree.bool false))),
    Tree.int IntKind.i64 (Tree.toInt (List.headD (List.tail (Tree.cs (encL t))) (Tree.bool false))),
    Tree.str (Tree.toStr (List.headD (List.tail (List.tail (Tree.cs (encL t)))) (Tree.bool false))),
    Tree.slc (Tree.elems (List.headD (List.tail (List.tail (List.tail (Tree.cs (encL t))))) (Tree.bool false))),
    Tree.slc (Tree.elems (List.headD (List.tail (List.tail (List.tail (List.tail (Tree.cs (encL t)))))) (Tree.bool false)))] = encL t := by
  cases t with
  | mk o n t l => cases t; simp [encL]
theorem nthL (pre : List Lam) (x : Lam) (r : List Lam) : nth (encLs (pre ++ x :: r)) pre.length = some (encL x) := by
  rw [encLs_map, nth_map, nth_app]; rfl
theorem lenL (l : List Lam) : (encLs l).length = l.length := by rw [encLs_map, List.length_map]

theorem sizeL_pos (t : Lam) : 1 ≤ sizeL t := by cases t; unfold sizeL; omega
theorem len_sizeLs : ∀ l : List Lam, l.length ≤ sizeLs l
  | [] => by simp [sizeLs]
  | t :: r => by have := len_sizeLs r; have := sizeL_pos t; simp [sizeLs]; omega
theorem depthL_le : ∀ t : Lam, depthL t ≤ sizeL t
  | .mk _ _ _ l => by unfold depthL sizeL; have := depthLs_le l; omega
where
  depthLs_le : ∀ l : List Lam, depthLs l ≤ sizeLs l
    | [] => by simp [depthLs]
    | t :: r => by have := depthL_le t; have := depthLs_le r; unfold depthLs sizeLs; omega

mutual
theorem s48 : ∀ t : Lam, sizeL t ≤ 500000000000 → Ev E (2 * sizeL t + 2) 48 [encL t] (.tup [I (sizeL t), I (depthL t)])
  | .mk _ _ (.mk _ _) l, h => Ev.mk fun n hn => by
    have hl := len_sizeLs l
    unfold sizeL at h hn ⊢
    rw [encL, e48]
    have := l48 l [] n n 0 0 (by omega) (by omega) (by omega) (by simp; omega)
    rw [lenL]
    simp only [List.nil_append, List.length_nil] at this
    unfold depthL
    simpa [Nat.add_comm] using this
theorem l48 : ∀ (r pre : List Lam) (n q a d : Nat), r.length < q → 2 * sizeLs r + 2 ≤ n → sizeLs r ≤ 500000000000 → a + sizeLs r ≤ 1000000000000 ∧ d ≤ 1000000000000 ∧ (pre ++ r).length ≤ 1000000000000 →
    L48_0 n q a d (encLs (pre ++ r)) ((pre ++ r).length : Nat) (pre.length : Nat) = some (.tup [I ((a + sizeLs r + 1 : Nat) : Int), I ((max d (depthLs r) + 1 : Nat) : Int)])
  | [], pre, n, q, a, d, hq, hn, hs, hb => by
    obtain ⟨q, rfl⟩ : ∃ k, q = k + 1 := ⟨q - 1, by omega⟩
    simp only [List.append_nil, sizeLs] at hs hb ⊢
    rw [show q + 1 = Nat.succ q from rfl, l48_0, bif_neg (by simp), w64 (by omega), w64 (by omega)]
    simp [depthLs]
  | x :: r, pre, n, q, a, d, hq, hn, hs, hb => by
    obtain ⟨q, rfl⟩ : ∃ k, q = k + 1 := ⟨q - 1, by omega⟩
    simp only [List.length_cons] at hq
    have hx := sizeL_pos x
    have hdx := depthL_le x
    simp only [sizeLs] at hn hs hb
    have hpl : pre.length < (pre ++ x :: r).length := by simp
    rw [show q + 1 = Nat.succ q from rfl, l48_0, bif_pos (by exact decide_eq_true (by omega)), bif_pos (by exact decide_eq_true (by omega)), Int.toNat_natCast, nthL, Option.bind_some, okL_sh, cond_true, lookL]
    rw [s48 x (by omega) n (by omega)]
    simp only [Option.bind_some, ok_tup, oks_cons, ok_int, oks_nil, Bool.and_true, cond_true, tupl_tup, List.headD_cons, List.tail_cons, toInt_int]
    rw [imaxN, show (a : Int) + (sizeL x : Int) = ((a + sizeL x : Nat) : Int) by omega, w64 (by omega), w64 (by omega)]
    have ih := l48 r (pre ++ [x]) n q (a + sizeL x) (max d (depthL x)) (by omega) (by omega) (by omega) (by simp at hb ⊢; omega)
    simp only [List.append_assoc, List.singleton_append, List.length_append, List.length_singleton] at ih
    simp only [sizeLs, depthLs]
    rw [← Nat.max_assoc, ← Nat.add_assoc a]
    simpa using ih
end

mutual
theorem s84 : ∀ t : Ty, sizeT t ≤ 500000000000 → Ev E (2 * sizeT t + 2) 84 [encT t] (.tup [I (sizeT t), I (depthT t)])
  | .mk s l, h => Ev.mk fun n hn => by
    have hl := len_sizeTs l
    unfold sizeT at h hn ⊢
    rw [encT, e84]
    have := l84 l [] n n 1 0 s (by omega) (by omega) (by omega) (by simp; omega)
    simp only [List.nil_append, List.length_nil] at this
    unfold depthT
    simpa [Nat.add_comm] using this
theorem l84 : ∀ (r pre : List Ty) (n q a d : Nat) (s : List UInt8), r.length < q → 2 * sizeTs r + 2 ≤ n → sizeTs r ≤ 500000000000 → a + sizeTs r ≤ 1000000000000 ∧ d ≤ 1000000000000 ∧ (pre ++ r).length ≤ 1000000000000 →
    L84_0 n q a d (pre.length : Nat) s (encTs (pre ++ r)) = some (.tup [I ((a + sizeTs r : Nat) : Int), I ((max d (depthTs r) + 1 : Nat) : Int)])
  | [], pre, n, q, a, d, s, hq, hn, hs, hb => by
    obtain ⟨q, rfl⟩ : ∃ k, q = k + 1 := ⟨q - 1, by omega⟩
    simp only [List.append_nil, sizeTs] at hs hb ⊢
    rw [show q + 1 = Nat.succ q from rfl, l84_0, bif_neg (by rw [lenT]; simp), w64 (by omega)]
    simp [depthTs]
  | x :: r, pre, n, q, a, d, s, hq, hn, hs, hb => by
    obtain ⟨q, rfl⟩ : ∃ k, q = k + 1 := ⟨q - 1, by omega⟩
    simp only [List.length_cons] at hq
    have hx := sizeT_pos x
    have hdx := depthT_le x
    simp only [sizeTs] at hn hs hb
    have hpl : pre.length < (pre ++ x :: r).length := by simp
    rw [show q + 1 = Nat.succ q from rfl, l84_0, bif_pos (by rw [lenT]; exact decide_eq_true (by omega)), bif_pos (by exact decide_eq_true (by omega)), Int.toNat_natCast, nthT, Option.bind_some, okT_sh, cond_true, lookT]
    rw [s84 x (by omega) n (by omega)]
    simp only [Option.bind_some, ok_tup, oks_cons, ok_int, oks_nil, Bool.and_true, cond_true, tupl_tup, List.headD_cons, List.tail_cons, toInt_int]
    rw [imaxN, show (a : Int) + (sizeT x : Int) = ((a + sizeT x : Nat) : Int) by omega, w64 (by omega), w64 (by omega)]
    have ih := l84 r (pre ++ [x]) n q (a + sizeT x) (max d (depthT x)) s (by omega) (by omega) (by omega) (by simp at hb ⊢; omega)
    simp only [List.append_assoc, List.singleton_append, List.length_append, List.length_singleton] at ih
    simp only [sizeTs, depthTs]
    rw [← Nat.max_assoc, ← Nat.add_assoc a]
    simpa using ih
end

mutual
theorem s38 : ∀ t : Lam, sizeL t ≤ 500000000000 → Ev E (2 * sizeL t + 2) 38 [encL t] (.tup [I (sizeL t), I (depthL t)])
  | .mk o m (.mk s u) l, h => Ev.mk fun n hn => by
    have hl := len_sizeLs l
    unfold sizeL at h hn ⊢
    rw [encL, e38]
    have := l38 l [] n n 1 0 o m s u (by omega) (by omega) (by omega) (by simp; omega)
    simp only [List.nil_append, List.length_nil] at this
    unfold depthL
    simpa [Nat.add_comm] using this
theorem l38 : ∀ (r pre : List Lam) (n q a d : Nat) (o m : Int) (s : List UInt8) (u : List Ty), r.length < q → 2 * sizeLs r + 2 ≤ n → sizeLs r ≤ 500000000000 → a + sizeLs r ≤ 1000000000000 ∧ d ≤ 1000000000000 ∧ (pre ++ r).length ≤ 1000000000000 →
    L38_0 n q a d (pre.length : Nat) o m s (encTs u) (encLs (pre ++ r)) = some (.tup [I ((a + sizeLs r : Nat) : Int), I ((max d (depthLs r) + 1 : Nat) : Int)])
  | [], pre, n, q, a, d, o, m, s, u, hq, hn, hs, hb => by
    obtain ⟨q, rfl⟩ : ∃ k, q = k + 1 := ⟨q - 1, by omega⟩
    simp only [List.append_nil, sizeLs] at hs hb ⊢
    rw [show q + 1 = Nat.succ q from rfl, l38_0, bif_neg (by rw [lenL]; simp), w64 (by omega)]
    simp [depthLs]
  | x :: r, pre, n, q, a, d, o, m, s, u, hq, hn, hs, hb => by
    obtain ⟨q, rfl⟩ : ∃ k, q = k + 1 := ⟨q - 1, by omega⟩
    simp only [List.length_cons] at hq
    have hx := sizeL_pos x
    have hdx := depthL_le x
    simp only [sizeLs] at hn hs hb
    have hpl : pre.length < (pre ++ x :: r).length := by simp
    rw [show q + 1 = Nat.succ q from rfl, l38_0, bif_pos (by rw [lenL]; exact decide_eq_true (by omega)), bif_pos (by exact decide_eq_true (by omega)), Int.toNat_natCast, nthL, Option.bind_some, okL_sh, cond_true, lookL]
    rw [s38 x (by omega) n (by omega)]
    simp only [Option.bind_some, ok_tup, oks_cons, ok_int, oks_nil, Bool.and_true, cond_true, tupl_tup, List.headD_cons, List.tail_cons, toInt_int]
    rw [imaxN, show (a : Int) + (sizeL x : Int) = ((a + sizeL x : Nat) : Int) by omega, w64 (by omega), w64 (by omega)]
    have ih := l38 r (pre ++ [x]) n q (a + sizeL x) (max d (depthL x)) o m s u (by omega) (by omega) (by omega) (by simp at hb ⊢; omega)
    simp only [List.append_assoc, List.singleton_append, List.length_append, List.length_singleton] at ih
    simp only [sizeLs, depthLs]
    rw [← Nat.max_assoc, ← Nat.add_assoc a]
    simpa using ih
end

end Go.Proofs.Aw.Sa
