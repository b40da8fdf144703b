/-
  QUOT: specs of the functions on lists of numbers, 4: folds and counts; what both sides say of a list.
-/
import Derived.Test.YtfkidinbolmkiaaQbL3
set_option linter.unusedSimpArgs false
set_option linter.unusedVariables false
namespace Go.Proofs.Bw.Qb
open Go.Proofs

/-! ### folds -/
def stepF (op n x : Int) : Int := if op = 1 then n + x else if op = 2 then imax n x else if op = 3 then imin n x else n

def foldV (op : Int) : Int → List Int → Int
  | n, [] => n
  | n, x :: r => foldV op (stepF op n x) r

def lim (n : Int) (k : Nat) : Prop := -(1099511627776 * (k : Int)) ≤ n ∧ n ≤ 1099511627776 * (k : Int)

theorem stepF_lim {op n x : Int} {k : Nat} (h : lim n k) (hx : who1 x = true) : lim (stepF op n x) (k + 1) := by
  simp only [who1, decide_eq_true_eq] at hx
  unfold lim at *
  unfold stepF
  split
  · omega
  · split
    · unfold imax; split <;> omega
    · split
      · unfold imin; split <;> omega
      · omega

theorem stepF_1 (n x : Int) : stepF 1 n x = n + x := rfl
theorem stepF_2 (n x : Int) : stepF 2 n x = imax n x := rfl
theorem stepF_3 (n x : Int) : stepF 3 n x = imin n x := rfl

def endF (n : Int) : Tree := if who1 n = true then .tup [I n, I 0] else .tup [I 0, I 2]

theorem l34_spec {n : Nat} (op : Int) (hn : 70 ≤ n) : ∀ (r pre : List Int) (acc : Int) (q k : Nat), r.length < q → r.all who1 = true → lim acc k → k + r.length ≤ 1000 → (pre ++ r).length < 1000 →
    L34_0 n q op acc (T (pre ++ r)) (T (pre ++ r)).length pre.length = some (endF (foldV op acc r))
  | [], pre, acc, q, k, hq, hr, ha, hk, hl => by
    obtain ⟨q, rfl⟩ : ∃ q', q = q' + 1 := ⟨q - 1, by simp at hq; omega⟩
    have h70 := s70 [acc] (by simp) n (by simp; omega)
    rw [l34_0, bif_neg (by simp), show ([Tree.int .i64 acc] : List Tree) = [acc].map I from rfl, h70, Option.bind_some, ok_bool, cond_true, toBool_bool]
    simp only [List.all_cons, List.all_nil, Bool.and_true, foldV, endF]
    by_cases h : who1 acc = true <;> simp [h]
  | x :: r, pre, acc, q, k, hq, hr, ha, hk, hl => by
    obtain ⟨q, rfl⟩ : ∃ q', q = q' + 1 := ⟨q - 1, by simp at hq; omega⟩
    have hl' : pre.length + (r.length + 1) < 1000 := by simpa using hl
    simp only [List.length_cons] at hq hk
    simp only [List.all_cons, Bool.and_eq_true] at hr
    have w1 : IntKind.wrap .i64 ((pre.length : Int) + 1) = ((pre ++ [x]).length : Int) := by rw [w64 (by omega)]; simp
    have e1 : pre ++ [x] ++ r = pre ++ x :: r := by simp
    have hst := stepF_lim (op := op) ha hr.1
    have ih := l34_spec (n := n) op hn r (pre ++ [x]) (stepF op acc x) q (k + 1) (by omega) hr.2 hst (by omega) (by simpa using hl)
    rw [e1] at ih
    rw [l34_0, bif_pos (by simp; omega), bif_pos (by simp), nth_at (p := pre) (s := r) rfl (by simp), Option.bind_some, ok_int, cond_true, w1]
    simp only [toInt_int]
    by_cases o1 : op = 1
    · subst o1
      have : IntKind.wrap .i64 (acc + x) = stepF 1 acc x := by
        have := hst; unfold lim at this; rw [stepF_1] at this ⊢; exact w64 (by omega)
      rw [bif_pos (by rfl), this]; exact ih
    · rw [bif_neg (by simpa using o1)]
      by_cases o2 : op = 2
      · subst o2; rw [bif_pos (by rfl)]; exact ih
      · rw [bif_neg (by simpa using o2)]
        by_cases o3 : op = 3
        · subst o3; rw [bif_pos (by rfl)]; exact ih
        · rw [bif_neg (by simpa using o3)]
          have : stepF op acc x = acc := by simp [stepF, o1, o2, o3]
          rw [this] at ih
          rw [ih]; simp [foldV, this]

theorem l48_spec {n : Nat} (op : Int) : ∀ (r pre : List Int) (acc : Int) (q k : Nat), r.length < q → r.all who1 = true → lim acc k → k + r.length ≤ 1000 → (pre ++ r).length < 1000 →
    L48_0 n q (T (pre ++ r)) op acc pre.length = some (endF (foldV op acc r))
  | [], pre, acc, q, k, hq, hr, ha, hk, hl => by
    obtain ⟨q, rfl⟩ : ∃ q', q = q' + 1 := ⟨q - 1, by simp at hq; omega⟩
    rw [l48_0, bif_neg (by simp)]
    by_cases c1 : acc > 1099511627776
    · rw [bif_pos (by exact decide_eq_true c1)]
      have : who1 acc = false := by simp [who1]; omega
      simp [foldV, endF, this]
    · rw [bif_neg (by exact decide_eq_false c1)]
      by_cases c2 : acc < -1099511627776
      · rw [bif_pos (by exact decide_eq_true c2)]
        have : who1 acc = false := by simp [who1]; omega
        simp [foldV, endF, this]
      · rw [bif_neg (by exact decide_eq_false c2)]
        have : who1 acc = true := by simp [who1]; omega
        simp [foldV, endF, this]
  | x :: r, pre, acc, q, k, hq, hr, ha, hk, hl => by
    obtain ⟨q, rfl⟩ : ∃ q', q = q' + 1 := ⟨q - 1, by simp at hq; omega⟩
    have hl' : pre.length + (r.length + 1) < 1000 := by simpa using hl
    simp only [List.length_cons] at hq hk
    simp only [List.all_cons, Bool.and_eq_true] at hr
    have w1 : IntKind.wrap .i64 ((pre.length : Int) + 1) = ((pre ++ [x]).length : Int) := by rw [w64 (by omega)]; simp
    have e1 : pre ++ [x] ++ r = pre ++ x :: r := by simp
    have hst := stepF_lim (op := op) ha hr.1
    have ih := l48_spec (n := n) op r (pre ++ [x]) (stepF op acc x) q (k + 1) (by omega) hr.2 hst (by omega) (by simpa using hl)
    rw [e1] at ih
    have n1 : nth (T (pre ++ x :: r)) (Int.toNat (pre.length : Int)) = some (Tree.int .i64 x) := nth_at (p := pre) (s := r) rfl (by simp)
    have p0 : decide (0 ≤ (pre.length : Int)) = true := by simp
    rw [l48_0, bif_pos (by simp; omega)]
    simp only [n1, p0, cond_true, Option.bind_some, ok_int, toInt_int, w1]
    by_cases o1 : op = 1
    · subst o1
      have : IntKind.wrap .i64 (acc + x) = stepF 1 acc x := by
        have := hst; unfold lim at this; rw [stepF_1] at this ⊢; exact w64 (by omega)
      rw [bif_pos (by rfl), this]; exact ih
    · rw [bif_neg (by simpa using o1)]
      by_cases o2 : op = 2
      · subst o2; rw [bif_pos (by rfl)]; exact ih
      · rw [bif_neg (by simpa using o2)]
        by_cases o3 : op = 3
        · subst o3; rw [bif_pos (by rfl)]; exact ih
        · rw [bif_neg (by simpa using o3)]
          have : stepF op acc x = acc := by simp [stepF, o1, o2, o3]
          rw [this] at ih
          rw [ih]; simp [foldV, this]

def foldT (L : List Int) (op : Int) : Tree :=
  if listOk L = true then
    if op < 1 ∨ op > 4 then .tup [I 0, I 1]
    else if op = 4 ∨ L = [] then .tup [I L.length, I 0]
    else match L with
      | [] => .tup [I 0, I 0]
      | x :: r => endF (foldV op x r)
  else .tup [I 0, I 4]

theorem all_of_ok {L : List Int} (h : listOk L = true) : L.all who1 = true := by
  simp only [listOk, Bool.and_eq_true] at h; exact h.2

theorem lim_one {x : Int} (h : who1 x = true) : lim x 1 := by simp only [who1, decide_eq_true_eq] at h; unfold lim; omega

theorem s34 (L : List Int) (op : Int) : Ev E 1001 34 [.slc (T L), I op] (foldT L op) :=
  Ev.mk fun n hn => by
    rw [e34, s66 L n (by omega), Option.bind_some, ok_bool, cond_true, toBool_bool]
    unfold foldT
    cases hL : listOk L with
    | false => rw [bif_pos (c := !false) rfl]; rfl
    | true =>
      rw [bif_neg (c := !true) rfl, if_pos rfl]
      have h60 := listOk_len hL
      have hall := all_of_ok hL
      by_cases c1 : op < 1
      · rw [bif_pos (by exact decide_eq_true c1), if_pos (.inl c1)]
      · rw [bif_neg (by exact decide_eq_false c1)]
        by_cases c2 : op > 4
        · rw [bif_pos (by exact decide_eq_true c2), if_pos (.inr c2)]
        · rw [bif_neg (by exact decide_eq_false c2), if_neg (by omega)]
          by_cases c3 : op = 4
          · rw [bif_pos (by simp [c3]), if_pos (.inl c3)]; simp
          · rw [bif_neg (by simpa using c3)]
            cases L with
            | nil => rw [bif_pos (by simp), if_pos (.inr rfl)]; rfl
            | cons x r =>
              rw [bif_neg (by simp; omega), if_neg (by simp [c3])]
              simp only [List.all_cons, Bool.and_eq_true] at hall
              simp only [List.length_cons] at h60
              have e1 : List.drop (Int.toNat 1) (List.take (Int.toNat ((T (x :: r)).length : Int)) (T (x :: r))) = T r := by simp; exact List.take_of_length_le (by simp)
              rw [show nth (T (x :: r)) (Int.toNat 0) = some (Tree.int .i64 x) from rfl, Option.bind_some, ok_int, cond_true, bif_pos (by simp; omega), e1, Qc.allI_first (allI_T r), cond_true]
              exact l34_spec op (by omega) r [] x n 1 (by omega) hall.2 (lim_one hall.1) (by omega) (by simp; omega)

theorem s48 (L : List Int) (op : Int) : Ev E 1001 48 [.slc (T L), I op] (foldT L op) :=
  Ev.mk fun n hn => by
    rw [e48, s77 L n (by omega), Option.bind_some, ok_bool, cond_true, toBool_bool]
    unfold foldT
    cases hL : listOk L with
    | false => rw [bif_pos (c := !false) rfl]; rfl
    | true =>
      rw [bif_neg (c := !true) rfl, if_pos rfl]
      have h60 := listOk_len hL
      have hall := all_of_ok hL
      by_cases c1 : op < 1
      · rw [bif_pos (by exact decide_eq_true c1), if_pos (.inl c1)]
      · rw [bif_neg (by exact decide_eq_false c1)]
        by_cases c2 : op > 4
        · rw [bif_pos (by exact decide_eq_true c2), if_pos (.inr c2)]
        · rw [bif_neg (by exact decide_eq_false c2), if_neg (by omega)]
          by_cases c3 : op = 4
          · rw [bif_pos (by simp [c3]), if_pos (.inl c3)]; simp
          · rw [bif_neg (by simpa using c3)]
            cases L with
            | nil => rw [bif_pos (by simp), if_pos (.inr rfl)]; rfl
            | cons x r =>
              rw [bif_neg (by simp; omega), if_neg (by simp [c3])]
              simp only [List.all_cons, Bool.and_eq_true] at hall
              simp only [List.length_cons] at h60
              rw [show nth (T (x :: r)) (Int.toNat 0) = some (Tree.int .i64 x) from rfl, Option.bind_some, ok_int, cond_true]
              exact l48_spec op r [x] x n 1 (by omega) hall.2 (lim_one hall.1) (by omega) (by simp; omega)

/-! ### counts -/
theorem l47_spec {n : Nat} (x : Int) : ∀ (r pre : List Int) (q k : Nat), r.length < q → (pre ++ r).length < 1000 → k ≤ pre.length →
    L47_0 n q (T (pre ++ r)) x k pre.length = some (.tup [I ((k + cnt x r : Nat) : Int), I 0])
  | [], pre, q, k, hq, hl, hk => by
    obtain ⟨q, rfl⟩ : ∃ q', q = q' + 1 := ⟨q - 1, by simp at hq; omega⟩
    rw [l47_0, bif_neg (by simp)]; simp [cnt]
  | y :: r, pre, q, k, hq, hl, hk => by
    obtain ⟨q, rfl⟩ : ∃ q', q = q' + 1 := ⟨q - 1, by simp at hq; omega⟩
    have hl' : pre.length + (r.length + 1) < 1000 := by simpa using hl
    have w1 : IntKind.wrap .i64 ((pre.length : Int) + 1) = ((pre ++ [y]).length : Int) := by rw [w64 (by omega)]; simp
    have w2 : IntKind.wrap .i64 ((k : Int) + 1) = ((k + 1 : Nat) : Int) := by rw [w64 (by omega)]; simp
    rw [l47_0, bif_pos (by simp; omega), bif_pos (by simp), nth_at (p := pre) (s := r) rfl (by simp), Option.bind_some, ok_int, cond_true, w1, w2]
    simp only [toInt_int]
    have e1 : pre ++ [y] ++ r = pre ++ y :: r := by simp
    by_cases e : x = y
    · rw [bif_pos (by simp [e])]
      have ih := l47_spec (n := n) x r (pre ++ [y]) q (k + 1) (by simp at hq; omega) (by simpa using hl) (by simp; omega)
      rw [e1] at ih
      rw [ih]; simp only [cnt, if_pos e]
      rw [Nat.add_assoc]
    · rw [bif_neg (by simp; exact fun h => e h.symm)]
      have ih := l47_spec (n := n) x r (pre ++ [y]) q k (by simp at hq; omega) (by simpa using hl) (by simp; omega)
      rw [e1] at ih
      rw [ih]; simp only [cnt, if_neg e]
      rw [Nat.zero_add]

def countT (L : List Int) (x : Int) (M : List Int) : Tree := if listOk L = true then .tup [I (cnt x M : Nat), I 0] else .tup [I 0, I 4]

theorem s47 (L : List Int) (x : Int) : Ev E 1001 47 [.slc (T L), I x] (countT L x L) :=
  Ev.mk fun n hn => by
    rw [e47, s77 L n (by omega), Option.bind_some, ok_bool, cond_true, toBool_bool]
    unfold countT
    cases hL : listOk L with
    | false => rw [bif_pos (c := !false) rfl]; rfl
    | true =>
      rw [bif_neg (c := !true) rfl, if_pos rfl]
      have h60 := listOk_len hL
      have := l47_spec (n := n) x L [] n 0 (by omega) (by simp; omega) (Nat.le_refl _)
      simpa using this

theorem s35 (L : List Int) (x : Int) : Ev E 1002 35 [.slc (T L), I x] (countT L x (sortL L)) :=
  Ev.mk fun n hn => by
    rw [e35, s66 L n (by omega), Option.bind_some, ok_bool, cond_true, toBool_bool]
    unfold countT
    cases hL : listOk L with
    | false => rw [bif_pos (c := !false) rfl]; rfl
    | true =>
      have h60 := listOk_len hL
      rw [bif_neg (c := !true) rfl, if_pos rfl, s68 L (by omega) n (by omega), Option.bind_some, ok_slc, cond_true, elems_slc, s71 (sortL L) x (by rw [sortL_length]; omega) n (by omega), Option.bind_some, ok_int, cond_true, toInt_int]

end Go.Proofs.Bw.Qb
