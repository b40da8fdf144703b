/-
  QUOT: specs of the functions on lists of numbers, 2: numbers put into a list.
-/
import Derived.Test.YtfkidinbolmkiaaQbL1
set_option linter.unusedSimpArgs false
set_option linter.unusedVariables false
namespace Go.Proofs.Bw.Qb
open Go.Proofs

/-- A number put into an ascending list; 'once': not where it is there. -/
def ins (once : Bool) (x : Int) : List Int → List Int
  | [] => [x]
  | y :: r => if x ≤ y then (if once = true ∧ x = y then y :: r else x :: y :: r) else y :: ins once x r

theorem T_snoc (L : List Int) (x : Int) : T L ++ [Tree.int .i64 x] = T (L ++ [x]) := by simp [T]

theorem fits {a b : Nat} (h : (a + b) * 8 ≤ 140737488355328) : (Nat.beq 1 1 && Nat.ble ((a + b) * 8) 140737488355328) = true := by
  rw [Bool.and_eq_true]; exact ⟨rfl, Nat.ble_eq_true_of_le h⟩

theorem l79_spec {n : Nat} (x : Int) (once : Bool) : ∀ (r pre out : List Int) (d : Bool) (q : Nat), r.length < q → (pre ++ r).length < 1000 → out.length ≤ 2 * pre.length + 2 →
    L79_0b n q (T (pre ++ r)) x once d pre.length (T out) = some (.slc (T (if d = true then out ++ r else out ++ ins once x r)))
  | [], pre, out, d, q, hq, hl, ho => by
    obtain ⟨q, rfl⟩ : ∃ q', q = q' + 1 := ⟨q - 1, by simp at hq; omega⟩
    rw [l79_0b, bif_neg (by simp)]
    cases d with
    | true => simp
    | false =>
      have hl' : pre.length < 1000 := by simpa using hl
      rw [bif_pos (c := !false) rfl, bif_pos (fits (by simp; omega)), T_snoc]; simp [ins]
  | y :: r, pre, out, d, q, hq, hl, ho => by
    obtain ⟨q, rfl⟩ : ∃ q', q = q' + 1 := ⟨q - 1, by simp at hq; omega⟩
    have hl' : pre.length + (r.length + 1) < 1000 := by simpa using hl
    have w1 : IntKind.wrap .i64 ((pre.length : Int) + 1) = ((pre ++ [y]).length : Int) := by rw [w64 (by omega)]; simp
    have n1 : nth (T (pre ++ y :: r)) (Int.toNat (pre.length : Int)) = some (Tree.int .i64 y) := nth_at (p := pre) (s := r) rfl (by simp)
    have e1 : pre ++ [y] ++ r = pre ++ y :: r := by simp
    have p0 : decide (0 ≤ (pre.length : Int)) = true := by simp
    have ih := fun (out' : List Int) (d' : Bool) (h : out'.length ≤ 2 * pre.length + 4) => l79_spec (n := n) x once r (pre ++ [y]) out' d' q (by simp at hq; omega) (by simpa using hl) (by simp; omega)
    rw [e1] at ih
    rw [l79_0b, bif_pos (by simp; omega)]
    simp only [n1, p0, cond_true, Option.bind_some, ok_int, open_int, toInt_int, w1, T_snoc]
    cases d with
    | true =>
      rw [bif_neg (c := !true) rfl, bif_pos (fits (by simp; omega)), ih (out ++ [y]) true (by simp; omega)]
      simp
    | false =>
      rw [bif_pos (c := !false) rfl]
      by_cases hxy : x ≤ y
      · rw [bif_pos (by exact decide_eq_true hxy)]
        cases once with
        | false =>
          rw [cond_false, bif_pos (fits (by simp; omega)), bif_pos (fits (by simp; omega)), ih (out ++ [x] ++ [y]) true (by simp; omega)]
          simp [ins, hxy]
        | true =>
          rw [cond_true]
          by_cases he : x = y
          · rw [bif_neg (by simp [he]), bif_pos (fits (by simp; omega)), ih (out ++ [y]) true (by simp; omega)]
            simp [ins, he]
          · rw [bif_pos (by simp [he]), bif_pos (fits (by simp; omega)), bif_pos (fits (by simp; omega)), ih (out ++ [x] ++ [y]) true (by simp; omega)]
            simp [ins, hxy, he]
      · rw [bif_neg (by exact decide_eq_false hxy), bif_pos (fits (by simp; omega)), ih (out ++ [y]) false (by simp; omega)]
        simp [ins, hxy]

theorem s79 (L : List Int) (x : Int) (once : Bool) (h : L.length < 999) : Ev E 1001 79 [.slc (T L), .int .i64 x, .bool once] (.slc (T (ins once x L))) :=
  Ev.mk fun n hn => by
    rw [e79]
    obtain ⟨q, hq⟩ : ∃ q', n = q' + 1 := ⟨n - 1, by omega⟩
    cases L with
    | nil =>
      conv => lhs; arg 2; rw [hq]
      rw [l79_0, bif_neg (by simp), bif_pos (c := !false) rfl]; rfl
    | cons y r =>
      have w1 : IntKind.wrap .i64 ((0 : Int) + 1) = (([y] : List Int).length : Int) := by rw [w64 (by omega)]; simp
      have n1 : nth (T (y :: r)) (Int.toNat 0) = some (Tree.int .i64 y) := rfl
      have p0 : decide (0 ≤ (0 : Int)) = true := by simp
      simp only [List.length_cons] at h
      have hs := fun (out : List Int) (d : Bool) (ho : out.length ≤ 2) => l79_spec (n := n) x once r [y] out d q (by omega) (by simp; omega) (by simp; omega)
      have t1 : ([Tree.int .i64 y] : List Tree) = T [y] := rfl
      have t2 : ([Tree.int .i64 x, Tree.int .i64 y] : List Tree) = T [x, y] := rfl
      conv => lhs; arg 2; rw [hq]
      rw [l79_0, bif_pos (by simp <;> omega)]
      simp only [n1, p0, cond_true, Option.bind_some, ok_int, open_int, toInt_int, w1]
      rw [bif_pos (c := !false) rfl]
      by_cases hxy : x ≤ y
      · rw [bif_pos (by exact decide_eq_true hxy)]
        cases once with
        | false =>
          rw [cond_false, t2]
          have := hs [x, y] true (by simp)
          rw [show T (y :: r) = T ([y] ++ r) from rfl, this]; simp [ins, hxy]
        | true =>
          rw [cond_true]
          by_cases he : x = y
          · rw [bif_neg (by simp [he]), t1]
            have := hs [y] true (by simp)
            rw [show T (y :: r) = T ([y] ++ r) from rfl, this]; simp [ins, he]
          · rw [bif_pos (by simp [he]), t2]
            have := hs [x, y] true (by simp)
            rw [show T (y :: r) = T ([y] ++ r) from rfl, this]; simp [ins, hxy, he]
      · rw [bif_neg (by exact decide_eq_false hxy), t1]
        have := hs [y] false (by simp)
        rw [show T (y :: r) = T ([y] ++ r) from rfl, this]; simp [ins, hxy]

theorem s67 (L : List Int) : Ev E 1 67 [.slc (T L)] (if L.length ≤ 60 then .tup [.slc (T L), I 0] else .tup [.slc [], I 2]) :=
  Ev.mk fun n hn => by
    rw [e67]
    by_cases h : L.length ≤ 60
    · rw [bif_neg (by simp; omega), if_pos h]
    · rw [bif_pos (by simp; omega), if_neg h]

end Go.Proofs.Bw.Qb
