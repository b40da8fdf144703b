/-
  QUOT: specs of the functions on lists of numbers, 1.
-/
import Derived.Test.YtfkidinbolmkiaaQbE9
import Derived.Test.YtfkidinbolmkiaaQbS1
set_option linter.unusedSimpArgs false
set_option linter.unusedVariables false
namespace Go.Proofs.Bw.Qb
open Go.Proofs

abbrev T (L : List Int) : List Tree := L.map (Tree.int .i64)

theorem nth_at {L p s : List Int} {x : Int} {i : Nat} (h : L = p ++ x :: s) (hi : i = p.length) : nth (T L) i = some (Tree.int .i64 x) := Qc.nth_at h hi

theorem allI_T : ∀ L : List Int, allI (T L) = true
  | [] => rfl
  | _ :: r => allI_T r

theorem toInt_T (L : List Int) : (T L).map Tree.toInt = L := by
  rw [List.map_map]; conv => rhs; rw [← List.map_id L]
  rfl

theorem rowC_T {L : List Int} (h : L.length < 128) : Qc.rowC (T L) = true := by
  unfold Qc.rowC; rw [allI_T]; simpa using h

def sortL (L : List Int) : List Int := L.mergeSort fun x y => decide (x ≤ y)

theorem sortT_T (L : List Int) : sortT (T L) = T (sortL L) := by unfold sortT sortL; rw [toInt_T]
theorem sortL_length (L : List Int) : (sortL L).length = L.length := by simp [sortL]

/-- What the library takes for a list. -/
def listOk (L : List Int) : Bool := decide (L.length ≤ 60) && L.all who1

theorem listOk_len {L : List Int} (h : listOk L = true) : L.length ≤ 60 := by
  simp only [listOk, Bool.and_eq_true, decide_eq_true_eq] at h; exact h.1

theorem s66 (L : List Int) : Ev E 66 66 [.slc (T L)] (.bool (listOk L)) :=
  Ev.mk fun n hn => by
    rw [e66]
    by_cases h : L.length ≤ 60
    · rw [bif_pos (by simp; omega), s70 L (by omega) n (by omega), Option.bind_some, ok_bool, cond_true, toBool_bool]
      simp [listOk, h]
    · rw [bif_neg (by simp; omega)]
      simp [listOk, h]

theorem p68 (n : Nat) (l : List Tree) : evP (Tab.env tab) (n + 1) 68 [Tree.slc l] =
  Option.bind (bif true && Qc.rowC l then some (AV.hsl 0 none, [HObj.tre (.int .i64) (sortT l)]) else none) fun r => toTree (fun _ => true) (rdH r.2) depth r.1 := by kernel_rfl
theorem p69 (n : Nat) (a b : List Tree) : evP (Tab.env tab) (n + 1) 69 [Tree.slc [Tree.slc a, Tree.slc b]] =
  Option.bind (bif true && (Qc.rowC a && Qc.rowC b) then some (AV.hsl 0 none, [HObj.tre (.int .i64) (a ++ b)]) else none) fun r => toTree (fun _ => true) (rdH r.2) depth r.1 := by kernel_rfl

theorem s68 (L : List Int) (h : L.length < 128) : Ev E 1 68 [.slc (T L)] (.slc (T (sortL L))) := by
  intro n hn
  obtain ⟨n, rfl⟩ : ∃ m, n = m + 1 := ⟨n - 1, by omega⟩
  rw [p68, rowC_T h, sortT_T]; rfl

theorem s69 (A B : List Int) (h : A.length < 128) (k : B.length < 128) : Ev E 1 69 [.slc [.slc (T A), .slc (T B)]] (.slc (T (A ++ B))) := by
  intro n hn
  obtain ⟨n, rfl⟩ : ∃ m, n = m + 1 := ⟨n - 1, by omega⟩
  rw [p69, rowC_T h, rowC_T k, show T (A ++ B) = T A ++ T B from List.map_append]; rfl

theorem l38_spec {n : Nat} : ∀ (a b pa pb : List Int) (q : Nat), a.length = b.length → pa.length = pb.length → a.length < q → (pa ++ a).length < 1000 →
    L38_0 n q (T (pa ++ a)) (T (pb ++ b)) pa.length = some (.bool (decide (a = b)))
  | [], [], pa, pb, q, _, _, hq, hl => by
    obtain ⟨q, rfl⟩ : ∃ q', q = q' + 1 := ⟨q - 1, by simp at hq; omega⟩
    rw [l38_0, bif_neg (by simp)]; simp
  | x :: a, y :: b, pa, pb, q, h, hp, hq, hl => by
    obtain ⟨q, rfl⟩ : ∃ q', q = q' + 1 := ⟨q - 1, by simp at hq; omega⟩
    rw [l38_0, bif_pos (by simp; omega), bif_pos (by simp), nth_at (p := pa) (s := a) rfl (by simp), Option.bind_some, ok_int, cond_true, bif_pos (by simp), nth_at (p := pb) (s := b) rfl (by simp [hp]), Option.bind_some, ok_int, cond_true]
    simp only [toInt_int]
    by_cases e : x = y
    · subst e
      rw [bif_neg (by simp), w64 (by simp at hl; omega)]
      have ih := l38_spec (n := n) a b (pa ++ [x]) (pb ++ [x]) q (by simpa using h) (by simp [hp]) (by simp at hq; omega) (by simpa using hl)
      simpa using ih
    · rw [bif_pos (by simp [e])]; simp [e]

theorem s38 (A B : List Int) (h : A.length < 1000) : Ev E 1001 38 [.slc (T A), .slc (T B)] (.bool (decide (A = B))) :=
  Ev.mk fun n hn => by
    rw [e38]
    by_cases e : A.length = B.length
    · rw [bif_neg (by simp [e])]
      exact l38_spec A B [] [] n e rfl (by omega) (by simpa using h)
    · rw [bif_pos (by simp; omega)]
      have : A ≠ B := fun x => e (by rw [x])
      simp [this]

/-- How often a number is there. -/
def cnt (x : Int) : List Int → Nat
  | [] => 0
  | y :: r => (if x = y then 1 else 0) + cnt x r

theorem cnt_le (x : Int) : ∀ L : List Int, cnt x L ≤ L.length
  | [] => Nat.le_refl _
  | y :: r => by have := cnt_le x r; simp only [cnt, List.length_cons]; split <;> omega

theorem l71_spec {n : Nat} (x : Int) : ∀ (r pre : List Int) (q k : Nat), r.length < q → (pre ++ r).length < 1000 → k ≤ pre.length →
    L71_0 n q x k (T (pre ++ r)) (T (pre ++ r)).length pre.length = some (.int .i64 ((k + cnt x r : Nat) : Int))
  | [], pre, q, k, hq, hl, hk => by
    obtain ⟨q, rfl⟩ : ∃ q', q = q' + 1 := ⟨q - 1, by simp at hq; omega⟩
    rw [l71_0, bif_neg (by simp)]; simp [cnt]
  | y :: r, pre, q, k, hq, hl, hk => by
    obtain ⟨q, rfl⟩ : ∃ q', q = q' + 1 := ⟨q - 1, by simp at hq; omega⟩
    have hl' : pre.length + (r.length + 1) < 1000 := by simpa using hl
    have w1 : IntKind.wrap .i64 ((pre.length : Int) + 1) = ((pre ++ [y]).length : Int) := by rw [w64 (by omega)]; simp
    have w2 : IntKind.wrap .i64 ((k : Int) + 1) = ((k + 1 : Nat) : Int) := by rw [w64 (by omega)]; simp
    rw [l71_0, bif_pos (by simp; omega), bif_pos (by simp), nth_at (p := pre) (s := r) rfl (by simp), Option.bind_some, ok_int, cond_true, w1, w2]
    simp only [toInt_int]
    have e1 : pre ++ [y] ++ r = pre ++ y :: r := by simp
    by_cases e : x = y
    · rw [bif_pos (by simp [e])]
      have ih := l71_spec (n := n) x r (pre ++ [y]) q (k + 1) (by simp at hq; omega) (by simpa using hl) (by simp; omega)
      rw [e1] at ih
      rw [ih]; simp only [cnt, if_pos e]
      rw [Nat.add_assoc]
    · rw [bif_neg (by simp [e])]
      have ih := l71_spec (n := n) x r (pre ++ [y]) q k (by simp at hq; omega) (by simpa using hl) (by simp; omega)
      rw [e1] at ih
      rw [ih]; simp only [cnt, if_neg e]
      rw [Nat.zero_add]

theorem s71 (L : List Int) (x : Int) (h : L.length < 1000) : Ev E 1001 71 [.slc (T L), .int .i64 x] (.int .i64 (cnt x L : Nat)) :=
  Ev.mk fun n hn => by
    rw [e71]
    have := l71_spec (n := n) x L [] n 0 (by omega) (by simpa using h) (Nat.le_refl _)
    simpa using this

theorem l77_spec {n : Nat} : ∀ (r pre : List Int) (q : Nat), r.length < q → (pre ++ r).length < 1000 → L77_0 n q (T (pre ++ r)) pre.length = some (.bool (r.all who1))
  | [], pre, q, hq, hl => by
    obtain ⟨q, rfl⟩ : ∃ q', q = q' + 1 := ⟨q - 1, by simp at hq; omega⟩
    rw [l77_0, bif_neg (by simp)]; rfl
  | y :: r, pre, q, hq, hl => by
    obtain ⟨q, rfl⟩ : ∃ q', q = q' + 1 := ⟨q - 1, by simp at hq; omega⟩
    have hl' : pre.length + (r.length + 1) < 1000 := by simpa using hl
    have w1 : IntKind.wrap .i64 ((pre.length : Int) + 1) = ((pre ++ [y]).length : Int) := by rw [w64 (by omega)]; simp
    have n1 : nth (T (pre ++ y :: r)) (Int.toNat (pre.length : Int)) = some (Tree.int .i64 y) := nth_at (p := pre) (s := r) rfl (by simp)
    rw [l77_0, bif_pos (by simp; omega), bif_pos (by simp), n1, Option.bind_some, ok_int, cond_true, w1]
    simp only [toInt_int]
    by_cases c1 : y < -1099511627776
    · rw [bif_pos (by exact decide_eq_true c1)]
      have : who1 y = false := by simp [who1]; omega
      simp [this]
    · rw [bif_neg (by exact decide_eq_false c1), bif_pos (by simp), Option.bind_some, ok_int, cond_true]
      simp only [toInt_int]
      by_cases c2 : y > 1099511627776
      · rw [bif_pos (by exact decide_eq_true c2)]
        have : who1 y = false := by simp [who1]; omega
        simp [this]
      · rw [bif_neg (by exact decide_eq_false c2)]
        have : who1 y = true := by simp [who1]; omega
        have ih := l77_spec (n := n) r (pre ++ [y]) q (by simp at hq; omega) (by simpa using hl)
        have e1 : pre ++ [y] ++ r = pre ++ y :: r := by simp
        rw [e1] at ih
        rw [ih]; simp [this]

theorem s77 (L : List Int) : Ev E 100 77 [.slc (T L)] (.bool (listOk L)) :=
  Ev.mk fun n hn => by
    rw [e77]
    by_cases h : L.length ≤ 60
    · rw [bif_neg (by simp; omega)]
      have := l77_spec (n := n) L [] n (by omega) (by simp; omega)
      simp only [List.nil_append, List.length_nil] at this
      rw [show ((0 : Nat) : Int) = 0 from rfl] at this
      rw [this]; simp [listOk, h]
    · rw [bif_pos (by simp; omega)]; simp [listOk, h]

theorem l78_spec {n : Nat} (x : Int) : ∀ (r pre : List Int) (q : Nat), r.length < q → (pre ++ r).length < 1000 → L78_0 n q (T (pre ++ r)) x pre.length = some (.int .i64 (idxF (fun y => y == x) pre.length r))
  | [], pre, q, hq, hl => by
    obtain ⟨q, rfl⟩ : ∃ q', q = q' + 1 := ⟨q - 1, by simp at hq; omega⟩
    rw [l78_0, bif_neg (by simp)]; rfl
  | y :: r, pre, q, hq, hl => by
    obtain ⟨q, rfl⟩ : ∃ q', q = q' + 1 := ⟨q - 1, by simp at hq; omega⟩
    have hl' : pre.length + (r.length + 1) < 1000 := by simpa using hl
    have w1 : IntKind.wrap .i64 ((pre.length : Int) + 1) = ((pre ++ [y]).length : Int) := by rw [w64 (by omega)]; simp
    rw [l78_0, bif_pos (by simp; omega), bif_pos (by simp), nth_at (p := pre) (s := r) rfl (by simp), Option.bind_some, ok_int, cond_true, w1]
    simp only [toInt_int, idxF]
    cases y == x with
    | true => rfl
    | false =>
      have ih := l78_spec (n := n) x r (pre ++ [y]) q (by simp at hq; omega) (by simpa using hl)
      have e1 : pre ++ [y] ++ r = pre ++ y :: r := by simp
      rw [e1] at ih
      simp only [cond_false]
      rw [ih]; simp

theorem s78 (L : List Int) (x : Int) (h : L.length < 1000) : Ev E 1001 78 [.slc (T L), .int .i64 x] (.int .i64 (idxF (fun y => y == x) 0 L)) :=
  Ev.mk fun n hn => by
    rw [e78]
    exact l78_spec x L [] n (by omega) (by simpa using h)

end Go.Proofs.Bw.Qb
