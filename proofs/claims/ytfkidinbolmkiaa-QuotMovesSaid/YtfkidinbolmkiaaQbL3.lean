/-
  QUOT: specs of the functions on lists of numbers, 3: the reference's lists.
-/
import Derived.Test.YtfkidinbolmkiaaQbL2
set_option linter.unusedSimpArgs false
set_option linter.unusedVariables false
namespace Go.Proofs.Bw.Qb
open Go.Proofs

def insAll (once : Bool) (out : List Int) : List Int → List Int
  | [] => out
  | x :: r => insAll once (ins once x out) r

theorem ins_length (once : Bool) (x : Int) : ∀ L : List Int, (ins once x L).length ≤ L.length + 1
  | [] => Nat.le_refl _
  | y :: r => by
    have := ins_length once x r
    simp only [ins]
    split
    · split <;> simp
    · simp only [List.length_cons]; omega

theorem insAll_length (once : Bool) : ∀ (L out : List Int), (insAll once out L).length ≤ out.length + L.length
  | [], out => Nat.le_refl _
  | x :: r, out => by
    have h1 := insAll_length once r (ins once x out)
    have h2 := ins_length once x out
    simp only [insAll, List.length_cons]; omega

abbrev LT (LL : List (List Int)) : List Tree := LL.map fun L => Tree.slc (T L)

theorem nth_LT {LL P S : List (List Int)} {L : List Int} {i : Nat} (h : LL = P ++ L :: S) (hi : i = P.length) : nth (LT LL) i = some (Tree.slc (T L)) := by
  subst h; subst hi
  rw [nth_map, nth_app]; rfl

def tooLong : Tree := .tup [.slc [], I 2]
def badForm : Tree := .tup [.slc [], I 4]

def madeR (once : Bool) (out : List Int) : List (List Int) → Tree
  | [] => if out.length ≤ 60 then .tup [.slc (T out), I 0] else tooLong
  | L :: S => if listOk L = true then madeR once (insAll once out L) S else badForm

theorem inner_b {n q2 : Nat} {once : Bool} {P S : List (List Int)} {L : List Int} {LL : List (List Int)} (hn : 1001 ≤ n) (hLL : LL = P ++ L :: S) : ∀ (r pre out : List Int) (q : Nat), L = pre ++ r → r.length < q → L.length ≤ 60 → out.length + r.length < 999 →
    L76_1b n q q2 once (LT LL) (T out) P.length pre.length = L76_0b n q2 once (LT LL) (T (insAll once out r)) (IntKind.wrap .i64 ((P.length : Int) + 1))
  | [], pre, out, q, hL, hq, h60, ho => by
    obtain ⟨q, rfl⟩ : ∃ q', q = q' + 1 := ⟨q - 1, by simp at hq; omega⟩
    have n1 : nth (LT LL) (Int.toNat (P.length : Int)) = some (Tree.slc (T L)) := nth_LT hLL (by simp)
    have hp : (pre.length : Int) = L.length := by rw [hL]; simp
    rw [l76_1b, bif_pos (by simp), n1, Option.bind_some, ok_slc, cond_true, elems_slc, bif_neg (by simp [hp])]
    rfl
  | x :: r, pre, out, q, hL, hq, h60, ho => by
    obtain ⟨q, rfl⟩ : ∃ q', q = q' + 1 := ⟨q - 1, by simp at hq; omega⟩
    have n1 : nth (LT LL) (Int.toNat (P.length : Int)) = some (Tree.slc (T L)) := nth_LT hLL (by simp)
    have n2 : nth (T L) (Int.toNat (pre.length : Int)) = some (Tree.int .i64 x) := nth_at (p := pre) (s := r) hL (by simp)
    have hl : L.length = pre.length + (r.length + 1) := by rw [hL]; simp
    simp only [List.length_cons] at ho hq
    have w1 : IntKind.wrap .i64 ((pre.length : Int) + 1) = ((pre ++ [x]).length : Int) := by rw [w64 (by omega)]; simp
    have h79 := s79 out x once (by omega) n hn
    have := ins_length once x out
    have ih := inner_b (n := n) (q2 := q2) (once := once) hn hLL r (pre ++ [x]) (ins once x out) q (by rw [hL]; simp) (by omega) h60 (by omega)
    rw [l76_1b, bif_pos (by simp), n1, Option.bind_some, ok_slc, cond_true, elems_slc, bif_pos (by simp; omega), bif_pos (by simp), Option.bind_some, ok_slc, cond_true, elems_slc, bif_pos (by simp), n2, Option.bind_some, ok_int, cond_true, toInt_int, h79, Option.bind_some, ok_slc, cond_true, elems_slc, w1, ih]
    rfl

theorem outer_b {n : Nat} {once : Bool} (hn : 1001 ≤ n) : ∀ (S P : List (List Int)) (out : List Int) (q : Nat), S.length < q → out.length + 60 * S.length ≤ 300 → P.length + S.length < 100 →
    L76_0b n q once (LT (P ++ S)) (T out) P.length = some (madeR once out S)
  | [], P, out, q, hq, ho, hP => by
    obtain ⟨q, rfl⟩ : ∃ q', q = q' + 1 := ⟨q - 1, by simp at hq; omega⟩
    rw [l76_0b, bif_neg (by simp)]
    by_cases h : out.length ≤ 60
    · rw [bif_neg (by simp; omega)]; simp [madeR, h]
    · rw [bif_pos (by simp; omega)]; simp [madeR, h, tooLong]
  | L :: S, P, out, q, hq, ho, hP => by
    obtain ⟨q, rfl⟩ : ∃ q', q = q' + 1 := ⟨q - 1, by simp at hq; omega⟩
    simp only [List.length_cons] at hq ho hP
    have n1 : nth (LT (P ++ L :: S)) (Int.toNat (P.length : Int)) = some (Tree.slc (T L)) := nth_LT rfl (by simp)
    have w1 : IntKind.wrap .i64 ((P.length : Int) + 1) = ((P ++ [L]).length : Int) := by rw [w64 (by omega)]; simp
    rw [l76_0b, bif_pos (by simp; omega), bif_pos (by simp), n1, Option.bind_some, ok_slc, cond_true, elems_slc, s77 L n (by omega), Option.bind_some, ok_bool, cond_true, toBool_bool]
    cases hL : listOk L with
    | false => rw [bif_pos (c := !false) rfl]; simp [madeR, hL, badForm]
    | true =>
      have h60 := listOk_len hL
      rw [bif_neg (c := !true) rfl]
      have hi := inner_b (n := n) (q2 := q) (once := once) (P := P) (S := S) (LL := P ++ L :: S) hn rfl L [] out n rfl (by omega) h60 (by omega)
      rw [show (([] : List Int).length : Int) = 0 from rfl] at hi
      rw [hi, w1]
      have := insAll_length once L out
      have ih := outer_b (n := n) (once := once) hn S (P ++ [L]) (insAll once out L) q (by omega) (by omega) (by simp; omega)
      have e1 : P ++ [L] ++ S = P ++ L :: S := by simp
      rw [e1] at ih
      rw [ih]; simp [madeR, hL]

theorem outer_a {n : Nat} {once : Bool} (hn : 1001 ≤ n) : ∀ (S P : List (List Int)) (q : Nat), S.length < q → 60 * S.length ≤ 300 → P.length + S.length < 100 →
    L76_0 n q once (LT (P ++ S)) P.length = some (madeR once [] S)
  | [], P, q, hq, ho, hP => by
    obtain ⟨q, rfl⟩ : ∃ q', q = q' + 1 := ⟨q - 1, by simp at hq; omega⟩
    rw [l76_0, bif_neg (by simp)]; simp [madeR]
  | L :: S, P, q, hq, ho, hP => by
    obtain ⟨q, rfl⟩ : ∃ q', q = q' + 1 := ⟨q - 1, by simp at hq; omega⟩
    simp only [List.length_cons] at hq ho hP
    have n1 : nth (LT (P ++ L :: S)) (Int.toNat (P.length : Int)) = some (Tree.slc (T L)) := nth_LT rfl (by simp)
    have w1 : IntKind.wrap .i64 ((P.length : Int) + 1) = ((P ++ [L]).length : Int) := by rw [w64 (by omega)]; simp
    have e1 : P ++ [L] ++ S = P ++ L :: S := by simp
    rw [l76_0, bif_pos (by simp; omega), bif_pos (by simp), n1, Option.bind_some, ok_slc, cond_true, elems_slc, s77 L n (by omega), Option.bind_some, ok_bool, cond_true, toBool_bool]
    cases hL : listOk L with
    | false => rw [bif_pos (c := !false) rfl]; simp [madeR, hL, badForm]
    | true =>
      have h60 := listOk_len hL
      rw [bif_neg (c := !true) rfl]
      obtain ⟨n', hn'⟩ : ∃ n', n = n' + 1 := ⟨n - 1, by omega⟩
      conv => lhs; arg 2; rw [hn']
      cases L with
      | nil =>
        rw [l76_1, bif_pos (by simp), n1, Option.bind_some, ok_slc, cond_true, elems_slc, bif_neg (by simp), w1]
        have ih := outer_a (n := n) (once := once) hn S (P ++ [[]]) q (by omega) (by omega) (by simp; omega)
        rw [e1] at ih
        rw [ih]; simp [madeR, hL, insAll]
      | cons x r =>
        have n2 : nth (T (x :: r)) (Int.toNat 0) = some (Tree.int .i64 x) := rfl
        have w2 : IntKind.wrap .i64 ((0 : Int) + 1) = (([x] : List Int).length : Int) := by rw [w64 (by omega)]; simp
        have h79 := s79 [] x once (by simp) n hn
        have hi := inner_b (n := n) (q2 := q) (once := once) (P := P) (S := S) (LL := P ++ (x :: r) :: S) hn rfl r [x] (ins once x []) n' rfl (by simp at h60; omega) h60 (by simp [ins] at h60 ⊢; omega)
        rw [l76_1, bif_pos (by simp), n1, Option.bind_some, ok_slc, cond_true, elems_slc, bif_pos (by simp <;> omega), bif_pos (by simp), Option.bind_some, ok_slc, cond_true, elems_slc, bif_pos (by simp), n2, Option.bind_some, ok_int, cond_true, toInt_int, show (Tree.slc [] : Tree) = .slc (T []) from rfl, h79, Option.bind_some, ok_slc, cond_true, elems_slc, w2, hi, w1]
        have := insAll_length once r (ins once x [])
        have ih := outer_b (n := n) (once := once) hn S (P ++ [x :: r]) (insAll once (ins once x []) r) q (by omega) (by simp [ins] at this h60 ⊢; omega) (by simp; omega)
        rw [e1] at ih
        rw [ih]; simp [madeR, hL, insAll]

theorem s76 (once : Bool) (LL : List (List Int)) (h : LL.length ≤ 2) : Ev E 1101 76 [.bool once, .slc (LT LL)] (madeR once [] LL) :=
  Ev.mk fun n hn => by
    rw [e76]
    exact outer_a (by omega) LL [] n (by omega) (by omega) (by simp; omega)

end Go.Proofs.Bw.Qb
