/-
  SPECS 1: ranges of numbers; integers as pairs.
-/
import Derived.Test.YtfkidinbolmkiaaQbE1
import Derived.Test.YtfkidinbolmkiaaBw4
set_option linter.unusedSimpArgs false
set_option linter.unusedVariables false
namespace Go.Proofs.Bw.Qb
open Go.Proofs

abbrev E : Env := Tab.env tab

/-- The place of the first element with a property, counted from i. -/
def idxF (P : Int → Bool) : Int → List Int → Int
  | _, [] => -1
  | i, x :: l => bif P x then i else idxF P (i + 1) l

theorem idxF_ge (P : Int → Bool) : ∀ (l : List Int) (i : Int), 0 ≤ i → decide (idxF P i l ≥ 0) = l.any P
  | [], i, h => by simp [idxF]
  | x :: l, i, h => by
    simp only [idxF, List.any_cons]
    by_cases hp : P x = true
    · simp [hp, h]
    · have e := idxF_ge P l (i + 1) (by omega)
      simpa [hp] using e

theorem l101_spec {g : Nat} {p cc : List Tree} {P : Int → Bool} {c n : Nat} (hf : ∀ x, Ev E c g (p ++ [I x] ++ cc) (.bool (P x))) (hc : c ≤ n) :
    ∀ (r pre : List Int) (q : Nat), r.length < q → ((pre ++ r).length : Int) ≤ 1000000000 →
    evL E n 101 [1, 0, 1, 0] [q] { ts := [AV.t (Tree.slc ((pre ++ r).map I)), AV.t (Tree.fn g p cc), AV.any, AV.any, AV.any, AV.any, AV.any, AV.t (Tree.int IntKind.i64 ((pre ++ r).map I).length), AV.t (Tree.int IntKind.i64 pre.length), AV.any, AV.any, AV.any, AV.any, AV.any, AV.any, AV.any, AV.any, AV.any, AV.any], H := [] } = some (I (idxF P pre.length r)) := by
  intro r
  induction r with
  | nil =>
    intro pre q hq hl
    obtain ⟨q, rfl⟩ : ∃ q', q = q' + 1 := ⟨q - 1, by omega⟩
    rw [l101, bif_neg (by simp)]
    rfl
  | cons x r ih =>
    intro pre q hq hl
    obtain ⟨q, rfl⟩ : ∃ q', q = q' + 1 := ⟨q - 1, by omega⟩
    simp only [List.length_cons] at hq
    have h := hf x n hc
    rw [l101, bif_pos (by simp; omega), bif_pos (by simp)]
    simp only [Int.toNat_natCast, nth_map, nth_app, Option.map_some, Option.bind_some, ok_int, cond_true, open_int, h, ok_bool, toBool_bool, idxF]
    cases P x with
    | true => simp
    | false =>
      have e := ih (pre ++ [x]) q (by omega) (by simpa using hl)
      simp only [List.append_assoc, List.singleton_append, List.length_append, List.length_singleton] at e
      simp only [cond_false]
      rw [w64 (by simp at hl; omega)]
      simpa using e

theorem s101 {g : Nat} {p cc : List Tree} {P : Int → Bool} {c : Nat} (hf : ∀ x, Ev E c g (p ++ [I x] ++ cc) (.bool (P x))) (l : List Int) (hl : (l.length : Int) ≤ 1000000000) : Ev E (c + l.length + 2) 101 [.slc (l.map I), .fn g p cc] (I (idxF P 0 l)) :=
  Ev.mk fun n hn => by
    rw [e101]
    exact l101_spec hf (by omega) l [] n (by omega) hl

theorem s80 {g : Nat} {p cc : List Tree} {P : Int → Bool} {c : Nat} (hf : ∀ x, Ev E c g (p ++ [I x] ++ cc) (.bool (P x))) (l : List Int) (hl : (l.length : Int) ≤ 1000000000) : Ev E (c + l.length + 3) 80 [.slc (l.map I), .fn g p cc] (.bool (l.any P)) :=
  Ev.mk fun n hn => by
    rw [e80, s101 hf l hl n (by omega)]
    simp only [Option.bind_some, ok_int, cond_true, toInt_int]
    exact congrArg (fun b => some (Tree.bool b)) (idxF_ge P l 0 (Int.le_refl 0))

def nat1 (x : Int) : Bool := decide (0 ≤ x ∧ x ≤ 1099511627776)
def who1 (x : Int) : Bool := decide (-1099511627776 ≤ x ∧ x ≤ 1099511627776)

theorem s81 (x : Int) : Ev E 1 81 ([] ++ [I x] ++ []) (.bool (!nat1 x)) :=
  Ev.mk fun n _ => by
    show evQ E n 81 [Tree.int .i64 x] = _
    rw [e81]
    by_cases h : x < 0
    · simp [h, nat1]
    · by_cases h2 : x > 1099511627776 <;> simp [h, h2, nat1] <;> omega

theorem s97 (x : Int) : Ev E 1 97 ([] ++ [I x] ++ []) (.bool (!who1 x)) :=
  Ev.mk fun n _ => by
    show evQ E n 97 [Tree.int .i64 x] = _
    rw [e97]
    by_cases h : x < -1099511627776
    · simp [h, who1]; try omega
    · by_cases h2 : x > 1099511627776 <;> simp [h, h2, who1] <;> omega

theorem s49 (l : List Int) (hl : (l.length : Int) ≤ 1000000000) : Ev E (l.length + 5) 49 [.slc (l.map I)] (.bool (l.all nat1)) :=
  Ev.mk fun n hn => by
    rw [e49, s80 s81 l hl n (by omega)]
    simp [List.all_eq_not_any_not]

theorem s70 (l : List Int) (hl : (l.length : Int) ≤ 1000000000) : Ev E (l.length + 5) 70 [.slc (l.map I)] (.bool (l.all who1)) :=
  Ev.mk fun n hn => by
    rw [e70, s80 s97 l hl n (by omega)]
    simp [List.all_eq_not_any_not]

/-- The pair of an integer; what is told with it: 0 all is well, 2 it is too great, 4 it is none. -/
def pairT (z : Int) : Tree :=
  if z < -1099511627776 ∨ z > 1099511627776 then .tup [.agg [I 0, I 0], I 2]
  else if z < 0 then .tup [.agg [I 0, I (-z)], I 0] else .tup [.agg [I z, I 0], I 0]

def noPair : Tree := .tup [.agg [I 0, I 0], I 4]

theorem pairT_form (z : Int) : ∃ a b e, pairT z = .tup [.agg [I a, I b], I e] := by
  unfold pairT; split
  · exact ⟨_, _, _, rfl⟩
  · split <;> exact ⟨_, _, _, rfl⟩

theorem s50 (z : Int) : Ev E 7 50 [I z] (pairT z) :=
  Ev.mk fun n hn => by
    show evQ E n 50 [Tree.int .i64 z] = _
    rw [e50]
    rw [show ([Tree.int IntKind.i64 z] : List Tree) = [z].map I from rfl, s70 [z] (by simp) n (by simp; omega)]
    simp only [Option.bind_some, ok_bool, cond_true, toBool_bool, List.all_cons, List.all_nil, Bool.and_true, who1, pairT]
    by_cases h : z < -1099511627776 ∨ z > 1099511627776
    · rw [if_pos h, decide_eq_false (by omega)]; rfl
    · rw [if_neg h, decide_eq_true (by omega)]
      by_cases h2 : z < 0
      · rw [w64 (by omega)]; simp [h2]
      · simp [h2]

theorem imax_l {a b : Int} (h : a < b) : imax a b = b := if_pos h
theorem imax_r {a b : Int} (h : b ≤ a) : imax a b = a := if_neg (by omega)

theorem s54 (z : Int) : Ev E 1 54 [I z] (pairT z) :=
  Ev.mk fun n hn => by
    show evQ E n 54 [Tree.int .i64 z] = _
    rw [e54]
    simp only [pairT]
    by_cases h : z > 1099511627776
    · simp [h]
    · by_cases h1 : z < -1099511627776
      · simp [h, h1]
      · rw [w64 (by omega), if_neg (by omega)]
        simp only [h, h1, decide_false, cond_false]
        by_cases h2 : z < 0
        · rw [if_pos h2, imax_l (by omega), imax_r (by omega), Int.zero_sub]
        · rw [if_neg h2, imax_r (by omega)]
          by_cases h3 : 0 < z
          · rw [imax_l (by omega)]
          · rw [imax_r (by omega)]; simp; omega

def ok2 (a b : Int) : Bool := nat1 a && nat1 b

theorem s53 (a b : Int) : Ev E 1 53 [.agg [I a, I b]] (.bool (ok2 a b)) :=
  Ev.mk fun n hn => by
    show evQ E n 53 [.agg [Tree.int .i64 a, Tree.int .i64 b]] = _
    rw [e53]
    simp only [ok2, nat1]
    by_cases h : a ≥ 0 <;> by_cases h1 : a ≤ 1099511627776 <;> by_cases h2 : b ≥ 0 <;> by_cases h3 : b ≤ 1099511627776 <;> simp [h, h1, h2, h3] <;> omega

theorem nat1_iff {x : Int} : nat1 x = true ↔ 0 ≤ x ∧ x ≤ 1099511627776 := by simp [nat1]

end Go.Proofs.Bw.Qb
