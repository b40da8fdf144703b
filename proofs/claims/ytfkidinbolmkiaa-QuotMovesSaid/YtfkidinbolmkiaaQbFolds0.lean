/-
  QUOT: sums, counts, unions and meets: the plain law of QuotFolds.
-/
import Derived.Test.YtfkidinbolmkiaaQbLists
set_option linter.unusedSimpArgs false
set_option linter.unusedVariables false
namespace Go.Proofs.Bw.Qb
open Go.Proofs

def un (A B : List Int) : List Int := Qc.cmpct (sortL (A ++ B))
def mt (A B : List Int) : List Int := (Qc.cmpct (sortL A)).filter (Qc.isIn B)

theorem mem_un (a : Int) (A B : List Int) : a ∈ un A B ↔ a ∈ A ∨ a ∈ B := by
  unfold un; rw [mem_cmpct, (sortL_perm _).mem_iff, List.mem_append]

theorem isIn_iff (B : List Int) (a : Int) : Qc.isIn B a = true ↔ a ∈ B := by
  unfold Qc.isIn
  rw [List.any_eq_true]
  constructor
  · rintro ⟨y, h, e⟩; have := eq_of_beq e; subst this; exact h
  · intro h; exact ⟨a, h, by simp⟩

theorem mem_mt (a : Int) (A B : List Int) : a ∈ mt A B ↔ a ∈ A ∧ a ∈ B := by
  unfold mt; rw [List.mem_filter, mem_cmpct, (sortL_perm _).mem_iff, isIn_iff]

theorem un_sasc (A B : List Int) : (un A B).Pairwise (· < ·) := cmpct_sasc (sortL_asc _)
theorem mt_sasc (A B : List Int) : (mt A B).Pairwise (· < ·) := (cmpct_sasc (sortL_asc _)).filter _

theorem un_assoc (A B C : List Int) : un (un A B) C = un A (un B C) :=
  sasc_unique (un_sasc _ _) (un_sasc _ _) fun a => by simp only [mem_un]; exact or_assoc

theorem mt_assoc (A B C : List Int) : mt (mt A B) C = mt A (mt B C) :=
  sasc_unique (mt_sasc _ _) (mt_sasc _ _) fun a => by simp only [mem_mt]; exact and_assoc

theorem un_mt (A B : List Int) : un A (mt A B) = Qc.cmpct (sortL A) :=
  sasc_unique (un_sasc _ _) (cmpct_sasc (sortL_asc _)) fun a => by
    rw [mem_un, mem_mt, mem_cmpct, (sortL_perm _).mem_iff]
    exact ⟨fun h => h.elim id (·.1), .inl⟩

theorem mt_un (A B : List Int) : mt A (un A B) = Qc.cmpct (sortL A) :=
  sasc_unique (mt_sasc _ _) (cmpct_sasc (sortL_asc _)) fun a => by
    rw [mem_mt, mem_un, mem_cmpct, (sortL_perm _).mem_iff]
    exact ⟨(·.1), fun h => ⟨h, .inl h⟩⟩

def sumL : List Int → Int
  | [] => 0
  | x :: r => x + sumL r

theorem sumL_append : ∀ A B : List Int, sumL (A ++ B) = sumL A + sumL B
  | [], B => by simp [sumL]
  | x :: r, B => by simp only [List.cons_append, sumL, sumL_append r B]; omega

theorem sumL_perm {A B : List Int} (h : A.Perm B) : sumL A = sumL B := by
  induction h with
  | nil => rfl
  | cons y _ ih => simp only [sumL, ih]
  | swap y z l => simp only [sumL]; omega
  | trans _ _ h1 h2 => exact h1.trans h2

theorem cnt_append (x : Int) : ∀ A B : List Int, cnt x (A ++ B) = cnt x A + cnt x B
  | [], B => by simp [cnt]
  | y :: r, B => by simp only [List.cons_append, cnt, cnt_append x r B]; omega

theorem foldV_sum : ∀ (L : List Int) (n : Int), foldV 1 n L = n + sumL L
  | [], n => by simp [foldV, sumL]
  | x :: r, n => by simp only [foldV, stepF_1, foldV_sum r, sumL]; omega

end Go.Proofs.Bw.Qb
