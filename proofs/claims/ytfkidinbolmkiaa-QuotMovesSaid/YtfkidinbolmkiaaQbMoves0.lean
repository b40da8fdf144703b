/-
  QUOT: QuotMoves, the plain part: folds of another order, fractions with a factor.
-/
import Derived.Test.YtfkidinbolmkiaaQbFolds2
import Derived.Test.YtfkidinbolmkiaaQbS9
set_option linter.unusedSimpArgs false
set_option linter.unusedVariables false
namespace Go.Proofs.Bw.Qb
open Go.Proofs

theorem stepF_swap (op n x y : Int) : stepF op (stepF op n x) y = stepF op (stepF op n y) x := by
  unfold stepF imax imin
  split
  · omega
  · split
    · repeat' split
      all_goals omega
    · split
      · repeat' split
        all_goals omega
      · rfl

theorem foldV_perm (op : Int) {A B : List Int} (h : A.Perm B) : ∀ n, foldV op n A = foldV op n B := by
  induction h with
  | nil => intro n; rfl
  | cons y _ ih => intro n; exact ih _
  | swap y z l => intro n; simp only [foldV]; rw [stepF_swap]
  | trans _ _ h1 h2 => intro n; exact (h1 n).trans (h2 n)

/-- A number that changes nothing. -/
def none0 (op : Int) : Int := if op = 1 then 0 else if op = 2 then -1099511627776 else 1099511627776

theorem stepF_none {op x : Int} (h : 1 ≤ op) (h2 : op ≤ 3) (hx : -2147483648 ≤ x ∧ x ≤ 2147483647) : stepF op (none0 op) x = x := by
  unfold stepF none0 imax imin
  by_cases h1 : op = 1
  · rw [if_pos h1, if_pos h1]; omega
  · rw [if_neg h1, if_neg h1]
    by_cases h3 : op = 2
    · rw [if_pos h3, if_pos h3]; split <;> omega
    · rw [if_neg h3, if_neg h3, if_pos (by omega)]; split <;> omega

def near (n : Int) (k : Nat) : Prop := -(2147483648 * (k : Int)) ≤ n ∧ n ≤ 2147483648 * (k : Int)

theorem stepF_near {op n x : Int} {k : Nat} (h : near n k) (hx : -2147483648 ≤ x ∧ x ≤ 2147483647) : near (stepF op n x) (k + 1) := by
  unfold near at *
  unfold stepF
  split
  · omega
  · split
    · unfold imax; split <;> omega
    · split
      · unfold imin; split <;> omega
      · omega

theorem foldV_near (op : Int) : ∀ (L : List Int) (n : Int) (k : Nat), near n k → (∀ x ∈ L, -2147483648 ≤ x ∧ x ≤ 2147483647) → near (foldV op n L) (k + L.length)
  | [], n, k, h, _ => h
  | x :: r, n, k, h, hr => by
    have := foldV_near op r (stepF op n x) (k + 1) (stepF_near h (hr x (by simp))) fun y hy => hr y (by simp [hy])
    rw [show k + (x :: r).length = k + 1 + r.length by simp; omega]
    exact this

theorem foldT_val {L : List Int} (hs : small L) {op : Int} (h1 : 1 ≤ op) (h4 : op ≤ 4) : foldT L op = .tup [I (if op = 4 ∨ L = [] then (L.length : Int) else foldV op (none0 op) L), I 0] := by
  have ok := ok_mem (by have := hs.1; omega) hs.2
  unfold foldT
  rw [if_pos ok, if_neg (by omega)]
  by_cases c : op = 4 ∨ L = []
  · rw [if_pos c, if_pos c]
  · rw [if_neg c, if_neg c]
    cases L with
    | nil => exact absurd (Or.inr rfl) c
    | cons x r =>
      have hx := hs.2 x (by simp)
      have nr := foldV_near op r x 1 (by unfold near; omega) fun y hy => hs.2 y (by simp [hy])
      have hl := hs.1
      simp only [List.length_cons] at hl
      simp only [foldV]
      rw [stepF_none h1 (by omega) hx]
      unfold endF
      rw [if_pos (by unfold near at nr; simp only [who1, decide_eq_true_eq]; omega)]

theorem foldT_perm {L M : List Int} (h : L.Perm M) (hs : small L) {op : Int} (h1 : 1 ≤ op) (h4 : op ≤ 4) : ∃ v, foldT L op = .tup [I v, I 0] ∧ foldT M op = .tup [I v, I 0] := by
  have hm : small M := ⟨by rw [← h.length_eq]; exact hs.1, fun x hx => hs.2 x (h.symm.subset hx)⟩
  refine ⟨_, foldT_val hs h1 h4, ?_⟩
  rw [foldT_val hm h1 h4]
  have e : M = [] ↔ L = [] := ⟨fun e => by subst e; exact h.eq_nil, fun e => by subst e; exact h.symm.eq_nil⟩
  by_cases c : op = 4 ∨ L = []
  · rw [if_pos c, if_pos (c.imp id e.2), h.length_eq]
  · rw [if_neg c, if_neg (fun x => c (x.imp id e.1)), foldV_perm op h]

/-- A factor in a fraction. -/
theorem low_scale {a b k : Int} (hb : 0 < b) (hk : 0 < k) : nm (-a * k) (-b * k) = nm a b ∧ dn (-a * k) (-b * k) = dn a b := by
  have hbk : 0 < b * k := Int.mul_pos hb hk
  have e1 : -b * k = -(b * k) := Int.neg_mul _ _
  have e2 : -a * k = -(a * k) := Int.neg_mul _ _
  rw [nm_eq, dn_eq, nm_eq, dn_eq, e1, e2, if_pos (by omega), if_neg (by omega), Int.neg_neg]
  refine lowN_eq (by omega) (by omega) ?_
  have x1 : ((-(b * k)).natAbs : Int) = b * k := by omega
  have x2 : (b.natAbs : Int) = b := by omega
  rw [x1, x2]
  ac_rfl

theorem addR_scale {a b c d k : Int} (hb : 0 < b) (hk : 0 < k) (h1 : ratB a b = true) (h2 : ratB (-a * k) (-b * k) = true) : addR (-a * k) (-b * k) c d = addR a b c d := by
  unfold addR
  rw [h1, h2, (low_scale hb hk).1, (low_scale hb hk).2]

theorem addR_out (a b c d : Int) : ∃ x y e, addR a b c d = .tup [.agg [I x, I y], I e] := by
  unfold addR; cases ratB a b && ratB c d
  · exact ⟨_, _, _, rfl⟩
  · exact lowT_form _ _

theorem tmodB' {a m : Int} (h : 0 ≤ a) (hm : 0 < m) (h2 : m ≤ 1000000) : ∃ x, IntKind.wrap .i64 (Int.tmod a m) = x ∧ 0 ≤ x ∧ x < m := by
  have e : Int.tmod a m = a % m := Int.tmod_eq_emod_of_nonneg h
  have h1 := Int.emod_nonneg a (show m ≠ 0 by omega)
  have h3 := Int.emod_lt_of_pos a hm
  exact ⟨a % m, by rw [e, w64 (by omega)], h1, h3⟩

theorem sortL_perm_eq {A B : List Int} (h : A.Perm B) : sortL A = sortL B := by
  have hp : (sortL A).Perm (sortL B) := (sortL_perm A).trans (h.trans (sortL_perm B).symm)
  exact hp.eq_of_pairwise (le := (· ≤ ·)) (fun _ _ _ _ h1 h2 => Int.le_antisymm h1 h2) (sortL_asc A) (sortL_asc B)

end Go.Proofs.Bw.Qb
