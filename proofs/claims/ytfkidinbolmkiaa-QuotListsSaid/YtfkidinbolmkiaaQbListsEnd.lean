/-
  Proved: the Go function QuotLists answers true for every input, and leaves its arguments as they were.
  Conditions: none beyond those of the given statement.
-/
import Derived.Test.YtfkidinbolmkiaaQbLists
import Derived.Test.YtfkidinbolmkiaaBw4
import Derived.Test.YtfkidinbolmkiaaQbListsRow
set_option linter.unusedSimpArgs false
set_option linter.unusedVariables false
set_option maxRecDepth 100000
namespace Go.Proofs.Ytfkidinbolmkiaa
open Go.Proofs Go.Proofs.Bw Go.Proofs.Bw.Qb

theorem quotLists_pure : QuotListsPure := by
  intro x0 x1 x2 x3 w0 w1 w2 w3
  obtain ⟨a, rfl, _⟩ := w0.isInts (k := .i64) (e := 3) (by kernel_rfl) (by kernel_rfl) (by kernel_rfl) (by kernel_rfl)
  obtain ⟨b, rfl, _⟩ := w1.isInts (k := .i64) (e := 3) (by kernel_rfl) (by kernel_rfl) (by kernel_rfl) (by kernel_rfl)
  obtain ⟨x, rfl, _⟩ := w2.isInt (k := .i64) (by kernel_rfl) (by kernel_rfl)
  obtain ⟨o, rfl, _⟩ := w3.isInt (k := .i64) (by kernel_rfl) (by kernel_rfl)
  exact ⟨1200, s8 a b x o 1200 (Nat.le_refl _)⟩

theorem quotLists_holds : Rows.QuotListsSaid := QuotListsRow quotLists_pure

#print axioms quotLists_holds
end Go.Proofs.Ytfkidinbolmkiaa
