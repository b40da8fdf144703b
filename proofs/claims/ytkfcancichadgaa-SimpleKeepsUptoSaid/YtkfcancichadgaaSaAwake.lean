/-
  SIMPLE: the small run at the end of each law.
-/
import Derived.Test.YtkfcancichadgaaSaS1
set_option linter.unusedSimpArgs false
set_option linter.unusedVariables false
namespace Go.Proofs.Aw.Sa
open Go.Proofs

theorem s13 : Ev E 40 13 [] (.bool true) := by
  intro n hn
  obtain ⟨m, rfl⟩ : ∃ m, n = m + 40 := ⟨n - 40, by omega⟩
  show evP (Tab.env tab) (m + 40) 13 [] = some (.bool true)
  kernel_rfl

end Go.Proofs.Aw.Sa
