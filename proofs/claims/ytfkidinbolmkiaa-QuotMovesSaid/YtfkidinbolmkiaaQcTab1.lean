/-
  QUOT: lists that are made, compacted, thinned out: the table.
-/
import Derived.Test.YtfkidinbolmkiaaQcTab0
set_option linter.unusedSimpArgs false
set_option linter.unusedVariables false
set_option maxRecDepth 100000
namespace Go.Proofs.Bw.Qc
open Go.Proofs

def tab1 : Tab := .node 95 (.node 74 (.node 73 (.leaf 68 ir68) (.leaf 73 ir73)) (.node 75 (.leaf 74 ir74) (.leaf 75 ir75))) (.node 99 (.node 98 (.sum 95 C95 S95) (.leaf 98 ir98)) (.node 100 (.leaf 99 ir99) (.leaf 100 ir100)))
theorem tab1Ok : tab1.Ok Try.prog := ⟨⟨⟨⟨_, _, ok68⟩, ⟨_, _, ok73⟩⟩, ⟨⟨_, _, ok74⟩, ⟨_, _, ok75⟩⟩⟩, ⟨⟨sum95, ⟨_, _, ok98⟩⟩, ⟨⟨_, _, ok99⟩, ⟨_, _, ok100⟩⟩⟩⟩

end Go.Proofs.Bw.Qc
