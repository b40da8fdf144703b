/-
  QUOT: the library's sort lies in the program.
-/
import Derived.Test.YtfkidinbolmkiaaQcShelf
import Derived.Test.YtfkidinbolmkiaaBw4
set_option linter.unusedSimpArgs false
set_option linter.unusedVariables false
namespace Go.Proofs.Bw.Qc
open Go.Proofs

theorem srt106 : SumOk Try.prog 106 sortC sortA := srt_sum (SrtOk.of_lays Try.lays257 (by kernel_rfl))

end Go.Proofs.Bw.Qc
