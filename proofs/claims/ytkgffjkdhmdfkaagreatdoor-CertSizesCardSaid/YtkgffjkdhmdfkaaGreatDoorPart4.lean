
import Derived.Test.YtkgffjkdhmdfkaaGreatDoorPart3
set_option linter.unusedSimpArgs false
set_option linter.unusedVariables false
set_option maxRecDepth 100000
namespace Go.Proofs.Dw.Za
theorem v : evP env1 60 22 [.agg [.int .i64 12, .int .i64 0, .str [], .slc [], .slc []]] = some (.bool true) := by kernel_rfl
theorem aw : evP env1 60 5 [] = some (.bool true) := by kernel_rfl
end Go.Proofs.Dw.Za
