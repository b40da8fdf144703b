/-
  THE RECKONED CODE, part 1: printed by program.
-/
import Derived.Test.YtfkidinbolmkiaaRows
import Derived.Test.YtfkidinbolmkiaaBw4
set_option linter.unusedSimpArgs false
set_option linter.unusedVariables false
set_option maxRecDepth 100000
namespace Go.Proofs.Bw.Qd
open Go.Proofs

/-- slices.Concat[[]int,int] -/
def ir69 : FInfo := ⟨36,
 (.seq (.reg [⟨(some 2), none, .mov (.c .nilS)⟩])
 (.seq (.reg [⟨(some 3), none, .mov (.c (.t (.int .i64 0)))⟩])
 (.seq (.seq (.reg [⟨(some 9), none, .mov (.s 0)⟩, ⟨(some 10), none, .len (.s 9)⟩, ⟨(some 11), none, .mov (.c (.t (.int .i64 0)))⟩])
 (.block 0 (.loop [0, 3, 9, 10, 11] (.seq (.reg [⟨(some 12), none, .bin .lss (.s 11) (.s 10)⟩])
 (.seq (.cond (.s 12)
 .skip
 (.exit 0))
 (.seq (.block 1 (.seq (.reg [⟨(some 13), none, .ia .slc (.s 9) (.s 11)⟩, ⟨(some 14), none, .ld .slc (.s 13)⟩, ⟨(some 5), none, .mov (.s 14)⟩])
 (.seq (.reg [⟨(some 15), none, .mov (.s 3)⟩, ⟨(some 16), none, .mov (.s 5)⟩, ⟨(some 17), none, .len (.s 16)⟩, ⟨(some 18), none, .bin .add (.s 15) (.s 17)⟩, ⟨(some 3), none, .mov (.s 18)⟩])
 (.seq (.reg [⟨(some 19), none, .mov (.s 3)⟩, ⟨(some 20), none, .bin .lss (.s 19) (.c (.t (.int .i64 0)))⟩])
 (.cond (.s 20)
 (.reg [⟨(some 21), none, .fail⟩, ⟨none, none, .fail⟩])
 .skip)))))
 (.reg [⟨(some 22), none, .bin .add (.s 11) (.c (.t (.int .i64 1)))⟩, ⟨(some 11), none, .mov (.s 22)⟩])))))))
 (.seq (.reg [⟨(some 23), none, .mov (.s 3)⟩, ⟨(some 24), none, .call true 96 .slc [(.c .nilS), (.s 23)]⟩, ⟨(some 6), none, .mov (.s 24)⟩])
 (.seq (.seq (.reg [⟨(some 25), none, .mov (.s 0)⟩, ⟨(some 26), none, .len (.s 25)⟩, ⟨(some 27), none, .mov (.c (.t (.int .i64 0)))⟩])
 (.block 2 (.loop [6, 25, 26, 27] (.seq (.reg [⟨(some 28), none, .bin .lss (.s 27) (.s 26)⟩])
 (.seq (.cond (.s 28)
 .skip
 (.exit 2))
 (.seq (.block 3 (.seq (.reg [⟨(some 29), none, .ia .slc (.s 25) (.s 27)⟩, ⟨(some 30), none, .ld .slc (.s 29)⟩, ⟨(some 8), none, .mov (.s 30)⟩])
 (.reg [⟨(some 31), none, .mov (.s 6)⟩, ⟨(some 32), none, .mov (.s 8)⟩, ⟨(some 33), none, .app (.int .i64) 8 (.s 31) (.s 32)⟩, ⟨(some 6), none, .mov (.s 33)⟩])))
 (.reg [⟨(some 34), none, .bin .add (.s 27) (.c (.t (.int .i64 1)))⟩, ⟨(some 27), none, .mov (.s 34)⟩])))))))
 (.seq (.reg [⟨(some 35), none, .mov (.s 6)⟩, ⟨(some 2), none, .mov (.s 35)⟩])
 .ret)))))),
 [.slot 2]⟩
theorem ok69 : compF Try.prog 69 [[0, 3, 9, 10, 11], [6, 25, 26, 27]] [24] = some ir69 := by kernel_rfl

/-- slices.Grow[[]int,int] -/
def ir96 : FInfo := ⟨27,
 (.seq (.reg [⟨(some 4), none, .mov (.c .nilS)⟩])
 (.seq (.seq (.reg [⟨(some 5), none, .mov (.s 1)⟩, ⟨(some 6), none, .bin .lss (.s 5) (.c (.t (.int .i64 0)))⟩])
 (.cond (.s 6)
 (.reg [⟨(some 7), none, .fail⟩, ⟨none, none, .fail⟩])
 .skip))
 (.seq (.seq (.reg [⟨(some 8), none, .mov (.s 1)⟩, ⟨(some 9), none, .mov (.s 0)⟩, ⟨(some 10), none, .cap (.s 9)⟩, ⟨(some 11), none, .mov (.s 0)⟩, ⟨(some 12), none, .len (.s 11)⟩, ⟨(some 13), none, .bin .sub (.s 10) (.s 12)⟩, ⟨(some 14), none, .bin .sub (.s 8) (.s 13)⟩, ⟨(some 1), none, .mov (.s 14)⟩])
 (.seq (.reg [⟨(some 15), none, .mov (.s 1)⟩, ⟨(some 16), none, .bin .gtr (.s 15) (.c (.t (.int .i64 0)))⟩])
 (.cond (.s 16)
 (.reg [⟨(some 17), none, .mov (.s 0)⟩, ⟨(some 18), none, .mov (.s 0)⟩, ⟨(some 19), none, .cap (.s 18)⟩, ⟨(some 20), none, .sub (.int .i64) (.s 17) none (some (.s 19)) none⟩, ⟨(some 21), none, .mov (.s 1)⟩, ⟨(some 22), none, .appz (.int .i64) 8 (.t (.int .i64 0)) (.s 20) (.s 21)⟩, ⟨(some 23), none, .mov (.s 0)⟩, ⟨(some 24), none, .len (.s 23)⟩, ⟨(some 25), none, .sub (.int .i64) (.s 22) none (some (.s 24)) none⟩, ⟨(some 0), none, .mov (.s 25)⟩])
 .skip)))
 (.seq (.reg [⟨(some 26), none, .mov (.s 0)⟩, ⟨(some 4), none, .mov (.s 26)⟩])
 .ret)))),
 [.slot 4]⟩
theorem ok96 : compF Try.prog 96 [] [] = some ir96 := by kernel_rfl


end Go.Proofs.Bw.Qd
