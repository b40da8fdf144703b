/-
  THE RECKONED CODE, part 2: printed by program.
-/
import Derived.Test.YtfkidinbolmkiaaRows
import Derived.Test.YtfkidinbolmkiaaBw4
set_option linter.unusedSimpArgs false
set_option linter.unusedVariables false
set_option maxRecDepth 100000
namespace Go.Proofs.Bw.Qb
open Go.Proofs

/-- slices.ContainsFunc[[]int,int] -/
def ir80 : FInfo := ⟨9,
 (.seq (.reg [⟨(some 4), none, .mov (.c (.t (.bool false)))⟩])
 (.seq (.reg [⟨(some 5), none, .mov (.s 0)⟩, ⟨(some 6), none, .mov (.s 1)⟩, ⟨(some 7), none, .call false 101 (.int .i64) [(.s 5), (.s 6)]⟩, ⟨(some 8), none, .bin .geq (.s 7) (.c (.t (.int .i64 0)))⟩, ⟨(some 4), none, .mov (.s 8)⟩])
 .ret)),
 [.slot 4]⟩
theorem ok80 : compF Try.prog 80 [] [] = some ir80 := by kernel_rfl

/-- tenet/quot.natural$1 -/
def ir81 : FInfo := ⟨9,
 (.seq (.reg [⟨(some 2), none, .mov (.c (.t (.bool false)))⟩])
 (.seq (.reg [⟨(some 3), none, .mov (.s 0)⟩, ⟨(some 4), none, .bin .lss (.s 3) (.c (.t (.int .i64 0)))⟩, ⟨(some 5), none, .mov (.s 4)⟩, ⟨(some 6), (some (5, false)), .mov (.s 0)⟩, ⟨(some 7), (some (5, false)), .bin .gtr (.s 6) (.c (.t (.int .i64 1099511627776)))⟩, ⟨(some 8), none, .pick (.s 5) (.c (.t (.bool true))) (.s 7)⟩, ⟨(some 2), none, .mov (.s 8)⟩])
 .ret)),
 [.slot 2]⟩
theorem ok81 : compF Try.prog 81 [] [] = some ir81 := by kernel_rfl

/-- math/bits.Mul64 -/
def ir82 : FInfo := ⟨51,
 (.seq (.reg [⟨(some 4), none, .mov (.c (.t (.int .u64 0)))⟩, ⟨(some 5), none, .mov (.c (.t (.int .u64 0)))⟩])
 (.seq (.reg [⟨(some 14), none, .mov (.s 0)⟩, ⟨(some 15), none, .bin .and (.s 14) (.c (.t (.int .u64 4294967295)))⟩, ⟨(some 6), none, .mov (.s 15)⟩])
 (.seq (.reg [⟨(some 16), none, .mov (.s 0)⟩, ⟨(some 17), none, .bin .shr (.s 16) (.c (.t (.int .u64 32)))⟩, ⟨(some 7), none, .mov (.s 17)⟩])
 (.seq (.reg [⟨(some 18), none, .mov (.s 1)⟩, ⟨(some 19), none, .bin .and (.s 18) (.c (.t (.int .u64 4294967295)))⟩, ⟨(some 8), none, .mov (.s 19)⟩])
 (.seq (.reg [⟨(some 20), none, .mov (.s 1)⟩, ⟨(some 21), none, .bin .shr (.s 20) (.c (.t (.int .u64 32)))⟩, ⟨(some 9), none, .mov (.s 21)⟩])
 (.seq (.reg [⟨(some 22), none, .mov (.s 6)⟩, ⟨(some 23), none, .mov (.s 8)⟩, ⟨(some 24), none, .bin .mul (.s 22) (.s 23)⟩, ⟨(some 10), none, .mov (.s 24)⟩])
 (.seq (.reg [⟨(some 25), none, .mov (.s 7)⟩, ⟨(some 26), none, .mov (.s 8)⟩, ⟨(some 27), none, .bin .mul (.s 25) (.s 26)⟩, ⟨(some 28), none, .mov (.s 10)⟩, ⟨(some 29), none, .bin .shr (.s 28) (.c (.t (.int .u64 32)))⟩, ⟨(some 30), none, .bin .add (.s 27) (.s 29)⟩, ⟨(some 11), none, .mov (.s 30)⟩])
 (.seq (.reg [⟨(some 31), none, .mov (.s 11)⟩, ⟨(some 32), none, .bin .and (.s 31) (.c (.t (.int .u64 4294967295)))⟩, ⟨(some 12), none, .mov (.s 32)⟩])
 (.seq (.reg [⟨(some 33), none, .mov (.s 11)⟩, ⟨(some 34), none, .bin .shr (.s 33) (.c (.t (.int .u64 32)))⟩, ⟨(some 13), none, .mov (.s 34)⟩])
 (.seq (.reg [⟨(some 35), none, .mov (.s 12)⟩, ⟨(some 36), none, .mov (.s 6)⟩, ⟨(some 37), none, .mov (.s 9)⟩, ⟨(some 38), none, .bin .mul (.s 36) (.s 37)⟩, ⟨(some 39), none, .bin .add (.s 35) (.s 38)⟩, ⟨(some 12), none, .mov (.s 39)⟩])
 (.seq (.reg [⟨(some 40), none, .mov (.s 7)⟩, ⟨(some 41), none, .mov (.s 9)⟩, ⟨(some 42), none, .bin .mul (.s 40) (.s 41)⟩, ⟨(some 43), none, .mov (.s 13)⟩, ⟨(some 44), none, .bin .add (.s 42) (.s 43)⟩, ⟨(some 45), none, .mov (.s 12)⟩, ⟨(some 46), none, .bin .shr (.s 45) (.c (.t (.int .u64 32)))⟩, ⟨(some 47), none, .bin .add (.s 44) (.s 46)⟩, ⟨(some 4), none, .mov (.s 47)⟩])
 (.seq (.reg [⟨(some 48), none, .mov (.s 0)⟩, ⟨(some 49), none, .mov (.s 1)⟩, ⟨(some 50), none, .bin .mul (.s 48) (.s 49)⟩, ⟨(some 5), none, .mov (.s 50)⟩])
 .ret)))))))))))),
 [.slot 4, .slot 5]⟩
theorem ok82 : compF Try.prog 82 [] [] = some ir82 := by kernel_rfl

/-- tenet/quot.abs -/
def ir83 : FInfo := ⟨10,
 (.seq (.reg [⟨(some 2), none, .mov (.c (.t (.int .u64 0)))⟩])
 (.seq (.seq (.reg [⟨(some 3), none, .mov (.s 0)⟩, ⟨(some 4), none, .bin .lss (.s 3) (.c (.t (.int .i64 0)))⟩])
 (.cond (.s 4)
 (.seq (.reg [⟨(some 5), none, .mov (.s 0)⟩, ⟨(some 6), none, .un .neg (.s 5)⟩, ⟨(some 7), none, .conv .u64 (.s 6)⟩, ⟨(some 2), none, .mov (.s 7)⟩])
 .ret)
 .skip))
 (.seq (.reg [⟨(some 8), none, .mov (.s 0)⟩, ⟨(some 9), none, .conv .u64 (.s 8)⟩, ⟨(some 2), none, .mov (.s 9)⟩])
 .ret))),
 [.slot 2]⟩
theorem ok83 : compF Try.prog 83 [] [] = some ir83 := by kernel_rfl

/-- tenet/tenetref23.abs -/
def ir84 : FInfo := ⟨10,
 (.seq (.reg [⟨(some 2), none, .mov (.c (.t (.int .u64 0)))⟩])
 (.seq (.seq (.reg [⟨(some 3), none, .mov (.s 0)⟩, ⟨(some 4), none, .bin .lss (.s 3) (.c (.t (.int .i64 0)))⟩])
 (.cond (.s 4)
 (.seq (.reg [⟨(some 5), none, .mov (.s 0)⟩, ⟨(some 6), none, .un .neg (.s 5)⟩, ⟨(some 7), none, .conv .u64 (.s 6)⟩, ⟨(some 2), none, .mov (.s 7)⟩])
 .ret)
 .skip))
 (.seq (.reg [⟨(some 8), none, .mov (.s 0)⟩, ⟨(some 9), none, .conv .u64 (.s 8)⟩, ⟨(some 2), none, .mov (.s 9)⟩])
 .ret))),
 [.slot 2]⟩
theorem ok84 : compF Try.prog 84 [] [] = some ir84 := by kernel_rfl

/-- tenet/quot.whole$1 -/
def ir97 : FInfo := ⟨9,
 (.seq (.reg [⟨(some 2), none, .mov (.c (.t (.bool false)))⟩])
 (.seq (.reg [⟨(some 3), none, .mov (.s 0)⟩, ⟨(some 4), none, .bin .lss (.s 3) (.c (.t (.int .i64 (-1099511627776))))⟩, ⟨(some 5), none, .mov (.s 4)⟩, ⟨(some 6), (some (5, false)), .mov (.s 0)⟩, ⟨(some 7), (some (5, false)), .bin .gtr (.s 6) (.c (.t (.int .i64 1099511627776)))⟩, ⟨(some 8), none, .pick (.s 5) (.c (.t (.bool true))) (.s 7)⟩, ⟨(some 2), none, .mov (.s 8)⟩])
 .ret)),
 [.slot 2]⟩
theorem ok97 : compF Try.prog 97 [] [] = some ir97 := by kernel_rfl

/-- slices.Index[[]int,int] -/
def ir100 : FInfo := ⟨19,
 (.seq (.reg [⟨(some 4), none, .mov (.c (.t (.int .i64 0)))⟩])
 (.seq (.seq (.reg [⟨(some 6), none, .mov (.s 0)⟩, ⟨(some 7), none, .len (.s 6)⟩, ⟨(some 8), none, .mov (.c (.t (.int .i64 0)))⟩])
 (.block 0 (.loop [0, 1, 7, 8] (.seq (.reg [⟨(some 9), none, .bin .lss (.s 8) (.s 7)⟩])
 (.seq (.cond (.s 9)
 .skip
 (.exit 0))
 (.seq (.block 1 (.seq (.reg [⟨(some 10), none, .mov (.s 8)⟩, ⟨(some 5), none, .mov (.s 10)⟩])
 (.seq (.reg [⟨(some 11), none, .mov (.s 1)⟩, ⟨(some 12), none, .mov (.s 0)⟩, ⟨(some 13), none, .mov (.s 5)⟩, ⟨(some 14), none, .ia (.int .i64) (.s 12) (.s 13)⟩, ⟨(some 15), none, .ld (.int .i64) (.s 14)⟩, ⟨(some 16), none, .bin .eql (.s 11) (.s 15)⟩])
 (.cond (.s 16)
 (.seq (.reg [⟨(some 17), none, .mov (.s 5)⟩, ⟨(some 4), none, .mov (.s 17)⟩])
 .ret)
 .skip))))
 (.reg [⟨(some 18), none, .bin .add (.s 8) (.c (.t (.int .i64 1)))⟩, ⟨(some 8), none, .mov (.s 18)⟩])))))))
 (.seq (.reg [⟨(some 4), none, .mov (.c (.t (.int .i64 (-1))))⟩])
 .ret))),
 [.slot 4]⟩
theorem ok100 : compF Try.prog 100 [[0, 1, 7, 8]] [] = some ir100 := by kernel_rfl

/-- slices.IndexFunc[[]int,int] -/
def ir101 : FInfo := ⟨19,
 (.seq (.reg [⟨(some 4), none, .mov (.c (.t (.int .i64 0)))⟩])
 (.seq (.seq (.reg [⟨(some 6), none, .mov (.s 0)⟩, ⟨(some 7), none, .len (.s 6)⟩, ⟨(some 8), none, .mov (.c (.t (.int .i64 0)))⟩])
 (.block 0 (.loop [0, 1, 7, 8] (.seq (.reg [⟨(some 9), none, .bin .lss (.s 8) (.s 7)⟩])
 (.seq (.cond (.s 9)
 .skip
 (.exit 0))
 (.seq (.block 1 (.seq (.reg [⟨(some 10), none, .mov (.s 8)⟩, ⟨(some 5), none, .mov (.s 10)⟩])
 (.seq (.reg [⟨(some 11), none, .mov (.s 1)⟩, ⟨(some 12), none, .mov (.s 0)⟩, ⟨(some 13), none, .mov (.s 5)⟩, ⟨(some 14), none, .ia (.int .i64) (.s 12) (.s 13)⟩, ⟨(some 15), none, .ld (.int .i64) (.s 14)⟩, ⟨(some 16), none, .callv (.s 11) .bool [(.s 15)]⟩])
 (.cond (.s 16)
 (.seq (.reg [⟨(some 17), none, .mov (.s 5)⟩, ⟨(some 4), none, .mov (.s 17)⟩])
 .ret)
 .skip))))
 (.reg [⟨(some 18), none, .bin .add (.s 8) (.c (.t (.int .i64 1)))⟩, ⟨(some 8), none, .mov (.s 18)⟩])))))))
 (.seq (.reg [⟨(some 4), none, .mov (.c (.t (.int .i64 (-1))))⟩])
 .ret))),
 [.slot 4]⟩
theorem ok101 : compF Try.prog 101 [[0, 1, 7, 8]] [] = some ir101 := by kernel_rfl


end Go.Proofs.Bw.Qb
