/-
  THE RECKONED CODE, part 1: printed by program.
-/
import Derived.Test.YtfkidinbolmkiaaRows
import Derived.Test.YtfkidinbolmkiaaBw4
set_option linter.unusedSimpArgs false
set_option linter.unusedVariables false
set_option maxRecDepth 100000
namespace Go.Proofs.Bw.Qc
open Go.Proofs

/-- tenet/quot.made[int] -/
def ir68 : FInfo := ⟨9,
 (.seq (.reg [⟨(some 2), none, .mov (.c .nilS)⟩])
 (.seq (.reg [⟨(some 4), none, .mov (.s 0)⟩, ⟨(some 5), none, .clone (.int .i64) 8 (.s 4)⟩, ⟨(some 3), none, .mov (.s 5)⟩])
 (.seq (.reg [⟨(some 6), none, .mov (.s 3)⟩, ⟨(some 7), none, .call true 95 (.tup []) [(.s 6)]⟩])
 (.seq (.reg [⟨(some 8), none, .mov (.s 3)⟩, ⟨(some 2), none, .mov (.s 8)⟩])
 .ret)))),
 [.slot 2]⟩
theorem ok68 : compF Try.prog 68 [] [7] = some ir68 := by kernel_rfl

/-- (tenet/quot.bag[int]).once -/
def ir72 : FInfo := ⟨5,
 (.seq (.reg [⟨(some 2), none, .mov (.c .nilS)⟩])
 (.seq (.reg [⟨(some 3), none, .mov (.s 0)⟩, ⟨(some 4), none, .call true 98 .slc [(.s 3)]⟩, ⟨(some 2), none, .mov (.s 4)⟩])
 .ret)),
 [.slot 2]⟩
theorem ok72 : compF Try.prog 72 [] [4] = some ir72 := by kernel_rfl

/-- slices.DeleteFunc[tenet/quot.bag[int],int] -/
def ir73 : FInfo := ⟨42,
 (.seq (.reg [⟨(some 4), none, .mov (.c .nilS)⟩])
 (.seq (.reg [⟨(some 8), none, .mov (.s 0)⟩, ⟨(some 9), none, .mov (.s 1)⟩, ⟨(some 10), none, .call false 99 (.int .i64) [(.s 8), (.s 9)]⟩, ⟨(some 5), none, .mov (.s 10)⟩])
 (.seq (.seq (.reg [⟨(some 11), none, .mov (.s 5)⟩, ⟨(some 12), none, .bin .eql (.s 11) (.c (.t (.int .i64 (-1))))⟩])
 (.cond (.s 12)
 (.seq (.reg [⟨(some 13), none, .mov (.s 0)⟩, ⟨(some 4), none, .mov (.s 13)⟩])
 .ret)
 .skip))
 (.seq (.seq (.reg [⟨(some 14), none, .mov (.s 5)⟩, ⟨(some 15), none, .bin .add (.s 14) (.c (.t (.int .i64 1)))⟩, ⟨(some 6), none, .mov (.s 15)⟩])
 (.block 0 (.loop [0, 1, 5, 6] (.seq (.seq (.reg [⟨(some 16), none, .mov (.s 6)⟩, ⟨(some 17), none, .mov (.s 0)⟩, ⟨(some 18), none, .len (.s 17)⟩, ⟨(some 19), none, .bin .lss (.s 16) (.s 18)⟩])
 (.cond (.s 19)
 .skip
 (.exit 0)))
 (.seq (.block 1 (.seq (.reg [⟨(some 22), none, .mov (.s 0)⟩, ⟨(some 23), none, .mov (.s 6)⟩, ⟨(some 24), none, .ia (.int .i64) (.s 22) (.s 23)⟩, ⟨(some 25), none, .ld (.int .i64) (.s 24)⟩, ⟨(some 7), none, .mov (.s 25)⟩])
 (.seq (.reg [⟨(some 26), none, .mov (.s 1)⟩, ⟨(some 27), none, .mov (.s 7)⟩, ⟨(some 28), none, .callv (.s 26) .bool [(.s 27)]⟩, ⟨(some 29), none, .un .not (.s 28)⟩])
 (.cond (.s 29)
 (.seq (.reg [⟨(some 30), none, .mov (.s 0)⟩, ⟨(some 31), none, .mov (.s 5)⟩, ⟨(some 32), none, .mov (.s 7)⟩, ⟨(some 33), none, .ia (.int .i64) (.s 30) (.s 31)⟩, ⟨none, none, .st (.int .i64) (.s 33) (.s 32)⟩])
 (.reg [⟨(some 34), none, .mov (.s 5)⟩, ⟨(some 35), none, .bin .add (.s 34) (.c (.t (.int .i64 1)))⟩, ⟨(some 5), none, .mov (.s 35)⟩]))
 .skip))))
 (.reg [⟨(some 20), none, .mov (.s 6)⟩, ⟨(some 21), none, .bin .add (.s 20) (.c (.t (.int .i64 1)))⟩, ⟨(some 6), none, .mov (.s 21)⟩]))))))
 (.seq (.reg [⟨(some 36), none, .mov (.s 0)⟩, ⟨(some 37), none, .mov (.s 5)⟩, ⟨(some 38), none, .sub (.int .i64) (.s 36) (some (.s 37)) none none⟩, ⟨none, none, .clr (.int .i64) (.t (.int .i64 0)) (.s 38)⟩])
 (.seq (.reg [⟨(some 39), none, .mov (.s 0)⟩, ⟨(some 40), none, .mov (.s 5)⟩, ⟨(some 41), none, .sub (.int .i64) (.s 39) none (some (.s 40)) none⟩, ⟨(some 4), none, .mov (.s 41)⟩])
 .ret)))))),
 [.slot 4]⟩
theorem ok73 : compF Try.prog 73 [[0, 1, 5, 6]] [] = some ir73 := by kernel_rfl

/-- tenet/quot.SetMeet$1 -/
def ir74 : FInfo := ⟨8,
 (.seq (.reg [⟨(some 3), none, .mov (.c (.t (.bool false)))⟩])
 (.seq (.reg [⟨(some 4), none, .ld .slc (.s 1)⟩, ⟨(some 5), none, .mov (.s 0)⟩, ⟨(some 6), none, .call false 75 .bool [(.s 4), (.s 5)]⟩, ⟨(some 7), none, .un .not (.s 6)⟩, ⟨(some 3), none, .mov (.s 7)⟩])
 .ret)),
 [.slot 3]⟩
theorem ok74 : compF Try.prog 74 [] [] = some ir74 := by kernel_rfl

/-- slices.Contains[[]int,int] -/
def ir75 : FInfo := ⟨9,
 (.seq (.reg [⟨(some 4), none, .mov (.c (.t (.bool false)))⟩])
 (.seq (.reg [⟨(some 5), none, .mov (.s 0)⟩, ⟨(some 6), none, .mov (.s 1)⟩, ⟨(some 7), none, .call false 100 (.int .i64) [(.s 5), (.s 6)]⟩, ⟨(some 8), none, .bin .geq (.s 7) (.c (.t (.int .i64 0)))⟩, ⟨(some 4), none, .mov (.s 8)⟩])
 .ret)),
 [.slot 4]⟩
theorem ok75 : compF Try.prog 75 [] [] = some ir75 := by kernel_rfl

/-- slices.Sort[tenet/quot.bag[int],int] -/
def ir95 : FInfo := ⟨11,
 (.seq (.reg [⟨(some 3), none, .mov (.s 0)⟩, ⟨(some 4), none, .len (.s 3)⟩, ⟨(some 2), none, .mov (.s 4)⟩])
 (.reg [⟨(some 5), none, .mov (.s 0)⟩, ⟨(some 6), none, .mov (.s 2)⟩, ⟨(some 7), none, .mov (.s 2)⟩, ⟨(some 8), none, .conv .u64 (.s 7)⟩, ⟨(some 9), none, .call false 107 (.int .i64) [(.s 8)]⟩, ⟨(some 10), none, .call true 106 (.tup []) [(.s 5), (.c (.t (.int .i64 0))), (.s 6), (.s 9)]⟩])),
 []⟩
theorem ok95 : compF Try.prog 95 [] [10] = some ir95 := by kernel_rfl

/-- slices.Compact[tenet/quot.bag[int],int] -/
def ir98 : FInfo := ⟨61,
 (.seq (.reg [⟨(some 2), none, .mov (.c .nilS)⟩])
 (.seq (.seq (.reg [⟨(some 6), none, .mov (.s 0)⟩, ⟨(some 7), none, .len (.s 6)⟩, ⟨(some 8), none, .bin .lss (.s 7) (.c (.t (.int .i64 2)))⟩])
 (.cond (.s 8)
 (.seq (.reg [⟨(some 9), none, .mov (.s 0)⟩, ⟨(some 2), none, .mov (.s 9)⟩])
 .ret)
 .skip))
 (.seq (.seq (.reg [⟨(some 3), none, .mov (.c (.t (.int .i64 1)))⟩])
 (.block 0 (.loop [0, 3] (.seq (.seq (.reg [⟨(some 10), none, .mov (.s 3)⟩, ⟨(some 11), none, .mov (.s 0)⟩, ⟨(some 12), none, .len (.s 11)⟩, ⟨(some 13), none, .bin .lss (.s 10) (.s 12)⟩])
 (.cond (.s 13)
 .skip
 (.exit 0)))
 (.seq (.block 1 (.seq (.dreg [⟨(some 16), none, .mov (.s 0)⟩, ⟨(some 17), none, .mov (.s 3)⟩, ⟨(some 18), none, .ia (.int .i64) (.s 16) (.s 17)⟩, ⟨(some 19), none, .ld (.int .i64) (.s 18)⟩, ⟨(some 20), none, .mov (.s 0)⟩, ⟨(some 21), none, .mov (.s 3)⟩, ⟨(some 22), none, .bin .sub (.s 21) (.c (.t (.int .i64 1)))⟩, ⟨(some 23), none, .ia (.int .i64) (.s 20) (.s 22)⟩, ⟨(some 24), none, .ld (.int .i64) (.s 23)⟩, ⟨(some 25), none, .bin .eql (.s 19) (.s 24)⟩] [0, 0, 3, 7, 0, 0, 32, 112, 240, 511])
 (.cond (.s 25)
 (.seq (.reg [⟨(some 26), none, .mov (.s 0)⟩, ⟨(some 27), none, .mov (.s 3)⟩, ⟨(some 28), none, .sub (.int .i64) (.s 26) (some (.s 27)) none none⟩, ⟨(some 4), none, .mov (.s 28)⟩])
 (.seq (.seq (.reg [⟨(some 5), none, .mov (.c (.t (.int .i64 1)))⟩])
 (.block 2 (.loop [0, 3, 4, 5] (.seq (.seq (.reg [⟨(some 29), none, .mov (.s 5)⟩, ⟨(some 30), none, .mov (.s 4)⟩, ⟨(some 31), none, .len (.s 30)⟩, ⟨(some 32), none, .bin .lss (.s 29) (.s 31)⟩])
 (.cond (.s 32)
 .skip
 (.exit 2)))
 (.seq (.block 3 (.seq (.dreg [⟨(some 35), none, .mov (.s 4)⟩, ⟨(some 36), none, .mov (.s 5)⟩, ⟨(some 37), none, .ia (.int .i64) (.s 35) (.s 36)⟩, ⟨(some 38), none, .ld (.int .i64) (.s 37)⟩, ⟨(some 39), none, .mov (.s 4)⟩, ⟨(some 40), none, .mov (.s 5)⟩, ⟨(some 41), none, .bin .sub (.s 40) (.c (.t (.int .i64 1)))⟩, ⟨(some 42), none, .ia (.int .i64) (.s 39) (.s 41)⟩, ⟨(some 43), none, .ld (.int .i64) (.s 42)⟩, ⟨(some 44), none, .bin .neq (.s 38) (.s 43)⟩] [0, 0, 3, 7, 0, 0, 32, 112, 240, 511])
 (.cond (.s 44)
 (.seq (.reg [⟨(some 45), none, .mov (.s 0)⟩, ⟨(some 46), none, .mov (.s 3)⟩, ⟨(some 47), none, .mov (.s 4)⟩, ⟨(some 48), none, .mov (.s 5)⟩, ⟨(some 49), none, .ia (.int .i64) (.s 47) (.s 48)⟩, ⟨(some 50), none, .ld (.int .i64) (.s 49)⟩, ⟨(some 51), none, .ia (.int .i64) (.s 45) (.s 46)⟩, ⟨none, none, .st (.int .i64) (.s 51) (.s 50)⟩])
 (.reg [⟨(some 52), none, .mov (.s 3)⟩, ⟨(some 53), none, .bin .add (.s 52) (.c (.t (.int .i64 1)))⟩, ⟨(some 3), none, .mov (.s 53)⟩]))
 .skip)))
 (.reg [⟨(some 33), none, .mov (.s 5)⟩, ⟨(some 34), none, .bin .add (.s 33) (.c (.t (.int .i64 1)))⟩, ⟨(some 5), none, .mov (.s 34)⟩]))))))
 (.seq (.reg [⟨(some 54), none, .mov (.s 0)⟩, ⟨(some 55), none, .mov (.s 3)⟩, ⟨(some 56), none, .sub (.int .i64) (.s 54) (some (.s 55)) none none⟩, ⟨none, none, .clr (.int .i64) (.t (.int .i64 0)) (.s 56)⟩])
 (.seq (.reg [⟨(some 57), none, .mov (.s 0)⟩, ⟨(some 58), none, .mov (.s 3)⟩, ⟨(some 59), none, .sub (.int .i64) (.s 57) none (some (.s 58)) none⟩, ⟨(some 2), none, .mov (.s 59)⟩])
 .ret))))
 .skip)))
 (.reg [⟨(some 14), none, .mov (.s 3)⟩, ⟨(some 15), none, .bin .add (.s 14) (.c (.t (.int .i64 1)))⟩, ⟨(some 3), none, .mov (.s 15)⟩]))))))
 (.seq (.reg [⟨(some 60), none, .mov (.s 0)⟩, ⟨(some 2), none, .mov (.s 60)⟩])
 .ret)))),
 [.slot 2]⟩
theorem ok98 : compF Try.prog 98 [[0, 3], [0, 3, 4, 5]] [] = some ir98 := by kernel_rfl

/-- slices.IndexFunc[tenet/quot.bag[int],int] -/
def ir99 : FInfo := ⟨19,
 (.seq (.reg [⟨(some 4), none, .mov (.c (.t (.int .i64 0)))⟩])
 (.seq (.seq (.reg [⟨(some 6), none, .mov (.s 0)⟩, ⟨(some 7), none, .len (.s 6)⟩, ⟨(some 8), none, .mov (.c (.t (.int .i64 0)))⟩])
 (.block 0 (.loop [0, 1, 7, 8] (.seq (.reg [⟨(some 9), none, .bin .lss (.s 8) (.s 7)⟩])
 (.seq (.cond (.s 9)
 .skip
 (.exit 0))
 (.seq (.block 1 (.seq (.reg [⟨(some 10), none, .mov (.s 8)⟩, ⟨(some 5), none, .mov (.s 10)⟩])
 (.seq (.reg [⟨(some 11), none, .mov (.s 1)⟩, ⟨(some 12), none, .mov (.s 0)⟩, ⟨(some 13), none, .mov (.s 5)⟩, ⟨(some 14), none, .ia (.int .i64) (.s 12) (.s 13)⟩, ⟨(some 15), none, .ld (.int .i64) (.s 14)⟩, ⟨(some 16), none, .callv (.s 11) .bool [(.s 15)]⟩])
 (.cond (.s 16)
 (.seq (.reg [⟨(some 17), none, .mov (.s 5)⟩, ⟨(some 4), none, .mov (.s 17)⟩])
 .ret)
 .skip))))
 (.reg [⟨(some 18), none, .bin .add (.s 8) (.c (.t (.int .i64 1)))⟩, ⟨(some 8), none, .mov (.s 18)⟩])))))))
 (.seq (.reg [⟨(some 4), none, .mov (.c (.t (.int .i64 (-1))))⟩])
 .ret))),
 [.slot 4]⟩
theorem ok99 : compF Try.prog 99 [[0, 1, 7, 8]] [] = some ir99 := by kernel_rfl

/-- slices.Index[[]int,int] -/
def ir100 : FInfo := ⟨19,
 (.seq (.reg [⟨(some 4), none, .mov (.c (.t (.int .i64 0)))⟩])
 (.seq (.seq (.reg [⟨(some 6), none, .mov (.s 0)⟩, ⟨(some 7), none, .len (.s 6)⟩, ⟨(some 8), none, .mov (.c (.t (.int .i64 0)))⟩])
 (.block 0 (.loop [0, 1, 7, 8] (.seq (.reg [⟨(some 9), none, .bin .lss (.s 8) (.s 7)⟩])
 (.seq (.cond (.s 9)
 .skip
 (.exit 0))
 (.seq (.block 1 (.seq (.reg [⟨(some 10), none, .mov (.s 8)⟩, ⟨(some 5), none, .mov (.s 10)⟩])
 (.seq (.reg [⟨(some 11), none, .mov (.s 1)⟩, ⟨(some 12), none, .mov (.s 0)⟩, ⟨(some 13), none, .mov (.s 5)⟩, ⟨(some 14), none, .ia (.int .i64) (.s 12) (.s 13)⟩, ⟨(some 15), none, .ld (.int .i64) (.s 14)⟩, ⟨(some 16), none, .bin .eql (.s 11) (.s 15)⟩])
 (.cond (.s 16)
 (.seq (.reg [⟨(some 17), none, .mov (.s 5)⟩, ⟨(some 4), none, .mov (.s 17)⟩])
 .ret)
 .skip))))
 (.reg [⟨(some 18), none, .bin .add (.s 8) (.c (.t (.int .i64 1)))⟩, ⟨(some 8), none, .mov (.s 18)⟩])))))))
 (.seq (.reg [⟨(some 4), none, .mov (.c (.t (.int .i64 (-1))))⟩])
 .ret))),
 [.slot 4]⟩
theorem ok100 : compF Try.prog 100 [[0, 1, 7, 8]] [] = some ir100 := by kernel_rfl

/-- math/bits.Len -/
def ir107 : FInfo := ⟨8,
 (.seq (.reg [⟨(some 2), none, .mov (.c (.t (.int .i64 0)))⟩])
 (.seq (.cond (.c (.t (.bool false)))
 (.seq (.reg [⟨(some 3), none, .mov (.s 0)⟩, ⟨(some 4), none, .conv .u32 (.s 3)⟩, ⟨(some 5), none, .call false 121 (.int .i64) [(.s 4)]⟩, ⟨(some 2), none, .mov (.s 5)⟩])
 .ret)
 .skip)
 (.seq (.reg [⟨(some 6), none, .mov (.s 0)⟩, ⟨(some 7), none, .call false 122 (.int .i64) [(.s 6)]⟩, ⟨(some 2), none, .mov (.s 7)⟩])
 .ret))),
 [.slot 2]⟩
theorem ok107 : compF Try.prog 107 [] [] = some ir107 := by kernel_rfl

/-- math/bits.Len32 -/
def ir121 : FInfo := ⟨19,
 (.seq (.reg [⟨(some 2), none, .mov (.c (.t (.int .i64 0)))⟩])
 (.seq (.seq (.reg [⟨(some 3), none, .mov (.s 0)⟩, ⟨(some 4), none, .bin .geq (.s 3) (.c (.t (.int .u32 65536)))⟩])
 (.cond (.s 4)
 (.seq (.reg [⟨(some 5), none, .mov (.s 0)⟩, ⟨(some 6), none, .bin .shr (.s 5) (.c (.t (.int .u64 16)))⟩, ⟨(some 0), none, .mov (.s 6)⟩])
 (.reg [⟨(some 2), none, .mov (.c (.t (.int .i64 16)))⟩]))
 .skip))
 (.seq (.seq (.reg [⟨(some 7), none, .mov (.s 0)⟩, ⟨(some 8), none, .bin .geq (.s 7) (.c (.t (.int .u32 256)))⟩])
 (.cond (.s 8)
 (.seq (.reg [⟨(some 9), none, .mov (.s 0)⟩, ⟨(some 10), none, .bin .shr (.s 9) (.c (.t (.int .u64 8)))⟩, ⟨(some 0), none, .mov (.s 10)⟩])
 (.reg [⟨(some 11), none, .mov (.s 2)⟩, ⟨(some 12), none, .bin .add (.s 11) (.c (.t (.int .i64 8)))⟩, ⟨(some 2), none, .mov (.s 12)⟩]))
 .skip))
 (.seq (.reg [⟨(some 13), none, .mov (.s 2)⟩, ⟨(some 14), none, .mov (.s 0)⟩, ⟨(some 15), none, .conv .u8 (.s 14)⟩, ⟨(some 16), none, .ixs (.c (.t (.str [0, 1, 2, 2, 3, 3, 3, 3, 4, 4, 4, 4, 4, 4, 4, 4, 5, 5, 5, 5, 5, 5, 5, 5, 5, 5, 5, 5, 5, 5, 5, 5, 6, 6, 6, 6, 6, 6, 6, 6, 6, 6, 6, 6, 6, 6, 6, 6, 6, 6, 6, 6, 6, 6, 6, 6, 6, 6, 6, 6, 6, 6, 6, 6, 7, 7, 7, 7, 7, 7, 7, 7, 7, 7, 7, 7, 7, 7, 7, 7, 7, 7, 7, 7, 7, 7, 7, 7, 7, 7, 7, 7, 7, 7, 7, 7, 7, 7, 7, 7, 7, 7, 7, 7, 7, 7, 7, 7, 7, 7, 7, 7, 7, 7, 7, 7, 7, 7, 7, 7, 7, 7, 7, 7, 7, 7, 7, 7, 8, 8, 8, 8, 8, 8, 8, 8, 8, 8, 8, 8, 8, 8, 8, 8, 8, 8, 8, 8, 8, 8, 8, 8, 8, 8, 8, 8, 8, 8, 8, 8, 8, 8, 8, 8, 8, 8, 8, 8, 8, 8, 8, 8, 8, 8, 8, 8, 8, 8, 8, 8, 8, 8, 8, 8, 8, 8, 8, 8, 8, 8, 8, 8, 8, 8, 8, 8, 8, 8, 8, 8, 8, 8, 8, 8, 8, 8, 8, 8, 8, 8, 8, 8, 8, 8, 8, 8, 8, 8, 8, 8, 8, 8, 8, 8, 8, 8, 8, 8, 8, 8, 8, 8, 8, 8, 8, 8, 8, 8, 8, 8, 8, 8, 8, 8, 8, 8, 8, 8, 8, 8, 8, 8, 8, 8, 8, 8]))) (.s 15)⟩, ⟨(some 17), none, .conv .i64 (.s 16)⟩, ⟨(some 18), none, .bin .add (.s 13) (.s 17)⟩, ⟨(some 2), none, .mov (.s 18)⟩])
 .ret)))),
 [.slot 2]⟩
theorem ok121 : compF Try.prog 121 [] [] = some ir121 := by kernel_rfl

/-- math/bits.Len64 -/
def ir122 : FInfo := ⟨25,
 (.seq (.reg [⟨(some 2), none, .mov (.c (.t (.int .i64 0)))⟩])
 (.seq (.seq (.reg [⟨(some 3), none, .mov (.s 0)⟩, ⟨(some 4), none, .bin .geq (.s 3) (.c (.t (.int .u64 4294967296)))⟩])
 (.cond (.s 4)
 (.seq (.reg [⟨(some 5), none, .mov (.s 0)⟩, ⟨(some 6), none, .bin .shr (.s 5) (.c (.t (.int .u64 32)))⟩, ⟨(some 0), none, .mov (.s 6)⟩])
 (.reg [⟨(some 2), none, .mov (.c (.t (.int .i64 32)))⟩]))
 .skip))
 (.seq (.seq (.reg [⟨(some 7), none, .mov (.s 0)⟩, ⟨(some 8), none, .bin .geq (.s 7) (.c (.t (.int .u64 65536)))⟩])
 (.cond (.s 8)
 (.seq (.reg [⟨(some 9), none, .mov (.s 0)⟩, ⟨(some 10), none, .bin .shr (.s 9) (.c (.t (.int .u64 16)))⟩, ⟨(some 0), none, .mov (.s 10)⟩])
 (.reg [⟨(some 11), none, .mov (.s 2)⟩, ⟨(some 12), none, .bin .add (.s 11) (.c (.t (.int .i64 16)))⟩, ⟨(some 2), none, .mov (.s 12)⟩]))
 .skip))
 (.seq (.seq (.reg [⟨(some 13), none, .mov (.s 0)⟩, ⟨(some 14), none, .bin .geq (.s 13) (.c (.t (.int .u64 256)))⟩])
 (.cond (.s 14)
 (.seq (.reg [⟨(some 15), none, .mov (.s 0)⟩, ⟨(some 16), none, .bin .shr (.s 15) (.c (.t (.int .u64 8)))⟩, ⟨(some 0), none, .mov (.s 16)⟩])
 (.reg [⟨(some 17), none, .mov (.s 2)⟩, ⟨(some 18), none, .bin .add (.s 17) (.c (.t (.int .i64 8)))⟩, ⟨(some 2), none, .mov (.s 18)⟩]))
 .skip))
 (.seq (.reg [⟨(some 19), none, .mov (.s 2)⟩, ⟨(some 20), none, .mov (.s 0)⟩, ⟨(some 21), none, .conv .u8 (.s 20)⟩, ⟨(some 22), none, .ixs (.c (.t (.str [0, 1, 2, 2, 3, 3, 3, 3, 4, 4, 4, 4, 4, 4, 4, 4, 5, 5, 5, 5, 5, 5, 5, 5, 5, 5, 5, 5, 5, 5, 5, 5, 6, 6, 6, 6, 6, 6, 6, 6, 6, 6, 6, 6, 6, 6, 6, 6, 6, 6, 6, 6, 6, 6, 6, 6, 6, 6, 6, 6, 6, 6, 6, 6, 7, 7, 7, 7, 7, 7, 7, 7, 7, 7, 7, 7, 7, 7, 7, 7, 7, 7, 7, 7, 7, 7, 7, 7, 7, 7, 7, 7, 7, 7, 7, 7, 7, 7, 7, 7, 7, 7, 7, 7, 7, 7, 7, 7, 7, 7, 7, 7, 7, 7, 7, 7, 7, 7, 7, 7, 7, 7, 7, 7, 7, 7, 7, 7, 8, 8, 8, 8, 8, 8, 8, 8, 8, 8, 8, 8, 8, 8, 8, 8, 8, 8, 8, 8, 8, 8, 8, 8, 8, 8, 8, 8, 8, 8, 8, 8, 8, 8, 8, 8, 8, 8, 8, 8, 8, 8, 8, 8, 8, 8, 8, 8, 8, 8, 8, 8, 8, 8, 8, 8, 8, 8, 8, 8, 8, 8, 8, 8, 8, 8, 8, 8, 8, 8, 8, 8, 8, 8, 8, 8, 8, 8, 8, 8, 8, 8, 8, 8, 8, 8, 8, 8, 8, 8, 8, 8, 8, 8, 8, 8, 8, 8, 8, 8, 8, 8, 8, 8, 8, 8, 8, 8, 8, 8, 8, 8, 8, 8, 8, 8, 8, 8, 8, 8, 8, 8, 8, 8, 8, 8, 8, 8]))) (.s 21)⟩, ⟨(some 23), none, .conv .i64 (.s 22)⟩, ⟨(some 24), none, .bin .add (.s 19) (.s 23)⟩, ⟨(some 2), none, .mov (.s 24)⟩])
 .ret))))),
 [.slot 2]⟩
theorem ok122 : compF Try.prog 122 [] [] = some ir122 := by kernel_rfl


end Go.Proofs.Bw.Qc
