/-
  THE RECKONED CODE, part 4: printed by program.
-/
import Derived.Test.YtfkidinbolmkiaaRows
import Derived.Test.YtfkidinbolmkiaaAw4
set_option maxRecDepth 100000
namespace Go.Proofs.Aw.Qa
open Go.Proofs

/-- math/bits.Len32 -/
def ir121 : FInfo := ⟨19,
 (.seq (.reg [⟨(some 2), none, .mov (.c (.t (.int .i64 0)))⟩])
 (.seq (.seq (.reg [⟨(some 3), none, .mov (.s 0)⟩, ⟨(some 4), none, .bin .geq (.s 3) (.c (.t (.int .u32 65536)))⟩])
 (.cond (.s 4)
 (.seq (.reg [⟨(some 5), none, .mov (.s 0)⟩, ⟨(some 6), none, .bin .shr (.s 5) (.c (.t (.int .u64 16)))⟩, ⟨(some 0), none, .mov (.s 6)⟩])
 (.reg [⟨(some 2), none, .mov (.c (.t (.int .i64 16)))⟩]))
 .skip))
 (.seq (.seq (.reg [⟨(some 7), none, .mov (.s 0)⟩, ⟨(some 8), none, .bin .geq (.s 7) (.c (.t (.int .u32 256)))⟩])
 (.cond (.s 8)
 (.seq (.reg [⟨(some 9), none, .mov (.s 0)⟩, ⟨(some 10), none, .bin .shr (.s 9) (.c (.t (.int .u64 8)))⟩, ⟨(some 0), none, .mov (.s 10)⟩])
 (.reg [⟨(some 11), none, .mov (.s 2)⟩, ⟨(some 12), none, .bin .add (.s 11) (.c (.t (.int .i64 8)))⟩, ⟨(some 2), none, .mov (.s 12)⟩]))
 .skip))
 (.seq (.reg [⟨(some 13), none, .mov (.s 2)⟩, ⟨(some 14), none, .mov (.s 0)⟩, ⟨(some 15), none, .conv .u8 (.s 14)⟩, ⟨(some 16), none, .ixs (.c (.t (.str [0, 1, 2, 2, 3, 3, 3, 3, 4, 4, 4, 4, 4, 4, 4, 4, 5, 5, 5, 5, 5, 5, 5, 5, 5, 5, 5, 5, 5, 5, 5, 5, 6, 6, 6, 6, 6, 6, 6, 6, 6, 6, 6, 6, 6, 6, 6, 6, 6, 6, 6, 6, 6, 6, 6, 6, 6, 6, 6, 6, 6, 6, 6, 6, 7, 7, 7, 7, 7, 7, 7, 7, 7, 7, 7, 7, 7, 7, 7, 7, 7, 7, 7, 7, 7, 7, 7, 7, 7, 7, 7, 7, 7, 7, 7, 7, 7, 7, 7, 7, 7, 7, 7, 7, 7, 7, 7, 7, 7, 7, 7, 7, 7, 7, 7, 7, 7, 7, 7, 7, 7, 7, 7, 7, 7, 7, 7, 7, 8, 8, 8, 8, 8, 8, 8, 8, 8, 8, 8, 8, 8, 8, 8, 8, 8, 8, 8, 8, 8, 8, 8, 8, 8, 8, 8, 8, 8, 8, 8, 8, 8, 8, 8, 8, 8, 8, 8, 8, 8, 8, 8, 8, 8, 8, 8, 8, 8, 8, 8, 8, 8, 8, 8, 8, 8, 8, 8, 8, 8, 8, 8, 8, 8, 8, 8, 8, 8, 8, 8, 8, 8, 8, 8, 8, 8, 8, 8, 8, 8, 8, 8, 8, 8, 8, 8, 8, 8, 8, 8, 8, 8, 8, 8, 8, 8, 8, 8, 8, 8, 8, 8, 8, 8, 8, 8, 8, 8, 8, 8, 8, 8, 8, 8, 8, 8, 8, 8, 8, 8, 8, 8, 8, 8, 8, 8, 8]))) (.s 15)⟩, ⟨(some 17), none, .conv .i64 (.s 16)⟩, ⟨(some 18), none, .bin .add (.s 13) (.s 17)⟩, ⟨(some 2), none, .mov (.s 18)⟩])
 .ret)))),
 [.slot 2]⟩
theorem ok121 : compF Try.prog 121 [] [] = some ir121 := by kernel_rfl

/-- math/bits.Len64 -/
def ir122 : FInfo := ⟨25,
 (.seq (.reg [⟨(some 2), none, .mov (.c (.t (.int .i64 0)))⟩])
 (.seq (.seq (.reg [⟨(some 3), none, .mov (.s 0)⟩, ⟨(some 4), none, .bin .geq (.s 3) (.c (.t (.int .u64 4294967296)))⟩])
 (.cond (.s 4)
 (.seq (.reg [⟨(some 5), none, .mov (.s 0)⟩, ⟨(some 6), none, .bin .shr (.s 5) (.c (.t (.int .u64 32)))⟩, ⟨(some 0), none, .mov (.s 6)⟩])
 (.reg [⟨(some 2), none, .mov (.c (.t (.int .i64 32)))⟩]))
 .skip))
 (.seq (.seq (.reg [⟨(some 7), none, .mov (.s 0)⟩, ⟨(some 8), none, .bin .geq (.s 7) (.c (.t (.int .u64 65536)))⟩])
 (.cond (.s 8)
 (.seq (.reg [⟨(some 9), none, .mov (.s 0)⟩, ⟨(some 10), none, .bin .shr (.s 9) (.c (.t (.int .u64 16)))⟩, ⟨(some 0), none, .mov (.s 10)⟩])
 (.reg [⟨(some 11), none, .mov (.s 2)⟩, ⟨(some 12), none, .bin .add (.s 11) (.c (.t (.int .i64 16)))⟩, ⟨(some 2), none, .mov (.s 12)⟩]))
 .skip))
 (.seq (.seq (.reg [⟨(some 13), none, .mov (.s 0)⟩, ⟨(some 14), none, .bin .geq (.s 13) (.c (.t (.int .u64 256)))⟩])
 (.cond (.s 14)
 (.seq (.reg [⟨(some 15), none, .mov (.s 0)⟩, ⟨(some 16), none, .bin .shr (.s 15) (.c (.t (.int .u64 8)))⟩, ⟨(some 0), none, .mov (.s 16)⟩])
 (.reg [⟨(some 17), none, .mov (.s 2)⟩, ⟨(some 18), none, .bin .add (.s 17) (.c (.t (.int .i64 8)))⟩, ⟨(some 2), none, .mov (.s 18)⟩]))
 .skip))
 (.seq (.reg [⟨(some 19), none, .mov (.s 2)⟩, ⟨(some 20), none, .mov (.s 0)⟩, ⟨(some 21), none, .conv .u8 (.s 20)⟩, ⟨(some 22), none, .ixs (.c (.t (.str [0, 1, 2, 2, 3, 3, 3, 3, 4, 4, 4, 4, 4, 4, 4, 4, 5, 5, 5, 5, 5, 5, 5, 5, 5, 5, 5, 5, 5, 5, 5, 5, 6, 6, 6, 6, 6, 6, 6, 6, 6, 6, 6, 6, 6, 6, 6, 6, 6, 6, 6, 6, 6, 6, 6, 6, 6, 6, 6, 6, 6, 6, 6, 6, 7, 7, 7, 7, 7, 7, 7, 7, 7, 7, 7, 7, 7, 7, 7, 7, 7, 7, 7, 7, 7, 7, 7, 7, 7, 7, 7, 7, 7, 7, 7, 7, 7, 7, 7, 7, 7, 7, 7, 7, 7, 7, 7, 7, 7, 7, 7, 7, 7, 7, 7, 7, 7, 7, 7, 7, 7, 7, 7, 7, 7, 7, 7, 7, 8, 8, 8, 8, 8, 8, 8, 8, 8, 8, 8, 8, 8, 8, 8, 8, 8, 8, 8, 8, 8, 8, 8, 8, 8, 8, 8, 8, 8, 8, 8, 8, 8, 8, 8, 8, 8, 8, 8, 8, 8, 8, 8, 8, 8, 8, 8, 8, 8, 8, 8, 8, 8, 8, 8, 8, 8, 8, 8, 8, 8, 8, 8, 8, 8, 8, 8, 8, 8, 8, 8, 8, 8, 8, 8, 8, 8, 8, 8, 8, 8, 8, 8, 8, 8, 8, 8, 8, 8, 8, 8, 8, 8, 8, 8, 8, 8, 8, 8, 8, 8, 8, 8, 8, 8, 8, 8, 8, 8, 8, 8, 8, 8, 8, 8, 8, 8, 8, 8, 8, 8, 8, 8, 8, 8, 8, 8, 8]))) (.s 21)⟩, ⟨(some 23), none, .conv .i64 (.s 22)⟩, ⟨(some 24), none, .bin .add (.s 19) (.s 23)⟩, ⟨(some 2), none, .mov (.s 24)⟩])
 .ret))))),
 [.slot 2]⟩
theorem ok122 : compF Try.prog 122 [] [] = some ir122 := by kernel_rfl

/-- math/bits.Rem64 -/
def ir123 : FInfo := ⟨19,
 (.seq (.reg [⟨(some 6), none, .mov (.c (.t (.int .u64 0)))⟩])
 (.seq (.reg [⟨(some 10), none, .mov (.s 0)⟩, ⟨(some 11), none, .mov (.s 2)⟩, ⟨(some 12), none, .bin .rem (.s 10) (.s 11)⟩, ⟨(some 13), none, .mov (.s 1)⟩, ⟨(some 14), none, .mov (.s 2)⟩, ⟨(some 15), none, .call false 105 (.tup [(.int .u64), (.int .u64)]) [(.s 12), (.s 13), (.s 14)]⟩, ⟨(some 9), none, .mov (.s 15)⟩, ⟨(some 16), none, .ext 0 (.s 9)⟩, ⟨(some 17), none, .ext 1 (.s 9)⟩, ⟨(some 7), none, .mov (.s 16)⟩, ⟨(some 8), none, .mov (.s 17)⟩])
 (.seq (.reg [⟨(some 18), none, .mov (.s 8)⟩, ⟨(some 6), none, .mov (.s 18)⟩])
 .ret))),
 [.slot 6]⟩
theorem ok123 : compF Try.prog 123 [] [] = some ir123 := by kernel_rfl

/-- slices.siftDownOrdered[int] -/
def ir124 : FInfo := ⟨76,
 (.seq (.reg [⟨(some 10), none, .mov (.s 1)⟩, ⟨(some 8), none, .mov (.s 10)⟩])
 (.block 0 (.loop [0, 2, 3, 8] (.block 1 (.seq (.reg [⟨(some 11), none, .mov (.s 8)⟩, ⟨(some 12), none, .bin .mul (.c (.t (.int .i64 2))) (.s 11)⟩, ⟨(some 13), none, .bin .add (.s 12) (.c (.t (.int .i64 1)))⟩, ⟨(some 9), none, .mov (.s 13)⟩])
 (.seq (.seq (.reg [⟨(some 14), none, .mov (.s 9)⟩, ⟨(some 15), none, .mov (.s 2)⟩, ⟨(some 16), none, .bin .geq (.s 14) (.s 15)⟩])
 (.cond (.s 16)
 (.exit 0)
 .skip))
 (.seq (.seq (.dreg [⟨(some 17), none, .mov (.s 9)⟩, ⟨(some 18), none, .bin .add (.s 17) (.c (.t (.int .i64 1)))⟩, ⟨(some 19), none, .mov (.s 2)⟩, ⟨(some 20), none, .bin .lss (.s 18) (.s 19)⟩, ⟨(some 21), none, .mov (.s 20)⟩, ⟨(some 22), (some (21, true)), .mov (.s 0)⟩, ⟨(some 23), (some (21, true)), .mov (.s 3)⟩, ⟨(some 24), (some (21, true)), .mov (.s 9)⟩, ⟨(some 25), (some (21, true)), .bin .add (.s 23) (.s 24)⟩, ⟨(some 26), (some (21, true)), .ia (.int .i64) (.s 22) (.s 25)⟩, ⟨(some 27), (some (21, true)), .ld (.int .i64) (.s 26)⟩, ⟨(some 28), (some (21, true)), .mov (.s 0)⟩, ⟨(some 29), (some (21, true)), .mov (.s 3)⟩, ⟨(some 30), (some (21, true)), .mov (.s 9)⟩, ⟨(some 31), (some (21, true)), .bin .add (.s 29) (.s 30)⟩, ⟨(some 32), (some (21, true)), .bin .add (.s 31) (.c (.t (.int .i64 1)))⟩, ⟨(some 33), (some (21, true)), .ia (.int .i64) (.s 28) (.s 32)⟩, ⟨(some 34), (some (21, true)), .ld (.int .i64) (.s 33)⟩, ⟨(some 35), (some (21, true)), .call false 118 .bool [(.s 27), (.s 34)]⟩, ⟨(some 36), none, .pick (.s 21) (.s 35) (.c (.t (.bool false)))⟩] [0, 1, 0, 7, 15, 31, 31, 31, 223, 511, 1023, 31, 31, 31, 12319, 28703, 63519, 129055, 262143, 524287])
 (.cond (.s 36)
 (.reg [⟨(some 37), none, .mov (.s 9)⟩, ⟨(some 38), none, .bin .add (.s 37) (.c (.t (.int .i64 1)))⟩, ⟨(some 9), none, .mov (.s 38)⟩])
 .skip))
 (.seq (.seq (.dreg [⟨(some 39), none, .mov (.s 0)⟩, ⟨(some 40), none, .mov (.s 3)⟩, ⟨(some 41), none, .mov (.s 8)⟩, ⟨(some 42), none, .bin .add (.s 40) (.s 41)⟩, ⟨(some 43), none, .ia (.int .i64) (.s 39) (.s 42)⟩, ⟨(some 44), none, .ld (.int .i64) (.s 43)⟩, ⟨(some 45), none, .mov (.s 0)⟩, ⟨(some 46), none, .mov (.s 3)⟩, ⟨(some 47), none, .mov (.s 9)⟩, ⟨(some 48), none, .bin .add (.s 46) (.s 47)⟩, ⟨(some 49), none, .ia (.int .i64) (.s 45) (.s 48)⟩, ⟨(some 50), none, .ld (.int .i64) (.s 49)⟩, ⟨(some 51), none, .call false 118 .bool [(.s 44), (.s 50)]⟩, ⟨(some 52), none, .un .not (.s 51)⟩] [0, 0, 0, 6, 15, 31, 0, 0, 0, 384, 960, 1984, 4095, 8191])
 (.cond (.s 52)
 .ret
 .skip))
 (.seq (.dreg [⟨(some 53), none, .mov (.s 0)⟩, ⟨(some 54), none, .mov (.s 3)⟩, ⟨(some 55), none, .mov (.s 8)⟩, ⟨(some 56), none, .bin .add (.s 54) (.s 55)⟩, ⟨(some 57), none, .mov (.s 0)⟩, ⟨(some 58), none, .mov (.s 3)⟩, ⟨(some 59), none, .mov (.s 9)⟩, ⟨(some 60), none, .bin .add (.s 58) (.s 59)⟩, ⟨(some 61), none, .mov (.s 0)⟩, ⟨(some 62), none, .mov (.s 3)⟩, ⟨(some 63), none, .mov (.s 9)⟩, ⟨(some 64), none, .bin .add (.s 62) (.s 63)⟩, ⟨(some 65), none, .ia (.int .i64) (.s 61) (.s 64)⟩, ⟨(some 66), none, .ld (.int .i64) (.s 65)⟩, ⟨(some 67), none, .mov (.s 0)⟩, ⟨(some 68), none, .mov (.s 3)⟩, ⟨(some 69), none, .mov (.s 8)⟩, ⟨(some 70), none, .bin .add (.s 68) (.s 69)⟩, ⟨(some 71), none, .ia (.int .i64) (.s 67) (.s 70)⟩, ⟨(some 72), none, .ld (.int .i64) (.s 71)⟩, ⟨(some 73), none, .ia (.int .i64) (.s 53) (.s 56)⟩, ⟨none, none, .st (.int .i64) (.s 73) (.s 66)⟩, ⟨(some 74), none, .ia (.int .i64) (.s 57) (.s 60)⟩, ⟨none, none, .st (.int .i64) (.s 74) (.s 72)⟩] [0, 0, 0, 6, 0, 0, 0, 96, 0, 0, 0, 1536, 3840, 7936, 0, 0, 0, 98304, 245760, 507904, 1048335, 2096911, 4194303, 8388607])
 (.reg [⟨(some 75), none, .mov (.s 9)⟩, ⟨(some 8), none, .mov (.s 75)⟩])))))))))),
 []⟩
theorem ok124 : compF Try.prog 124 [[0, 2, 3, 8]] [] = some ir124 := by kernel_rfl

/-- slices.nextPowerOfTwo -/
def ir125 : FInfo := ⟨7,
 (.seq (.reg [⟨(some 2), none, .mov (.c (.t (.int .u64 0)))⟩])
 (.seq (.reg [⟨(some 3), none, .mov (.s 0)⟩, ⟨(some 4), none, .conv .u64 (.s 3)⟩, ⟨(some 5), none, .call false 107 (.int .i64) [(.s 4)]⟩, ⟨(some 6), none, .bin .shl (.c (.t (.int .u64 1))) (.s 5)⟩, ⟨(some 2), none, .mov (.s 6)⟩])
 .ret)),
 [.slot 2]⟩
theorem ok125 : compF Try.prog 125 [] [] = some ir125 := by kernel_rfl

/-- (*slices.xorshift).Next -/
def ir126 : FInfo := ⟨33,
 (.seq (.reg [⟨(some 2), none, .mov (.c (.t (.int .u64 0)))⟩])
 (.seq (.dreg [⟨(some 3), none, .mov (.s 0)⟩, ⟨(some 4), none, .nonnil (.s 3)⟩, ⟨(some 5), none, .ld (.int .u64) (.s 4)⟩, ⟨(some 6), none, .mov (.s 0)⟩, ⟨(some 7), none, .nonnil (.s 6)⟩, ⟨(some 8), none, .ld (.int .u64) (.s 7)⟩, ⟨(some 9), none, .bin .shl (.s 8) (.c (.t (.int .u64 13)))⟩, ⟨(some 10), none, .bin .xor (.s 5) (.s 9)⟩, ⟨(some 11), none, .nonnil (.s 3)⟩, ⟨none, none, .st (.int .u64) (.s 11) (.s 10)⟩] [0, 1, 3, 0, 8, 24, 56, 127, 255, 511])
 (.seq (.dreg [⟨(some 12), none, .mov (.s 0)⟩, ⟨(some 13), none, .nonnil (.s 12)⟩, ⟨(some 14), none, .ld (.int .u64) (.s 13)⟩, ⟨(some 15), none, .mov (.s 0)⟩, ⟨(some 16), none, .nonnil (.s 15)⟩, ⟨(some 17), none, .ld (.int .u64) (.s 16)⟩, ⟨(some 18), none, .bin .shr (.s 17) (.c (.t (.int .u64 7)))⟩, ⟨(some 19), none, .bin .xor (.s 14) (.s 18)⟩, ⟨(some 20), none, .nonnil (.s 12)⟩, ⟨none, none, .st (.int .u64) (.s 20) (.s 19)⟩] [0, 1, 3, 0, 8, 24, 56, 127, 255, 511])
 (.seq (.dreg [⟨(some 21), none, .mov (.s 0)⟩, ⟨(some 22), none, .nonnil (.s 21)⟩, ⟨(some 23), none, .ld (.int .u64) (.s 22)⟩, ⟨(some 24), none, .mov (.s 0)⟩, ⟨(some 25), none, .nonnil (.s 24)⟩, ⟨(some 26), none, .ld (.int .u64) (.s 25)⟩, ⟨(some 27), none, .bin .shl (.s 26) (.c (.t (.int .u64 17)))⟩, ⟨(some 28), none, .bin .xor (.s 23) (.s 27)⟩, ⟨(some 29), none, .nonnil (.s 21)⟩, ⟨none, none, .st (.int .u64) (.s 29) (.s 28)⟩] [0, 1, 3, 0, 8, 24, 56, 127, 255, 511])
 (.seq (.reg [⟨(some 30), none, .mov (.s 0)⟩, ⟨(some 31), none, .nonnil (.s 30)⟩, ⟨(some 32), none, .ld (.int .u64) (.s 31)⟩, ⟨(some 2), none, .mov (.s 32)⟩])
 .ret))))),
 [.slot 2]⟩
theorem ok126 : compF Try.prog 126 [] [] = some ir126 := by kernel_rfl

/-- slices.medianAdjacentOrdered[int] -/
def ir127 : FInfo := ⟨15,
 (.seq (.reg [⟨(some 6), none, .mov (.c (.t (.int .i64 0)))⟩])
 (.seq (.reg [⟨(some 7), none, .mov (.s 0)⟩, ⟨(some 8), none, .mov (.s 1)⟩, ⟨(some 9), none, .bin .sub (.s 8) (.c (.t (.int .i64 1)))⟩, ⟨(some 10), none, .mov (.s 1)⟩, ⟨(some 11), none, .mov (.s 1)⟩, ⟨(some 12), none, .bin .add (.s 11) (.c (.t (.int .i64 1)))⟩, ⟨(some 13), none, .mov (.s 2)⟩, ⟨(some 14), none, .call false 128 (.int .i64) [(.s 7), (.s 9), (.s 10), (.s 12), (.s 13)]⟩, ⟨(some 6), none, .mov (.s 14)⟩])
 .ret)),
 [.slot 6]⟩
theorem ok127 : compF Try.prog 127 [] [] = some ir127 := by kernel_rfl

/-- slices.medianOrdered[int] -/
def ir128 : FInfo := ⟨36,
 (.seq (.reg [⟨(some 10), none, .mov (.c (.t (.int .i64 0)))⟩])
 (.seq (.reg [⟨(some 12), none, .mov (.s 0)⟩, ⟨(some 13), none, .mov (.s 1)⟩, ⟨(some 14), none, .mov (.s 2)⟩, ⟨(some 15), none, .mov (.s 4)⟩, ⟨(some 16), none, .call false 130 (.tup [(.int .i64), (.int .i64)]) [(.s 12), (.s 13), (.s 14), (.s 15)]⟩, ⟨(some 11), none, .mov (.s 16)⟩, ⟨(some 17), none, .ext 0 (.s 11)⟩, ⟨(some 18), none, .ext 1 (.s 11)⟩, ⟨(some 1), none, .mov (.s 17)⟩, ⟨(some 2), none, .mov (.s 18)⟩])
 (.seq (.reg [⟨(some 20), none, .mov (.s 0)⟩, ⟨(some 21), none, .mov (.s 2)⟩, ⟨(some 22), none, .mov (.s 3)⟩, ⟨(some 23), none, .mov (.s 4)⟩, ⟨(some 24), none, .call false 130 (.tup [(.int .i64), (.int .i64)]) [(.s 20), (.s 21), (.s 22), (.s 23)]⟩, ⟨(some 19), none, .mov (.s 24)⟩, ⟨(some 25), none, .ext 0 (.s 19)⟩, ⟨(some 26), none, .ext 1 (.s 19)⟩, ⟨(some 2), none, .mov (.s 25)⟩, ⟨(some 3), none, .mov (.s 26)⟩])
 (.seq (.reg [⟨(some 28), none, .mov (.s 0)⟩, ⟨(some 29), none, .mov (.s 1)⟩, ⟨(some 30), none, .mov (.s 2)⟩, ⟨(some 31), none, .mov (.s 4)⟩, ⟨(some 32), none, .call false 130 (.tup [(.int .i64), (.int .i64)]) [(.s 28), (.s 29), (.s 30), (.s 31)]⟩, ⟨(some 27), none, .mov (.s 32)⟩, ⟨(some 33), none, .ext 0 (.s 27)⟩, ⟨(some 34), none, .ext 1 (.s 27)⟩, ⟨(some 1), none, .mov (.s 33)⟩, ⟨(some 2), none, .mov (.s 34)⟩])
 (.seq (.reg [⟨(some 35), none, .mov (.s 2)⟩, ⟨(some 10), none, .mov (.s 35)⟩])
 .ret))))),
 [.slot 10]⟩
theorem ok128 : compF Try.prog 128 [] [] = some ir128 := by kernel_rfl

/-- cmp.isNaN[int] -/
def ir129 : FInfo := ⟨6,
 (.seq (.reg [⟨(some 2), none, .mov (.c (.t (.bool false)))⟩])
 (.seq (.reg [⟨(some 3), none, .mov (.s 0)⟩, ⟨(some 4), none, .mov (.s 0)⟩, ⟨(some 5), none, .bin .neq (.s 3) (.s 4)⟩, ⟨(some 2), none, .mov (.s 5)⟩])
 .ret)),
 [.slot 2]⟩
theorem ok129 : compF Try.prog 129 [] [] = some ir129 := by kernel_rfl

/-- slices.order2Ordered[int] -/
def ir130 : FInfo := ⟨28,
 (.seq (.reg [⟨(some 8), none, .mov (.c (.t (.int .i64 0)))⟩, ⟨(some 9), none, .mov (.c (.t (.int .i64 0)))⟩])
 (.seq (.seq (.dreg [⟨(some 10), none, .mov (.s 0)⟩, ⟨(some 11), none, .mov (.s 2)⟩, ⟨(some 12), none, .ia (.int .i64) (.s 10) (.s 11)⟩, ⟨(some 13), none, .ld (.int .i64) (.s 12)⟩, ⟨(some 14), none, .mov (.s 0)⟩, ⟨(some 15), none, .mov (.s 1)⟩, ⟨(some 16), none, .ia (.int .i64) (.s 14) (.s 15)⟩, ⟨(some 17), none, .ld (.int .i64) (.s 16)⟩, ⟨(some 18), none, .call false 118 .bool [(.s 13), (.s 17)]⟩] [0, 0, 3, 7, 0, 0, 48, 112, 255])
 (.cond (.s 18)
 (.seq (.reg [⟨(some 19), none, .mov (.s 3)⟩, ⟨(some 20), none, .nonnil (.s 19)⟩, ⟨(some 21), none, .ld (.int .i64) (.s 20)⟩, ⟨(some 22), none, .bin .add (.s 21) (.c (.t (.int .i64 1)))⟩, ⟨(some 23), none, .nonnil (.s 19)⟩, ⟨none, none, .st (.int .i64) (.s 23) (.s 22)⟩])
 (.seq (.reg [⟨(some 24), none, .mov (.s 2)⟩, ⟨(some 25), none, .mov (.s 1)⟩, ⟨(some 8), none, .mov (.s 24)⟩, ⟨(some 9), none, .mov (.s 25)⟩])
 .ret))
 .skip))
 (.seq (.reg [⟨(some 26), none, .mov (.s 1)⟩, ⟨(some 27), none, .mov (.s 2)⟩, ⟨(some 8), none, .mov (.s 26)⟩, ⟨(some 9), none, .mov (.s 27)⟩])
 .ret))),
 [.slot 8, .slot 9]⟩
theorem ok130 : compF Try.prog 130 [] [] = some ir130 := by kernel_rfl



end Go.Proofs.Aw.Qa
