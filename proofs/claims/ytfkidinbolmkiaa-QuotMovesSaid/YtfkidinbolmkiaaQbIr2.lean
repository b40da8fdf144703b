/-
  THE RECKONED CODE, part 2: printed by program.
-/
import Derived.Test.YtfkidinbolmkiaaRows
import Derived.Test.YtfkidinbolmkiaaBw4
set_option linter.unusedSimpArgs false
set_option linter.unusedVariables false
set_option maxRecDepth 100000
namespace Go.Proofs.Bw.Qb
open Go.Proofs

/-- tenet/tenetref23.BagNormal -/
def ir42 : FInfo := ⟨9,
 (.seq (.reg [⟨(some 2), none, .mov (.c .nilS)⟩, ⟨(some 3), none, .mov (.c (.t (.int .i64 0)))⟩])
 (.seq (.reg [⟨(some 4), none, .mov (.s 0)⟩, ⟨(some 5), none, .bsl .slc .nilS 1 [(0, (.s 4))]⟩, ⟨(some 6), none, .call false 76 (.tup [.slc, (.int .i64)]) [(.c (.t (.bool false))), (.s 5)]⟩, ⟨(some 7), none, .ext 0 (.s 6)⟩, ⟨(some 8), none, .ext 1 (.s 6)⟩, ⟨(some 2), none, .mov (.s 7)⟩, ⟨(some 3), none, .mov (.s 8)⟩])
 .ret)),
 [.slot 2, .slot 3]⟩
theorem ok42 : compF Try.prog 42 [] [] = some ir42 := by kernel_rfl

/-- tenet/tenetref23.BagUnion -/
def ir43 : FInfo := ⟨12,
 (.seq (.reg [⟨(some 4), none, .mov (.c .nilS)⟩, ⟨(some 5), none, .mov (.c (.t (.int .i64 0)))⟩])
 (.seq (.reg [⟨(some 6), none, .mov (.s 0)⟩, ⟨(some 7), none, .mov (.s 1)⟩, ⟨(some 8), none, .bsl .slc .nilS 2 [(0, (.s 6)), (1, (.s 7))]⟩, ⟨(some 9), none, .call false 76 (.tup [.slc, (.int .i64)]) [(.c (.t (.bool false))), (.s 8)]⟩, ⟨(some 10), none, .ext 0 (.s 9)⟩, ⟨(some 11), none, .ext 1 (.s 9)⟩, ⟨(some 4), none, .mov (.s 10)⟩, ⟨(some 5), none, .mov (.s 11)⟩])
 .ret)),
 [.slot 4, .slot 5]⟩
theorem ok43 : compF Try.prog 43 [] [] = some ir43 := by kernel_rfl

/-- tenet/tenetref23.SetNormal -/
def ir44 : FInfo := ⟨9,
 (.seq (.reg [⟨(some 2), none, .mov (.c .nilS)⟩, ⟨(some 3), none, .mov (.c (.t (.int .i64 0)))⟩])
 (.seq (.reg [⟨(some 4), none, .mov (.s 0)⟩, ⟨(some 5), none, .bsl .slc .nilS 1 [(0, (.s 4))]⟩, ⟨(some 6), none, .call false 76 (.tup [.slc, (.int .i64)]) [(.c (.t (.bool true))), (.s 5)]⟩, ⟨(some 7), none, .ext 0 (.s 6)⟩, ⟨(some 8), none, .ext 1 (.s 6)⟩, ⟨(some 2), none, .mov (.s 7)⟩, ⟨(some 3), none, .mov (.s 8)⟩])
 .ret)),
 [.slot 2, .slot 3]⟩
theorem ok44 : compF Try.prog 44 [] [] = some ir44 := by kernel_rfl

/-- tenet/tenetref23.SetUnion -/
def ir45 : FInfo := ⟨12,
 (.seq (.reg [⟨(some 4), none, .mov (.c .nilS)⟩, ⟨(some 5), none, .mov (.c (.t (.int .i64 0)))⟩])
 (.seq (.reg [⟨(some 6), none, .mov (.s 0)⟩, ⟨(some 7), none, .mov (.s 1)⟩, ⟨(some 8), none, .bsl .slc .nilS 2 [(0, (.s 6)), (1, (.s 7))]⟩, ⟨(some 9), none, .call false 76 (.tup [.slc, (.int .i64)]) [(.c (.t (.bool true))), (.s 8)]⟩, ⟨(some 10), none, .ext 0 (.s 9)⟩, ⟨(some 11), none, .ext 1 (.s 9)⟩, ⟨(some 4), none, .mov (.s 10)⟩, ⟨(some 5), none, .mov (.s 11)⟩])
 .ret)),
 [.slot 4, .slot 5]⟩
theorem ok45 : compF Try.prog 45 [] [] = some ir45 := by kernel_rfl

/-- tenet/tenetref23.SetMeet -/
def ir46 : FInfo := ⟨36,
 (.seq (.reg [⟨(some 4), none, .mov (.c .nilS)⟩, ⟨(some 5), none, .mov (.c (.t (.int .i64 0)))⟩])
 (.seq (.seq (.reg [⟨(some 8), none, .mov (.s 0)⟩, ⟨(some 9), none, .call false 77 .bool [(.s 8)]⟩, ⟨(some 10), none, .un .not (.s 9)⟩, ⟨(some 11), none, .mov (.s 10)⟩, ⟨(some 12), (some (11, false)), .mov (.s 1)⟩, ⟨(some 13), (some (11, false)), .call false 77 .bool [(.s 12)]⟩, ⟨(some 14), (some (11, false)), .un .not (.s 13)⟩, ⟨(some 15), none, .pick (.s 11) (.c (.t (.bool true))) (.s 14)⟩])
 (.cond (.s 15)
 (.seq (.reg [⟨(some 4), none, .mov (.c .nilS)⟩, ⟨(some 5), none, .mov (.c (.t (.int .i64 4)))⟩])
 .ret)
 .skip))
 (.seq (.reg [⟨(some 6), none, .mov (.c .nilS)⟩])
 (.seq (.seq (.reg [⟨(some 7), none, .mov (.c (.t (.int .i64 0)))⟩])
 (.block 0 (.loop [0, 1, 6, 7] (.seq (.seq (.reg [⟨(some 16), none, .mov (.s 7)⟩, ⟨(some 17), none, .mov (.s 0)⟩, ⟨(some 18), none, .len (.s 17)⟩, ⟨(some 19), none, .bin .lss (.s 16) (.s 18)⟩])
 (.cond (.s 19)
 .skip
 (.exit 0)))
 (.seq (.block 1 (.seq (.reg [⟨(some 22), none, .mov (.s 1)⟩, ⟨(some 23), none, .mov (.s 0)⟩, ⟨(some 24), none, .mov (.s 7)⟩, ⟨(some 25), none, .ia (.int .i64) (.s 23) (.s 24)⟩, ⟨(some 26), none, .ld (.int .i64) (.s 25)⟩, ⟨(some 27), none, .call false 78 (.int .i64) [(.s 22), (.s 26)]⟩, ⟨(some 28), none, .bin .geq (.s 27) (.c (.t (.int .i64 0)))⟩])
 (.cond (.s 28)
 (.reg [⟨(some 29), none, .mov (.s 6)⟩, ⟨(some 30), none, .mov (.s 0)⟩, ⟨(some 31), none, .mov (.s 7)⟩, ⟨(some 32), none, .ia (.int .i64) (.s 30) (.s 31)⟩, ⟨(some 33), none, .ld (.int .i64) (.s 32)⟩, ⟨(some 34), none, .call false 79 .slc [(.s 29), (.s 33), (.c (.t (.bool true)))]⟩, ⟨(some 6), none, .mov (.s 34)⟩])
 .skip)))
 (.reg [⟨(some 20), none, .mov (.s 7)⟩, ⟨(some 21), none, .bin .add (.s 20) (.c (.t (.int .i64 1)))⟩, ⟨(some 7), none, .mov (.s 21)⟩]))))))
 (.seq (.reg [⟨(some 35), none, .mov (.s 6)⟩, ⟨(some 4), none, .mov (.s 35)⟩, ⟨(some 5), none, .mov (.c (.t (.int .i64 0)))⟩])
 .ret))))),
 [.slot 4, .slot 5]⟩
theorem ok46 : compF Try.prog 46 [[0, 1, 6, 7]] [] = some ir46 := by kernel_rfl

/-- tenet/tenetref23.BagCount -/
def ir47 : FInfo := ⟨26,
 (.seq (.reg [⟨(some 4), none, .mov (.c (.t (.int .i64 0)))⟩, ⟨(some 5), none, .mov (.c (.t (.int .i64 0)))⟩])
 (.seq (.seq (.reg [⟨(some 8), none, .mov (.s 0)⟩, ⟨(some 9), none, .call false 77 .bool [(.s 8)]⟩, ⟨(some 10), none, .un .not (.s 9)⟩])
 (.cond (.s 10)
 (.seq (.reg [⟨(some 4), none, .mov (.c (.t (.int .i64 0)))⟩, ⟨(some 5), none, .mov (.c (.t (.int .i64 4)))⟩])
 .ret)
 .skip))
 (.seq (.reg [⟨(some 6), none, .mov (.c (.t (.int .i64 0)))⟩])
 (.seq (.seq (.reg [⟨(some 7), none, .mov (.c (.t (.int .i64 0)))⟩])
 (.block 0 (.loop [0, 1, 6, 7] (.seq (.seq (.reg [⟨(some 11), none, .mov (.s 7)⟩, ⟨(some 12), none, .mov (.s 0)⟩, ⟨(some 13), none, .len (.s 12)⟩, ⟨(some 14), none, .bin .lss (.s 11) (.s 13)⟩])
 (.cond (.s 14)
 .skip
 (.exit 0)))
 (.seq (.block 1 (.seq (.reg [⟨(some 17), none, .mov (.s 0)⟩, ⟨(some 18), none, .mov (.s 7)⟩, ⟨(some 19), none, .ia (.int .i64) (.s 17) (.s 18)⟩, ⟨(some 20), none, .ld (.int .i64) (.s 19)⟩, ⟨(some 21), none, .mov (.s 1)⟩, ⟨(some 22), none, .bin .eql (.s 20) (.s 21)⟩])
 (.cond (.s 22)
 (.reg [⟨(some 23), none, .mov (.s 6)⟩, ⟨(some 24), none, .bin .add (.s 23) (.c (.t (.int .i64 1)))⟩, ⟨(some 6), none, .mov (.s 24)⟩])
 .skip)))
 (.reg [⟨(some 15), none, .mov (.s 7)⟩, ⟨(some 16), none, .bin .add (.s 15) (.c (.t (.int .i64 1)))⟩, ⟨(some 7), none, .mov (.s 16)⟩]))))))
 (.seq (.reg [⟨(some 25), none, .mov (.s 6)⟩, ⟨(some 4), none, .mov (.s 25)⟩, ⟨(some 5), none, .mov (.c (.t (.int .i64 0)))⟩])
 .ret))))),
 [.slot 4, .slot 5]⟩
theorem ok47 : compF Try.prog 47 [[0, 1, 6, 7]] [] = some ir47 := by kernel_rfl

/-- tenet/tenetref23.Fold -/
def ir48 : FInfo := ⟨67,
 (.seq (.reg [⟨(some 4), none, .mov (.c (.t (.int .i64 0)))⟩, ⟨(some 5), none, .mov (.c (.t (.int .i64 0)))⟩])
 (.seq (.seq (.reg [⟨(some 8), none, .mov (.s 0)⟩, ⟨(some 9), none, .call false 77 .bool [(.s 8)]⟩, ⟨(some 10), none, .un .not (.s 9)⟩])
 (.cond (.s 10)
 (.seq (.reg [⟨(some 4), none, .mov (.c (.t (.int .i64 0)))⟩, ⟨(some 5), none, .mov (.c (.t (.int .i64 4)))⟩])
 .ret)
 .skip))
 (.seq (.seq (.reg [⟨(some 11), none, .mov (.s 1)⟩, ⟨(some 12), none, .bin .lss (.s 11) (.c (.t (.int .i64 1)))⟩, ⟨(some 13), none, .mov (.s 12)⟩, ⟨(some 14), (some (13, false)), .mov (.s 1)⟩, ⟨(some 15), (some (13, false)), .bin .gtr (.s 14) (.c (.t (.int .i64 4)))⟩, ⟨(some 16), none, .pick (.s 13) (.c (.t (.bool true))) (.s 15)⟩])
 (.cond (.s 16)
 (.seq (.reg [⟨(some 4), none, .mov (.c (.t (.int .i64 0)))⟩, ⟨(some 5), none, .mov (.c (.t (.int .i64 1)))⟩])
 .ret)
 .skip))
 (.seq (.seq (.reg [⟨(some 17), none, .mov (.s 1)⟩, ⟨(some 18), none, .bin .eql (.s 17) (.c (.t (.int .i64 4)))⟩, ⟨(some 19), none, .mov (.s 18)⟩, ⟨(some 20), (some (19, false)), .mov (.s 0)⟩, ⟨(some 21), (some (19, false)), .len (.s 20)⟩, ⟨(some 22), (some (19, false)), .bin .eql (.s 21) (.c (.t (.int .i64 0)))⟩, ⟨(some 23), none, .pick (.s 19) (.c (.t (.bool true))) (.s 22)⟩])
 (.cond (.s 23)
 (.seq (.reg [⟨(some 24), none, .mov (.s 0)⟩, ⟨(some 25), none, .len (.s 24)⟩, ⟨(some 4), none, .mov (.s 25)⟩, ⟨(some 5), none, .mov (.c (.t (.int .i64 0)))⟩])
 .ret)
 .skip))
 (.seq (.reg [⟨(some 26), none, .mov (.s 0)⟩, ⟨(some 27), none, .ia (.int .i64) (.s 26) (.c (.t (.int .i64 0)))⟩, ⟨(some 28), none, .ld (.int .i64) (.s 27)⟩, ⟨(some 6), none, .mov (.s 28)⟩])
 (.seq (.seq (.reg [⟨(some 7), none, .mov (.c (.t (.int .i64 1)))⟩])
 (.block 0 (.loop [0, 1, 6, 7] (.seq (.seq (.reg [⟨(some 29), none, .mov (.s 7)⟩, ⟨(some 30), none, .mov (.s 0)⟩, ⟨(some 31), none, .len (.s 30)⟩, ⟨(some 32), none, .bin .lss (.s 29) (.s 31)⟩])
 (.cond (.s 32)
 .skip
 (.exit 0)))
 (.seq (.block 1 (.seq (.reg [⟨(some 35), none, .mov (.s 1)⟩])
 (.block 2 (.seq (.reg [⟨(some 37), none, .bin .eql (.s 35) (.c (.t (.int .i64 1)))⟩, ⟨(some 36), none, .mov (.s 37)⟩])
 (.cond (.s 36)
 (.reg [⟨(some 38), none, .mov (.s 6)⟩, ⟨(some 39), none, .mov (.s 0)⟩, ⟨(some 40), none, .mov (.s 7)⟩, ⟨(some 41), none, .ia (.int .i64) (.s 39) (.s 40)⟩, ⟨(some 42), none, .ld (.int .i64) (.s 41)⟩, ⟨(some 43), none, .bin .add (.s 38) (.s 42)⟩, ⟨(some 6), none, .mov (.s 43)⟩])
 (.seq (.reg [⟨(some 45), none, .bin .eql (.s 35) (.c (.t (.int .i64 2)))⟩, ⟨(some 44), none, .mov (.s 45)⟩])
 (.cond (.s 44)
 (.reg [⟨(some 46), none, .mov (.s 6)⟩, ⟨(some 47), none, .mov (.s 0)⟩, ⟨(some 48), none, .mov (.s 7)⟩, ⟨(some 49), none, .ia (.int .i64) (.s 47) (.s 48)⟩, ⟨(some 50), none, .ld (.int .i64) (.s 49)⟩, ⟨(some 51), none, .mx (.s 46) (.s 50)⟩, ⟨(some 6), none, .mov (.s 51)⟩])
 (.seq (.reg [⟨(some 53), none, .bin .eql (.s 35) (.c (.t (.int .i64 3)))⟩, ⟨(some 52), none, .mov (.s 53)⟩])
 (.cond (.s 52)
 (.reg [⟨(some 54), none, .mov (.s 6)⟩, ⟨(some 55), none, .mov (.s 0)⟩, ⟨(some 56), none, .mov (.s 7)⟩, ⟨(some 57), none, .ia (.int .i64) (.s 55) (.s 56)⟩, ⟨(some 58), none, .ld (.int .i64) (.s 57)⟩, ⟨(some 59), none, .mn (.s 54) (.s 58)⟩, ⟨(some 6), none, .mov (.s 59)⟩])
 .skip)))))))))
 (.reg [⟨(some 33), none, .mov (.s 7)⟩, ⟨(some 34), none, .bin .add (.s 33) (.c (.t (.int .i64 1)))⟩, ⟨(some 7), none, .mov (.s 34)⟩]))))))
 (.seq (.seq (.reg [⟨(some 60), none, .mov (.s 6)⟩, ⟨(some 61), none, .bin .gtr (.s 60) (.c (.t (.int .i64 1099511627776)))⟩, ⟨(some 62), none, .mov (.s 61)⟩, ⟨(some 63), (some (62, false)), .mov (.s 6)⟩, ⟨(some 64), (some (62, false)), .bin .lss (.s 63) (.c (.t (.int .i64 (-1099511627776))))⟩, ⟨(some 65), none, .pick (.s 62) (.c (.t (.bool true))) (.s 64)⟩])
 (.cond (.s 65)
 (.seq (.reg [⟨(some 4), none, .mov (.c (.t (.int .i64 0)))⟩, ⟨(some 5), none, .mov (.c (.t (.int .i64 2)))⟩])
 .ret)
 .skip))
 (.seq (.reg [⟨(some 66), none, .mov (.s 6)⟩, ⟨(some 4), none, .mov (.s 66)⟩, ⟨(some 5), none, .mov (.c (.t (.int .i64 0)))⟩])
 .ret)))))))),
 [.slot 4, .slot 5]⟩
theorem ok48 : compF Try.prog 48 [[0, 1, 6, 7]] [] = some ir48 := by kernel_rfl

/-- tenet/quot.natural -/
def ir49 : FInfo := ⟨6,
 (.seq (.reg [⟨(some 2), none, .mov (.c (.t (.bool false)))⟩])
 (.seq (.reg [⟨(some 3), none, .mov (.s 0)⟩, ⟨(some 4), none, .call false 80 .bool [(.s 3), (.f 81)]⟩, ⟨(some 5), none, .un .not (.s 4)⟩, ⟨(some 2), none, .mov (.s 5)⟩])
 .ret)),
 [.slot 2]⟩
theorem ok49 : compF Try.prog 49 [] [] = some ir49 := by kernel_rfl

/-- tenet/quot.pair -/
def ir50 : FInfo := ⟨18,
 (.seq (.reg [⟨(some 2), none, .new (.agg [(.int .i64), (.int .i64)]) (.t (.agg [(.int .i64 0), (.int .i64 0)]))⟩, ⟨(some 3), none, .mov (.c (.t (.int .i64 0)))⟩])
 (.seq (.block 0 (.seq (.reg [⟨(some 5), none, .mov (.s 0)⟩, ⟨(some 6), none, .bsl (.int .i64) (.t (.int .i64 0)) 1 [(0, (.s 5))]⟩, ⟨(some 7), none, .call false 70 .bool [(.s 6)]⟩, ⟨(some 8), none, .un .not (.s 7)⟩, ⟨(some 4), none, .mov (.s 8)⟩])
 (.cond (.s 4)
 (.seq (.reg [⟨(some 9), none, .build [(.t (.int .i64 0)), (.t (.int .i64 0))] []⟩, ⟨none, none, .st (.agg [(.int .i64), (.int .i64)]) (.s 2) (.s 9)⟩, ⟨(some 3), none, .mov (.c (.t (.int .i64 2)))⟩])
 .ret)
 (.seq (.reg [⟨(some 11), none, .mov (.s 0)⟩, ⟨(some 12), none, .bin .lss (.s 11) (.c (.t (.int .i64 0)))⟩, ⟨(some 10), none, .mov (.s 12)⟩])
 (.cond (.s 10)
 (.seq (.reg [⟨(some 13), none, .mov (.s 0)⟩, ⟨(some 14), none, .un .neg (.s 13)⟩, ⟨(some 15), none, .build [(.t (.int .i64 0)), (.t (.int .i64 0))] [(0, (.int .i64), (.c (.t (.int .i64 0)))), (1, (.int .i64), (.s 14))]⟩, ⟨none, none, .st (.agg [(.int .i64), (.int .i64)]) (.s 2) (.s 15)⟩, ⟨(some 3), none, .mov (.c (.t (.int .i64 0)))⟩])
 .ret)
 .skip)))))
 (.seq (.reg [⟨(some 16), none, .mov (.s 0)⟩, ⟨(some 17), none, .build [(.t (.int .i64 0)), (.t (.int .i64 0))] [(0, (.int .i64), (.s 16)), (1, (.int .i64), (.c (.t (.int .i64 0))))]⟩, ⟨none, none, .st (.agg [(.int .i64), (.int .i64)]) (.s 2) (.s 17)⟩, ⟨(some 3), none, .mov (.c (.t (.int .i64 0)))⟩])
 .ret))),
 [.cell 2 (.agg [(.int .i64), (.int .i64)]), .slot 3]⟩
theorem ok50 : compF Try.prog 50 [] [] = some ir50 := by kernel_rfl

/-- tenet/quot.times -/
def ir51 : FInfo := ⟨29,
 (.seq (.reg [⟨(some 4), none, .new (.agg [.bool, (.int .u64), (.int .u64)]) (.t (.agg [(.bool false), (.int .u64 0), (.int .u64 0)]))⟩])
 (.seq (.reg [⟨(some 8), none, .mov (.s 0)⟩, ⟨(some 9), none, .call false 83 (.int .u64) [(.s 8)]⟩, ⟨(some 10), none, .mov (.s 1)⟩, ⟨(some 11), none, .call false 83 (.int .u64) [(.s 10)]⟩, ⟨(some 12), none, .call false 82 (.tup [(.int .u64), (.int .u64)]) [(.s 9), (.s 11)]⟩, ⟨(some 7), none, .mov (.s 12)⟩, ⟨(some 13), none, .ext 0 (.s 7)⟩, ⟨(some 14), none, .ext 1 (.s 7)⟩, ⟨(some 5), none, .mov (.s 13)⟩, ⟨(some 6), none, .mov (.s 14)⟩])
 (.seq (.reg [⟨(some 15), none, .mov (.s 0)⟩, ⟨(some 16), none, .bin .lss (.s 15) (.c (.t (.int .i64 0)))⟩, ⟨(some 17), none, .mov (.s 1)⟩, ⟨(some 18), none, .bin .lss (.s 17) (.c (.t (.int .i64 0)))⟩, ⟨(some 19), none, .eqs true .bool (.s 16) (.s 18)⟩, ⟨(some 20), none, .mov (.s 19)⟩, ⟨(some 21), (some (20, true)), .mov (.s 5)⟩, ⟨(some 22), (some (20, true)), .mov (.s 6)⟩, ⟨(some 23), (some (20, true)), .bin .or (.s 21) (.s 22)⟩, ⟨(some 24), (some (20, true)), .bin .neq (.s 23) (.c (.t (.int .u64 0)))⟩, ⟨(some 25), none, .pick (.s 20) (.s 24) (.c (.t (.bool false)))⟩, ⟨(some 26), none, .mov (.s 5)⟩, ⟨(some 27), none, .mov (.s 6)⟩, ⟨(some 28), none, .build [(.t (.bool false)), (.t (.int .u64 0)), (.t (.int .u64 0))] [(0, .bool, (.s 25)), (1, (.int .u64), (.s 26)), (2, (.int .u64), (.s 27))]⟩, ⟨none, none, .st (.agg [.bool, (.int .u64), (.int .u64)]) (.s 4) (.s 28)⟩])
 .ret))),
 [.cell 4 (.agg [.bool, (.int .u64), (.int .u64)])]⟩
theorem ok51 : compF Try.prog 51 [] [] = some ir51 := by kernel_rfl

/-- (tenet/quot.wide).small -/
def ir52 : FInfo := ⟨21,
 (.seq (.reg [⟨(some 1), none, .box (.agg [.bool, (.int .u64), (.int .u64)]) (.s 0)⟩, ⟨(some 2), none, .mov (.c (.t (.int .i64 0)))⟩, ⟨(some 3), none, .mov (.c (.t (.bool false)))⟩])
 (.seq (.seq (.reg [⟨(some 4), none, .fa 1 (.s 1)⟩, ⟨(some 5), none, .ld (.int .u64) (.s 4)⟩, ⟨(some 6), none, .bin .neq (.s 5) (.c (.t (.int .u64 0)))⟩, ⟨(some 7), none, .mov (.s 6)⟩, ⟨(some 8), (some (7, false)), .fa 2 (.s 1)⟩, ⟨(some 9), (some (7, false)), .ld (.int .u64) (.s 8)⟩, ⟨(some 10), (some (7, false)), .bin .gtr (.s 9) (.c (.t (.int .u64 1099511627776)))⟩, ⟨(some 11), none, .pick (.s 7) (.c (.t (.bool true))) (.s 10)⟩])
 (.cond (.s 11)
 (.seq (.reg [⟨(some 2), none, .mov (.c (.t (.int .i64 0)))⟩, ⟨(some 3), none, .mov (.c (.t (.bool false)))⟩])
 .ret)
 .skip))
 (.seq (.seq (.reg [⟨(some 12), none, .fa 0 (.s 1)⟩, ⟨(some 13), none, .ld .bool (.s 12)⟩])
 (.cond (.s 13)
 (.seq (.reg [⟨(some 14), none, .fa 2 (.s 1)⟩, ⟨(some 15), none, .ld (.int .u64) (.s 14)⟩, ⟨(some 16), none, .conv .i64 (.s 15)⟩, ⟨(some 17), none, .un .neg (.s 16)⟩, ⟨(some 2), none, .mov (.s 17)⟩, ⟨(some 3), none, .mov (.c (.t (.bool true)))⟩])
 .ret)
 .skip))
 (.seq (.reg [⟨(some 18), none, .fa 2 (.s 1)⟩, ⟨(some 19), none, .ld (.int .u64) (.s 18)⟩, ⟨(some 20), none, .conv .i64 (.s 19)⟩, ⟨(some 2), none, .mov (.s 20)⟩, ⟨(some 3), none, .mov (.c (.t (.bool true)))⟩])
 .ret)))),
 [.slot 2, .slot 3]⟩
theorem ok52 : compF Try.prog 52 [] [] = some ir52 := by kernel_rfl

/-- tenet/tenetref23.pairOK -/
def ir53 : FInfo := ⟨21,
 (.seq (.reg [⟨(some 1), none, .box (.agg [(.int .i64), (.int .i64)]) (.s 0)⟩, ⟨(some 2), none, .mov (.c (.t (.bool false)))⟩])
 (.seq (.reg [⟨(some 3), none, .iaa (.int .i64) 2 (.s 1) (.c (.t (.int .i64 0)))⟩, ⟨(some 4), none, .ld (.int .i64) (.s 3)⟩, ⟨(some 5), none, .bin .geq (.s 4) (.c (.t (.int .i64 0)))⟩, ⟨(some 6), none, .mov (.s 5)⟩, ⟨(some 7), (some (6, true)), .iaa (.int .i64) 2 (.s 1) (.c (.t (.int .i64 0)))⟩, ⟨(some 8), (some (6, true)), .ld (.int .i64) (.s 7)⟩, ⟨(some 9), (some (6, true)), .bin .leq (.s 8) (.c (.t (.int .i64 1099511627776)))⟩, ⟨(some 10), none, .pick (.s 6) (.s 9) (.c (.t (.bool false)))⟩, ⟨(some 11), none, .mov (.s 10)⟩, ⟨(some 12), (some (11, true)), .iaa (.int .i64) 2 (.s 1) (.c (.t (.int .i64 1)))⟩, ⟨(some 13), (some (11, true)), .ld (.int .i64) (.s 12)⟩, ⟨(some 14), (some (11, true)), .bin .geq (.s 13) (.c (.t (.int .i64 0)))⟩, ⟨(some 15), none, .pick (.s 11) (.s 14) (.c (.t (.bool false)))⟩, ⟨(some 16), none, .mov (.s 15)⟩, ⟨(some 17), (some (16, true)), .iaa (.int .i64) 2 (.s 1) (.c (.t (.int .i64 1)))⟩, ⟨(some 18), (some (16, true)), .ld (.int .i64) (.s 17)⟩, ⟨(some 19), (some (16, true)), .bin .leq (.s 18) (.c (.t (.int .i64 1099511627776)))⟩, ⟨(some 20), none, .pick (.s 16) (.s 19) (.c (.t (.bool false)))⟩, ⟨(some 2), none, .mov (.s 20)⟩])
 .ret)),
 [.slot 2]⟩
theorem ok53 : compF Try.prog 53 [] [] = some ir53 := by kernel_rfl

/-- tenet/tenetref23.whole -/
def ir54 : FInfo := ⟨17,
 (.seq (.reg [⟨(some 2), none, .new (.agg [(.int .i64), (.int .i64)]) (.t (.agg [(.int .i64 0), (.int .i64 0)]))⟩, ⟨(some 3), none, .mov (.c (.t (.int .i64 0)))⟩])
 (.seq (.seq (.reg [⟨(some 4), none, .mov (.s 0)⟩, ⟨(some 5), none, .bin .gtr (.s 4) (.c (.t (.int .i64 1099511627776)))⟩, ⟨(some 6), none, .mov (.s 5)⟩, ⟨(some 7), (some (6, false)), .mov (.s 0)⟩, ⟨(some 8), (some (6, false)), .bin .lss (.s 7) (.c (.t (.int .i64 (-1099511627776))))⟩, ⟨(some 9), none, .pick (.s 6) (.c (.t (.bool true))) (.s 8)⟩])
 (.cond (.s 9)
 (.seq (.reg [⟨(some 10), none, .build [(.t (.int .i64 0)), (.t (.int .i64 0))] []⟩, ⟨none, none, .st (.agg [(.int .i64), (.int .i64)]) (.s 2) (.s 10)⟩, ⟨(some 3), none, .mov (.c (.t (.int .i64 2)))⟩])
 .ret)
 .skip))
 (.seq (.reg [⟨(some 11), none, .mov (.s 0)⟩, ⟨(some 12), none, .mx (.s 11) (.c (.t (.int .i64 0)))⟩, ⟨(some 13), none, .mov (.s 0)⟩, ⟨(some 14), none, .un .neg (.s 13)⟩, ⟨(some 15), none, .mx (.s 14) (.c (.t (.int .i64 0)))⟩, ⟨(some 16), none, .build [(.t (.int .i64 0)), (.t (.int .i64 0))] [(0, (.int .i64), (.s 12)), (1, (.int .i64), (.s 15))]⟩, ⟨none, none, .st (.agg [(.int .i64), (.int .i64)]) (.s 2) (.s 16)⟩, ⟨(some 3), none, .mov (.c (.t (.int .i64 0)))⟩])
 .ret))),
 [.cell 2 (.agg [(.int .i64), (.int .i64)]), .slot 3]⟩
theorem ok54 : compF Try.prog 54 [] [] = some ir54 := by kernel_rfl

/-- tenet/tenetref23.times -/
def ir55 : FInfo := ⟨31,
 (.seq (.reg [⟨(some 4), none, .new (.agg [.bool, (.int .u64), (.int .u64)]) (.t (.agg [(.bool false), (.int .u64 0), (.int .u64 0)]))⟩])
 (.seq (.reg [⟨(some 8), none, .mov (.s 0)⟩, ⟨(some 9), none, .call false 84 (.int .u64) [(.s 8)]⟩, ⟨(some 10), none, .mov (.s 1)⟩, ⟨(some 11), none, .call false 84 (.int .u64) [(.s 10)]⟩, ⟨(some 12), none, .call false 82 (.tup [(.int .u64), (.int .u64)]) [(.s 9), (.s 11)]⟩, ⟨(some 7), none, .mov (.s 12)⟩, ⟨(some 13), none, .ext 0 (.s 7)⟩, ⟨(some 14), none, .ext 1 (.s 7)⟩, ⟨(some 5), none, .mov (.s 13)⟩, ⟨(some 6), none, .mov (.s 14)⟩])
 (.seq (.reg [⟨(some 15), none, .mov (.s 0)⟩, ⟨(some 16), none, .bin .lss (.s 15) (.c (.t (.int .i64 0)))⟩, ⟨(some 17), none, .mov (.s 1)⟩, ⟨(some 18), none, .bin .lss (.s 17) (.c (.t (.int .i64 0)))⟩, ⟨(some 19), none, .eqs true .bool (.s 16) (.s 18)⟩, ⟨(some 20), none, .mov (.s 19)⟩, ⟨(some 21), (some (20, true)), .mov (.s 5)⟩, ⟨(some 22), (some (20, true)), .bin .neq (.s 21) (.c (.t (.int .u64 0)))⟩, ⟨(some 23), (some (20, true)), .mov (.s 22)⟩, ⟨(some 24), (some (23, false)), .mov (.s 6)⟩, ⟨(some 25), (some (23, false)), .bin .neq (.s 24) (.c (.t (.int .u64 0)))⟩, ⟨(some 26), (some (20, true)), .pick (.s 23) (.c (.t (.bool true))) (.s 25)⟩, ⟨(some 27), none, .pick (.s 20) (.s 26) (.c (.t (.bool false)))⟩, ⟨(some 28), none, .mov (.s 5)⟩, ⟨(some 29), none, .mov (.s 6)⟩, ⟨(some 30), none, .build [(.t (.bool false)), (.t (.int .u64 0)), (.t (.int .u64 0))] [(0, .bool, (.s 27)), (1, (.int .u64), (.s 28)), (2, (.int .u64), (.s 29))]⟩, ⟨none, none, .st (.agg [.bool, (.int .u64), (.int .u64)]) (.s 4) (.s 30)⟩])
 .ret))),
 [.cell 4 (.agg [.bool, (.int .u64), (.int .u64)])]⟩
theorem ok55 : compF Try.prog 55 [] [] = some ir55 := by kernel_rfl

/-- (tenet/tenetref23.wide).small -/
def ir56 : FInfo := ⟨12,
 (.seq (.reg [⟨(some 1), none, .box (.agg [.bool, (.int .u64), (.int .u64)]) (.s 0)⟩, ⟨(some 2), none, .mov (.c (.t (.int .i64 0)))⟩])
 (.seq (.seq (.reg [⟨(some 3), none, .fa 0 (.s 1)⟩, ⟨(some 4), none, .ld .bool (.s 3)⟩])
 (.cond (.s 4)
 (.seq (.reg [⟨(some 5), none, .fa 2 (.s 1)⟩, ⟨(some 6), none, .ld (.int .u64) (.s 5)⟩, ⟨(some 7), none, .conv .i64 (.s 6)⟩, ⟨(some 8), none, .un .neg (.s 7)⟩, ⟨(some 2), none, .mov (.s 8)⟩])
 .ret)
 .skip))
 (.seq (.reg [⟨(some 9), none, .fa 2 (.s 1)⟩, ⟨(some 10), none, .ld (.int .u64) (.s 9)⟩, ⟨(some 11), none, .conv .i64 (.s 10)⟩, ⟨(some 2), none, .mov (.s 11)⟩])
 .ret))),
 [.slot 2]⟩
theorem ok56 : compF Try.prog 56 [] [] = some ir56 := by kernel_rfl

/-- tenet/quot.isRat -/
def ir57 : FInfo := ⟨14,
 (.seq (.reg [⟨(some 1), none, .box (.agg [(.int .i64), (.int .i64)]) (.s 0)⟩, ⟨(some 2), none, .mov (.c (.t (.bool false)))⟩])
 (.seq (.reg [⟨(some 3), none, .fa 0 (.s 1)⟩, ⟨(some 4), none, .ld (.int .i64) (.s 3)⟩, ⟨(some 5), none, .fa 1 (.s 1)⟩, ⟨(some 6), none, .ld (.int .i64) (.s 5)⟩, ⟨(some 7), none, .bsl (.int .i64) (.t (.int .i64 0)) 2 [(0, (.s 4)), (1, (.s 6))]⟩, ⟨(some 8), none, .call false 70 .bool [(.s 7)]⟩, ⟨(some 9), none, .mov (.s 8)⟩, ⟨(some 10), (some (9, true)), .fa 1 (.s 1)⟩, ⟨(some 11), (some (9, true)), .ld (.int .i64) (.s 10)⟩, ⟨(some 12), (some (9, true)), .bin .neq (.s 11) (.c (.t (.int .i64 0)))⟩, ⟨(some 13), none, .pick (.s 9) (.s 12) (.c (.t (.bool false)))⟩, ⟨(some 2), none, .mov (.s 13)⟩])
 .ret)),
 [.slot 2]⟩
theorem ok57 : compF Try.prog 57 [] [] = some ir57 := by kernel_rfl

/-- tenet/quot.reduced -/
def ir58 : FInfo := ⟨24,
 (.seq (.reg [⟨(some 1), none, .box (.agg [(.int .i64), (.int .i64)]) (.s 0)⟩, ⟨(some 2), none, .new (.agg [(.int .i64), (.int .i64)]) (.t (.agg [(.int .i64 0), (.int .i64 0)]))⟩])
 (.seq (.reg [⟨(some 7), none, .ld (.agg [(.int .i64), (.int .i64)]) (.s 1)⟩, ⟨(some 8), none, .call false 85 (.tup [(.int .i64), (.int .i64)]) [(.s 7)]⟩, ⟨(some 6), none, .mov (.s 8)⟩, ⟨(some 9), none, .ext 0 (.s 6)⟩, ⟨(some 10), none, .ext 1 (.s 6)⟩, ⟨(some 3), none, .mov (.s 9)⟩, ⟨(some 4), none, .mov (.s 10)⟩])
 (.seq (.reg [⟨(some 11), none, .mov (.s 3)⟩, ⟨(some 12), none, .call false 83 (.int .u64) [(.s 11)]⟩, ⟨(some 13), none, .mov (.s 4)⟩, ⟨(some 14), none, .call false 83 (.int .u64) [(.s 13)]⟩, ⟨(some 15), none, .call false 86 (.int .u64) [(.s 12), (.s 14)]⟩, ⟨(some 16), none, .conv .i64 (.s 15)⟩, ⟨(some 5), none, .mov (.s 16)⟩])
 (.seq (.dreg [⟨(some 17), none, .mov (.s 3)⟩, ⟨(some 18), none, .mov (.s 5)⟩, ⟨(some 19), none, .bin .quo (.s 17) (.s 18)⟩, ⟨(some 20), none, .mov (.s 4)⟩, ⟨(some 21), none, .mov (.s 5)⟩, ⟨(some 22), none, .bin .quo (.s 20) (.s 21)⟩, ⟨(some 23), none, .build [(.t (.int .i64 0)), (.t (.int .i64 0))] [(0, (.int .i64), (.s 19)), (1, (.int .i64), (.s 22))]⟩, ⟨none, none, .st (.agg [(.int .i64), (.int .i64)]) (.s 2) (.s 23)⟩] [0, 0, 3, 0, 0, 24, 63, 127])
 .ret)))),
 [.cell 2 (.agg [(.int .i64), (.int .i64)])]⟩
theorem ok58 : compF Try.prog 58 [] [] = some ir58 := by kernel_rfl

/-- tenet/tenetref23.ratOK -/
def ir59 : FInfo := ⟨26,
 (.seq (.reg [⟨(some 1), none, .box (.agg [(.int .i64), (.int .i64)]) (.s 0)⟩, ⟨(some 2), none, .mov (.c (.t (.bool false)))⟩])
 (.seq (.reg [⟨(some 3), none, .fa 1 (.s 1)⟩, ⟨(some 4), none, .ld (.int .i64) (.s 3)⟩, ⟨(some 5), none, .bin .neq (.s 4) (.c (.t (.int .i64 0)))⟩, ⟨(some 6), none, .mov (.s 5)⟩, ⟨(some 7), (some (6, true)), .fa 0 (.s 1)⟩, ⟨(some 8), (some (6, true)), .ld (.int .i64) (.s 7)⟩, ⟨(some 9), (some (6, true)), .bin .geq (.s 8) (.c (.t (.int .i64 (-1099511627776))))⟩, ⟨(some 10), none, .pick (.s 6) (.s 9) (.c (.t (.bool false)))⟩, ⟨(some 11), none, .mov (.s 10)⟩, ⟨(some 12), (some (11, true)), .fa 0 (.s 1)⟩, ⟨(some 13), (some (11, true)), .ld (.int .i64) (.s 12)⟩, ⟨(some 14), (some (11, true)), .bin .leq (.s 13) (.c (.t (.int .i64 1099511627776)))⟩, ⟨(some 15), none, .pick (.s 11) (.s 14) (.c (.t (.bool false)))⟩, ⟨(some 16), none, .mov (.s 15)⟩, ⟨(some 17), (some (16, true)), .fa 1 (.s 1)⟩, ⟨(some 18), (some (16, true)), .ld (.int .i64) (.s 17)⟩, ⟨(some 19), (some (16, true)), .bin .geq (.s 18) (.c (.t (.int .i64 (-1099511627776))))⟩, ⟨(some 20), none, .pick (.s 16) (.s 19) (.c (.t (.bool false)))⟩, ⟨(some 21), none, .mov (.s 20)⟩, ⟨(some 22), (some (21, true)), .fa 1 (.s 1)⟩, ⟨(some 23), (some (21, true)), .ld (.int .i64) (.s 22)⟩, ⟨(some 24), (some (21, true)), .bin .leq (.s 23) (.c (.t (.int .i64 1099511627776)))⟩, ⟨(some 25), none, .pick (.s 21) (.s 24) (.c (.t (.bool false)))⟩, ⟨(some 2), none, .mov (.s 25)⟩])
 .ret)),
 [.slot 2]⟩
theorem ok59 : compF Try.prog 59 [] [] = some ir59 := by kernel_rfl

/-- tenet/tenetref23.lowest -/
def ir60 : FInfo := ⟨31,
 (.seq (.reg [⟨(some 1), none, .box (.agg [(.int .i64), (.int .i64)]) (.s 0)⟩, ⟨(some 2), none, .new (.agg [(.int .i64), (.int .i64)]) (.t (.agg [(.int .i64 0), (.int .i64 0)]))⟩])
 (.seq (.seq (.reg [⟨(some 4), none, .fa 1 (.s 1)⟩, ⟨(some 5), none, .ld (.int .i64) (.s 4)⟩, ⟨(some 6), none, .bin .lss (.s 5) (.c (.t (.int .i64 0)))⟩])
 (.cond (.s 6)
 (.reg [⟨(some 7), none, .fa 0 (.s 1)⟩, ⟨(some 8), none, .ld (.int .i64) (.s 7)⟩, ⟨(some 9), none, .un .neg (.s 8)⟩, ⟨(some 10), none, .fa 1 (.s 1)⟩, ⟨(some 11), none, .ld (.int .i64) (.s 10)⟩, ⟨(some 12), none, .un .neg (.s 11)⟩, ⟨(some 13), none, .fa 0 (.s 1)⟩, ⟨none, none, .st (.int .i64) (.s 13) (.s 9)⟩, ⟨(some 14), none, .fa 1 (.s 1)⟩, ⟨none, none, .st (.int .i64) (.s 14) (.s 12)⟩])
 .skip))
 (.seq (.dreg [⟨(some 15), none, .fa 0 (.s 1)⟩, ⟨(some 16), none, .ld (.int .i64) (.s 15)⟩, ⟨(some 17), none, .call false 84 (.int .u64) [(.s 16)]⟩, ⟨(some 18), none, .conv .i64 (.s 17)⟩, ⟨(some 19), none, .fa 1 (.s 1)⟩, ⟨(some 20), none, .ld (.int .i64) (.s 19)⟩, ⟨(some 21), none, .call false 63 (.int .i64) [(.s 18), (.s 20)]⟩, ⟨(some 3), none, .mov (.s 21)⟩] [0, 1, 3, 7, 0, 16, 63, 127])
 (.seq (.dreg [⟨(some 22), none, .fa 0 (.s 1)⟩, ⟨(some 23), none, .ld (.int .i64) (.s 22)⟩, ⟨(some 24), none, .mov (.s 3)⟩, ⟨(some 25), none, .bin .quo (.s 23) (.s 24)⟩, ⟨(some 26), none, .fa 1 (.s 1)⟩, ⟨(some 27), none, .ld (.int .i64) (.s 26)⟩, ⟨(some 28), none, .mov (.s 3)⟩, ⟨(some 29), none, .bin .quo (.s 27) (.s 28)⟩, ⟨(some 30), none, .build [(.t (.int .i64 0)), (.t (.int .i64 0))] [(0, (.int .i64), (.s 25)), (1, (.int .i64), (.s 29))]⟩, ⟨none, none, .st (.agg [(.int .i64), (.int .i64)]) (.s 2) (.s 30)⟩] [0, 1, 0, 7, 0, 16, 0, 112, 255, 511])
 .ret)))),
 [.cell 2 (.agg [(.int .i64), (.int .i64)])]⟩
theorem ok60 : compF Try.prog 60 [] [] = some ir60 := by kernel_rfl

/-- tenet/quot.lowest -/
def ir61 : FInfo := ⟨55,
 (.seq (.reg [⟨(some 2), none, .box (.agg [.bool, (.int .u64), (.int .u64)]) (.s 0)⟩, ⟨(some 3), none, .box (.agg [.bool, (.int .u64), (.int .u64)]) (.s 1)⟩, ⟨(some 4), none, .new (.agg [(.int .i64), (.int .i64)]) (.t (.agg [(.int .i64 0), (.int .i64 0)]))⟩, ⟨(some 5), none, .mov (.c (.t (.int .i64 0)))⟩])
 (.seq (.seq (.reg [⟨(some 12), none, .fa 1 (.s 2)⟩, ⟨(some 13), none, .ld (.int .u64) (.s 12)⟩, ⟨(some 14), none, .fa 2 (.s 2)⟩, ⟨(some 15), none, .ld (.int .u64) (.s 14)⟩, ⟨(some 16), none, .bin .or (.s 13) (.s 15)⟩, ⟨(some 17), none, .bin .eql (.s 16) (.c (.t (.int .u64 0)))⟩])
 (.cond (.s 17)
 (.seq (.reg [⟨(some 18), none, .build [(.t (.int .i64 0)), (.t (.int .i64 0))] [(1, (.int .i64), (.c (.t (.int .i64 1))))]⟩, ⟨none, none, .st (.agg [(.int .i64), (.int .i64)]) (.s 4) (.s 18)⟩, ⟨(some 5), none, .mov (.c (.t (.int .i64 0)))⟩])
 .ret)
 .skip))
 (.seq (.dreg [⟨(some 19), none, .ld (.agg [.bool, (.int .u64), (.int .u64)]) (.s 2)⟩, ⟨(some 20), none, .ld (.agg [.bool, (.int .u64), (.int .u64)]) (.s 3)⟩, ⟨(some 6), none, .new (.agg [.bool, (.int .u64), (.int .u64)]) (.t (.agg [(.bool false), (.int .u64 0), (.int .u64 0)]))⟩, ⟨(some 7), none, .new (.agg [.bool, (.int .u64), (.int .u64)]) (.t (.agg [(.bool false), (.int .u64 0), (.int .u64 0)]))⟩, ⟨none, none, .st (.agg [.bool, (.int .u64), (.int .u64)]) (.s 6) (.s 19)⟩, ⟨none, none, .st (.agg [.bool, (.int .u64), (.int .u64)]) (.s 7) (.s 20)⟩] [0, 0, 0, 0, 13, 31])
 (.seq (.block 0 (.loop [2, 3, 4, 6, 7] (.seq (.seq (.reg [⟨(some 21), none, .fa 1 (.s 7)⟩, ⟨(some 22), none, .ld (.int .u64) (.s 21)⟩, ⟨(some 23), none, .fa 2 (.s 7)⟩, ⟨(some 24), none, .ld (.int .u64) (.s 23)⟩, ⟨(some 25), none, .bin .or (.s 22) (.s 24)⟩, ⟨(some 26), none, .bin .neq (.s 25) (.c (.t (.int .u64 0)))⟩])
 (.cond (.s 26)
 .skip
 (.exit 0)))
 (.block 1 (.dreg [⟨(some 27), none, .ld (.agg [.bool, (.int .u64), (.int .u64)]) (.s 7)⟩, ⟨(some 28), none, .ld (.agg [.bool, (.int .u64), (.int .u64)]) (.s 6)⟩, ⟨(some 29), none, .ld (.agg [.bool, (.int .u64), (.int .u64)]) (.s 7)⟩, ⟨(some 30), none, .call false 87 (.agg [.bool, (.int .u64), (.int .u64)]) [(.s 28), (.s 29)]⟩, ⟨none, none, .st (.agg [.bool, (.int .u64), (.int .u64)]) (.s 6) (.s 27)⟩, ⟨none, none, .st (.agg [.bool, (.int .u64), (.int .u64)]) (.s 7) (.s 30)⟩] [0, 0, 0, 6, 15, 31])))))
 (.seq (.reg [⟨(some 32), none, .ld (.agg [.bool, (.int .u64), (.int .u64)]) (.s 2)⟩, ⟨(some 33), none, .ld (.agg [.bool, (.int .u64), (.int .u64)]) (.s 6)⟩, ⟨(some 34), none, .call false 88 (.agg [.bool, (.int .u64), (.int .u64)]) [(.s 32), (.s 33)]⟩, ⟨(some 35), none, .call false 52 (.tup [(.int .i64), .bool]) [(.s 34)]⟩, ⟨(some 31), none, .mov (.s 35)⟩, ⟨(some 36), none, .ext 0 (.s 31)⟩, ⟨(some 37), none, .ext 1 (.s 31)⟩, ⟨(some 8), none, .mov (.s 36)⟩, ⟨(some 9), none, .mov (.s 37)⟩])
 (.seq (.reg [⟨(some 39), none, .ld (.agg [.bool, (.int .u64), (.int .u64)]) (.s 3)⟩, ⟨(some 40), none, .ld (.agg [.bool, (.int .u64), (.int .u64)]) (.s 6)⟩, ⟨(some 41), none, .call false 88 (.agg [.bool, (.int .u64), (.int .u64)]) [(.s 39), (.s 40)]⟩, ⟨(some 42), none, .call false 52 (.tup [(.int .i64), .bool]) [(.s 41)]⟩, ⟨(some 38), none, .mov (.s 42)⟩, ⟨(some 43), none, .ext 0 (.s 38)⟩, ⟨(some 44), none, .ext 1 (.s 38)⟩, ⟨(some 10), none, .mov (.s 43)⟩, ⟨(some 11), none, .mov (.s 44)⟩])
 (.seq (.seq (.reg [⟨(some 45), none, .mov (.s 9)⟩, ⟨(some 46), none, .un .not (.s 45)⟩, ⟨(some 47), none, .mov (.s 46)⟩, ⟨(some 48), (some (47, false)), .mov (.s 11)⟩, ⟨(some 49), (some (47, false)), .un .not (.s 48)⟩, ⟨(some 50), none, .pick (.s 47) (.c (.t (.bool true))) (.s 49)⟩])
 (.cond (.s 50)
 (.seq (.reg [⟨(some 51), none, .build [(.t (.int .i64 0)), (.t (.int .i64 0))] []⟩, ⟨none, none, .st (.agg [(.int .i64), (.int .i64)]) (.s 4) (.s 51)⟩, ⟨(some 5), none, .mov (.c (.t (.int .i64 2)))⟩])
 .ret)
 .skip))
 (.seq (.reg [⟨(some 52), none, .mov (.s 8)⟩, ⟨(some 53), none, .mov (.s 10)⟩, ⟨(some 54), none, .build [(.t (.int .i64 0)), (.t (.int .i64 0))] [(0, (.int .i64), (.s 52)), (1, (.int .i64), (.s 53))]⟩, ⟨none, none, .st (.agg [(.int .i64), (.int .i64)]) (.s 4) (.s 54)⟩, ⟨(some 5), none, .mov (.c (.t (.int .i64 0)))⟩])
 .ret)))))))),
 [.cell 4 (.agg [(.int .i64), (.int .i64)]), .slot 5]⟩
theorem ok61 : compF Try.prog 61 [[2, 3, 4, 6, 7]] [] = some ir61 := by kernel_rfl

/-- (tenet/quot.wide).plus -/
def ir62 : FInfo := ⟨74,
 (.seq (.reg [⟨(some 2), none, .box (.agg [.bool, (.int .u64), (.int .u64)]) (.s 0)⟩, ⟨(some 3), none, .box (.agg [.bool, (.int .u64), (.int .u64)]) (.s 1)⟩, ⟨(some 4), none, .new (.agg [.bool, (.int .u64), (.int .u64)]) (.t (.agg [(.bool false), (.int .u64 0), (.int .u64 0)]))⟩])
 (.seq (.seq (.reg [⟨(some 13), none, .fa 0 (.s 2)⟩, ⟨(some 14), none, .ld .bool (.s 13)⟩, ⟨(some 15), none, .fa 0 (.s 3)⟩, ⟨(some 16), none, .ld .bool (.s 15)⟩, ⟨(some 17), none, .eqs false .bool (.s 14) (.s 16)⟩])
 (.cond (.s 17)
 (.seq (.reg [⟨(some 19), none, .fa 2 (.s 2)⟩, ⟨(some 20), none, .ld (.int .u64) (.s 19)⟩, ⟨(some 21), none, .fa 2 (.s 3)⟩, ⟨(some 22), none, .ld (.int .u64) (.s 21)⟩, ⟨(some 23), none, .carry false (.s 20) (.s 22) (.c (.t (.int .u64 0)))⟩, ⟨(some 18), none, .mov (.s 23)⟩, ⟨(some 24), none, .ext 0 (.s 18)⟩, ⟨(some 25), none, .ext 1 (.s 18)⟩, ⟨(some 5), none, .mov (.s 24)⟩, ⟨(some 6), none, .mov (.s 25)⟩])
 (.seq (.reg [⟨(some 27), none, .fa 1 (.s 2)⟩, ⟨(some 28), none, .ld (.int .u64) (.s 27)⟩, ⟨(some 29), none, .fa 1 (.s 3)⟩, ⟨(some 30), none, .ld (.int .u64) (.s 29)⟩, ⟨(some 31), none, .mov (.s 6)⟩, ⟨(some 32), none, .carry false (.s 28) (.s 30) (.s 31)⟩, ⟨(some 26), none, .mov (.s 32)⟩, ⟨(some 33), none, .ext 0 (.s 26)⟩, ⟨(some 34), none, .ext 1 (.s 26)⟩, ⟨(some 7), none, .mov (.s 33)⟩, ⟨(some 8), none, .mov (.s 34)⟩])
 (.seq (.reg [⟨(some 35), none, .fa 0 (.s 2)⟩, ⟨(some 36), none, .ld .bool (.s 35)⟩, ⟨(some 37), none, .mov (.s 7)⟩, ⟨(some 38), none, .mov (.s 5)⟩, ⟨(some 39), none, .build [(.t (.bool false)), (.t (.int .u64 0)), (.t (.int .u64 0))] [(0, .bool, (.s 36)), (1, (.int .u64), (.s 37)), (2, (.int .u64), (.s 38))]⟩, ⟨none, none, .st (.agg [.bool, (.int .u64), (.int .u64)]) (.s 4) (.s 39)⟩])
 .ret)))
 .skip))
 (.seq (.seq (.reg [⟨(some 40), none, .ld (.agg [.bool, (.int .u64), (.int .u64)]) (.s 2)⟩, ⟨(some 41), none, .ld (.agg [.bool, (.int .u64), (.int .u64)]) (.s 3)⟩, ⟨(some 42), none, .call false 90 (.int .i64) [(.s 40), (.s 41)]⟩, ⟨(some 43), none, .bin .lss (.s 42) (.c (.t (.int .i64 0)))⟩])
 (.cond (.s 43)
 (.reg [⟨(some 44), none, .ld (.agg [.bool, (.int .u64), (.int .u64)]) (.s 3)⟩, ⟨(some 45), none, .ld (.agg [.bool, (.int .u64), (.int .u64)]) (.s 2)⟩, ⟨none, none, .st (.agg [.bool, (.int .u64), (.int .u64)]) (.s 2) (.s 44)⟩, ⟨none, none, .st (.agg [.bool, (.int .u64), (.int .u64)]) (.s 3) (.s 45)⟩])
 .skip))
 (.seq (.reg [⟨(some 47), none, .fa 2 (.s 2)⟩, ⟨(some 48), none, .ld (.int .u64) (.s 47)⟩, ⟨(some 49), none, .fa 2 (.s 3)⟩, ⟨(some 50), none, .ld (.int .u64) (.s 49)⟩, ⟨(some 51), none, .carry true (.s 48) (.s 50) (.c (.t (.int .u64 0)))⟩, ⟨(some 46), none, .mov (.s 51)⟩, ⟨(some 52), none, .ext 0 (.s 46)⟩, ⟨(some 53), none, .ext 1 (.s 46)⟩, ⟨(some 9), none, .mov (.s 52)⟩, ⟨(some 10), none, .mov (.s 53)⟩])
 (.seq (.reg [⟨(some 55), none, .fa 1 (.s 2)⟩, ⟨(some 56), none, .ld (.int .u64) (.s 55)⟩, ⟨(some 57), none, .fa 1 (.s 3)⟩, ⟨(some 58), none, .ld (.int .u64) (.s 57)⟩, ⟨(some 59), none, .mov (.s 10)⟩, ⟨(some 60), none, .carry true (.s 56) (.s 58) (.s 59)⟩, ⟨(some 54), none, .mov (.s 60)⟩, ⟨(some 61), none, .ext 0 (.s 54)⟩, ⟨(some 62), none, .ext 1 (.s 54)⟩, ⟨(some 11), none, .mov (.s 61)⟩, ⟨(some 12), none, .mov (.s 62)⟩])
 (.seq (.reg [⟨(some 63), none, .fa 0 (.s 2)⟩, ⟨(some 64), none, .ld .bool (.s 63)⟩, ⟨(some 65), none, .mov (.s 64)⟩, ⟨(some 66), (some (65, true)), .mov (.s 11)⟩, ⟨(some 67), (some (65, true)), .mov (.s 9)⟩, ⟨(some 68), (some (65, true)), .bin .or (.s 66) (.s 67)⟩, ⟨(some 69), (some (65, true)), .bin .neq (.s 68) (.c (.t (.int .u64 0)))⟩, ⟨(some 70), none, .pick (.s 65) (.s 69) (.c (.t (.bool false)))⟩, ⟨(some 71), none, .mov (.s 11)⟩, ⟨(some 72), none, .mov (.s 9)⟩, ⟨(some 73), none, .build [(.t (.bool false)), (.t (.int .u64 0)), (.t (.int .u64 0))] [(0, .bool, (.s 70)), (1, (.int .u64), (.s 71)), (2, (.int .u64), (.s 72))]⟩, ⟨none, none, .st (.agg [.bool, (.int .u64), (.int .u64)]) (.s 4) (.s 73)⟩])
 .ret)))))),
 [.cell 4 (.agg [.bool, (.int .u64), (.int .u64)])]⟩
theorem ok62 : compF Try.prog 62 [] [] = some ir62 := by kernel_rfl

/-- tenet/tenetref23.gcd -/
def ir63 : FInfo := ⟨12,
 (.seq (.reg [⟨(some 4), none, .mov (.c (.t (.int .i64 0)))⟩])
 (.seq (.block 0 (.loop [0, 1] (.seq (.seq (.reg [⟨(some 5), none, .mov (.s 1)⟩, ⟨(some 6), none, .bin .neq (.s 5) (.c (.t (.int .i64 0)))⟩])
 (.cond (.s 6)
 .skip
 (.exit 0)))
 (.block 1 (.dreg [⟨(some 7), none, .mov (.s 1)⟩, ⟨(some 8), none, .mov (.s 0)⟩, ⟨(some 9), none, .mov (.s 1)⟩, ⟨(some 10), none, .bin .rem (.s 8) (.s 9)⟩, ⟨(some 0), none, .mov (.s 7)⟩, ⟨(some 1), none, .mov (.s 10)⟩] [0, 0, 0, 6, 3, 31])))))
 (.seq (.reg [⟨(some 11), none, .mov (.s 0)⟩, ⟨(some 4), none, .mov (.s 11)⟩])
 .ret))),
 [.slot 4]⟩
theorem ok63 : compF Try.prog 63 [[0, 1]] [] = some ir63 := by kernel_rfl

/-- (tenet/tenetref23.wide).plus -/
def ir64 : FInfo := ⟨76,
 (.seq (.reg [⟨(some 2), none, .box (.agg [.bool, (.int .u64), (.int .u64)]) (.s 0)⟩, ⟨(some 3), none, .box (.agg [.bool, (.int .u64), (.int .u64)]) (.s 1)⟩, ⟨(some 4), none, .new (.agg [.bool, (.int .u64), (.int .u64)]) (.t (.agg [(.bool false), (.int .u64 0), (.int .u64 0)]))⟩])
 (.seq (.seq (.reg [⟨(some 13), none, .fa 0 (.s 2)⟩, ⟨(some 14), none, .ld .bool (.s 13)⟩, ⟨(some 15), none, .fa 0 (.s 3)⟩, ⟨(some 16), none, .ld .bool (.s 15)⟩, ⟨(some 17), none, .eqs false .bool (.s 14) (.s 16)⟩])
 (.cond (.s 17)
 (.seq (.reg [⟨(some 19), none, .fa 2 (.s 2)⟩, ⟨(some 20), none, .ld (.int .u64) (.s 19)⟩, ⟨(some 21), none, .fa 2 (.s 3)⟩, ⟨(some 22), none, .ld (.int .u64) (.s 21)⟩, ⟨(some 23), none, .carry false (.s 20) (.s 22) (.c (.t (.int .u64 0)))⟩, ⟨(some 18), none, .mov (.s 23)⟩, ⟨(some 24), none, .ext 0 (.s 18)⟩, ⟨(some 25), none, .ext 1 (.s 18)⟩, ⟨(some 5), none, .mov (.s 24)⟩, ⟨(some 6), none, .mov (.s 25)⟩])
 (.seq (.reg [⟨(some 27), none, .fa 1 (.s 2)⟩, ⟨(some 28), none, .ld (.int .u64) (.s 27)⟩, ⟨(some 29), none, .fa 1 (.s 3)⟩, ⟨(some 30), none, .ld (.int .u64) (.s 29)⟩, ⟨(some 31), none, .mov (.s 6)⟩, ⟨(some 32), none, .carry false (.s 28) (.s 30) (.s 31)⟩, ⟨(some 26), none, .mov (.s 32)⟩, ⟨(some 33), none, .ext 0 (.s 26)⟩, ⟨(some 34), none, .ext 1 (.s 26)⟩, ⟨(some 7), none, .mov (.s 33)⟩, ⟨(some 8), none, .mov (.s 34)⟩])
 (.seq (.reg [⟨(some 35), none, .fa 0 (.s 2)⟩, ⟨(some 36), none, .ld .bool (.s 35)⟩, ⟨(some 37), none, .mov (.s 7)⟩, ⟨(some 38), none, .mov (.s 5)⟩, ⟨(some 39), none, .build [(.t (.bool false)), (.t (.int .u64 0)), (.t (.int .u64 0))] [(0, .bool, (.s 36)), (1, (.int .u64), (.s 37)), (2, (.int .u64), (.s 38))]⟩, ⟨none, none, .st (.agg [.bool, (.int .u64), (.int .u64)]) (.s 4) (.s 39)⟩])
 .ret)))
 .skip))
 (.seq (.seq (.reg [⟨(some 40), none, .ld (.agg [.bool, (.int .u64), (.int .u64)]) (.s 2)⟩, ⟨(some 41), none, .ld (.agg [.bool, (.int .u64), (.int .u64)]) (.s 3)⟩, ⟨(some 42), none, .call false 92 (.int .i64) [(.s 40), (.s 41)]⟩, ⟨(some 43), none, .bin .lss (.s 42) (.c (.t (.int .i64 0)))⟩])
 (.cond (.s 43)
 (.reg [⟨(some 44), none, .ld (.agg [.bool, (.int .u64), (.int .u64)]) (.s 3)⟩, ⟨(some 45), none, .ld (.agg [.bool, (.int .u64), (.int .u64)]) (.s 2)⟩, ⟨none, none, .st (.agg [.bool, (.int .u64), (.int .u64)]) (.s 2) (.s 44)⟩, ⟨none, none, .st (.agg [.bool, (.int .u64), (.int .u64)]) (.s 3) (.s 45)⟩])
 .skip))
 (.seq (.reg [⟨(some 47), none, .fa 2 (.s 2)⟩, ⟨(some 48), none, .ld (.int .u64) (.s 47)⟩, ⟨(some 49), none, .fa 2 (.s 3)⟩, ⟨(some 50), none, .ld (.int .u64) (.s 49)⟩, ⟨(some 51), none, .carry true (.s 48) (.s 50) (.c (.t (.int .u64 0)))⟩, ⟨(some 46), none, .mov (.s 51)⟩, ⟨(some 52), none, .ext 0 (.s 46)⟩, ⟨(some 53), none, .ext 1 (.s 46)⟩, ⟨(some 9), none, .mov (.s 52)⟩, ⟨(some 10), none, .mov (.s 53)⟩])
 (.seq (.reg [⟨(some 55), none, .fa 1 (.s 2)⟩, ⟨(some 56), none, .ld (.int .u64) (.s 55)⟩, ⟨(some 57), none, .fa 1 (.s 3)⟩, ⟨(some 58), none, .ld (.int .u64) (.s 57)⟩, ⟨(some 59), none, .mov (.s 10)⟩, ⟨(some 60), none, .carry true (.s 56) (.s 58) (.s 59)⟩, ⟨(some 54), none, .mov (.s 60)⟩, ⟨(some 61), none, .ext 0 (.s 54)⟩, ⟨(some 62), none, .ext 1 (.s 54)⟩, ⟨(some 11), none, .mov (.s 61)⟩, ⟨(some 12), none, .mov (.s 62)⟩])
 (.seq (.reg [⟨(some 63), none, .fa 0 (.s 2)⟩, ⟨(some 64), none, .ld .bool (.s 63)⟩, ⟨(some 65), none, .mov (.s 64)⟩, ⟨(some 66), (some (65, true)), .mov (.s 11)⟩, ⟨(some 67), (some (65, true)), .bin .neq (.s 66) (.c (.t (.int .u64 0)))⟩, ⟨(some 68), (some (65, true)), .mov (.s 67)⟩, ⟨(some 69), (some (68, false)), .mov (.s 9)⟩, ⟨(some 70), (some (68, false)), .bin .neq (.s 69) (.c (.t (.int .u64 0)))⟩, ⟨(some 71), (some (65, true)), .pick (.s 68) (.c (.t (.bool true))) (.s 70)⟩, ⟨(some 72), none, .pick (.s 65) (.s 71) (.c (.t (.bool false)))⟩, ⟨(some 73), none, .mov (.s 11)⟩, ⟨(some 74), none, .mov (.s 9)⟩, ⟨(some 75), none, .build [(.t (.bool false)), (.t (.int .u64 0)), (.t (.int .u64 0))] [(0, .bool, (.s 72)), (1, (.int .u64), (.s 73)), (2, (.int .u64), (.s 74))]⟩, ⟨none, none, .st (.agg [.bool, (.int .u64), (.int .u64)]) (.s 4) (.s 75)⟩])
 .ret)))))),
 [.cell 4 (.agg [.bool, (.int .u64), (.int .u64)])]⟩
theorem ok64 : compF Try.prog 64 [] [] = some ir64 := by kernel_rfl

/-- tenet/tenetref23.ratio -/
def ir65 : FInfo := ⟨74,
 (.seq (.reg [⟨(some 4), none, .box (.agg [.bool, (.int .u64), (.int .u64)]) (.s 0)⟩, ⟨(some 8), none, .new (.agg [(.int .i64), (.int .i64)]) (.t (.agg [(.int .i64 0), (.int .i64 0)]))⟩, ⟨(some 9), none, .mov (.c (.t (.int .i64 0)))⟩])
 (.seq (.reg [⟨(some 15), none, .ld (.agg [.bool, (.int .u64), (.int .u64)]) (.s 4)⟩, ⟨(some 16), none, .mov (.s 1)⟩, ⟨(some 17), none, .conv .u64 (.s 16)⟩, ⟨(some 18), none, .call false 93 (.tup [(.agg [.bool, (.int .u64), (.int .u64)]), (.int .u64)]) [(.s 15), (.s 17)]⟩, ⟨(some 14), none, .mov (.s 18)⟩, ⟨(some 19), none, .ext 0 (.s 14)⟩, ⟨(some 20), none, .ext 1 (.s 14)⟩, ⟨(some 10), none, .new (.agg [.bool, (.int .u64), (.int .u64)]) (.t (.agg [(.bool false), (.int .u64 0), (.int .u64 0)]))⟩, ⟨none, none, .st (.agg [.bool, (.int .u64), (.int .u64)]) (.s 10) (.s 19)⟩, ⟨(some 11), none, .mov (.s 20)⟩])
 (.seq (.reg [⟨(some 21), none, .mov (.s 11)⟩, ⟨(some 22), none, .conv .i64 (.s 21)⟩, ⟨(some 23), none, .mov (.s 1)⟩, ⟨(some 24), none, .call false 63 (.int .i64) [(.s 22), (.s 23)]⟩, ⟨(some 12), none, .mov (.s 24)⟩])
 (.seq (.reg [⟨(some 26), none, .ld (.agg [.bool, (.int .u64), (.int .u64)]) (.s 4)⟩, ⟨(some 27), none, .mov (.s 12)⟩, ⟨(some 28), none, .conv .u64 (.s 27)⟩, ⟨(some 29), none, .call false 93 (.tup [(.agg [.bool, (.int .u64), (.int .u64)]), (.int .u64)]) [(.s 26), (.s 28)]⟩, ⟨(some 25), none, .mov (.s 29)⟩, ⟨(some 30), none, .ext 0 (.s 25)⟩, ⟨(some 31), none, .ext 1 (.s 25)⟩, ⟨none, none, .st (.agg [.bool, (.int .u64), (.int .u64)]) (.s 4) (.s 30)⟩])
 (.seq (.reg [⟨(some 32), none, .mov (.s 1)⟩, ⟨(some 33), none, .mov (.s 12)⟩, ⟨(some 34), none, .bin .quo (.s 32) (.s 33)⟩, ⟨(some 35), none, .mov (.s 2)⟩, ⟨(some 36), none, .call false 55 (.agg [.bool, (.int .u64), (.int .u64)]) [(.s 34), (.s 35)]⟩, ⟨(some 13), none, .new (.agg [.bool, (.int .u64), (.int .u64)]) (.t (.agg [(.bool false), (.int .u64 0), (.int .u64 0)]))⟩, ⟨none, none, .st (.agg [.bool, (.int .u64), (.int .u64)]) (.s 13) (.s 36)⟩])
 (.seq (.seq (.reg [⟨(some 37), none, .fa 1 (.s 13)⟩, ⟨(some 38), none, .ld (.int .u64) (.s 37)⟩, ⟨(some 39), none, .bin .neq (.s 38) (.c (.t (.int .u64 0)))⟩, ⟨(some 40), none, .mov (.s 39)⟩, ⟨(some 41), (some (40, false)), .fa 2 (.s 13)⟩, ⟨(some 42), (some (40, false)), .ld (.int .u64) (.s 41)⟩, ⟨(some 43), (some (40, false)), .bin .gtr (.s 42) (.c (.t (.int .u64 1099511627776)))⟩, ⟨(some 44), none, .pick (.s 40) (.c (.t (.bool true))) (.s 43)⟩])
 (.cond (.s 44)
 (.seq (.reg [⟨(some 45), none, .build [(.t (.int .i64 0)), (.t (.int .i64 0))] []⟩, ⟨none, none, .st (.agg [(.int .i64), (.int .i64)]) (.s 8) (.s 45)⟩, ⟨(some 9), none, .mov (.c (.t (.int .i64 2)))⟩])
 .ret)
 .skip))
 (.seq (.reg [⟨(some 46), none, .ld (.agg [.bool, (.int .u64), (.int .u64)]) (.s 13)⟩, ⟨(some 47), none, .call false 56 (.int .i64) [(.s 46)]⟩, ⟨(some 48), none, .mov (.s 3)⟩, ⟨(some 49), none, .call false 55 (.agg [.bool, (.int .u64), (.int .u64)]) [(.s 47), (.s 48)]⟩, ⟨none, none, .st (.agg [.bool, (.int .u64), (.int .u64)]) (.s 13) (.s 49)⟩])
 (.seq (.seq (.reg [⟨(some 50), none, .fa 1 (.s 13)⟩, ⟨(some 51), none, .ld (.int .u64) (.s 50)⟩, ⟨(some 52), none, .bin .neq (.s 51) (.c (.t (.int .u64 0)))⟩, ⟨(some 53), none, .mov (.s 52)⟩, ⟨(some 54), (some (53, false)), .fa 2 (.s 13)⟩, ⟨(some 55), (some (53, false)), .ld (.int .u64) (.s 54)⟩, ⟨(some 56), (some (53, false)), .bin .gtr (.s 55) (.c (.t (.int .u64 1099511627776)))⟩, ⟨(some 57), none, .pick (.s 53) (.c (.t (.bool true))) (.s 56)⟩, ⟨(some 58), none, .mov (.s 57)⟩, ⟨(some 59), (some (58, false)), .fa 1 (.s 4)⟩, ⟨(some 60), (some (58, false)), .ld (.int .u64) (.s 59)⟩, ⟨(some 61), (some (58, false)), .bin .neq (.s 60) (.c (.t (.int .u64 0)))⟩, ⟨(some 62), none, .pick (.s 58) (.c (.t (.bool true))) (.s 61)⟩, ⟨(some 63), none, .mov (.s 62)⟩, ⟨(some 64), (some (63, false)), .fa 2 (.s 4)⟩, ⟨(some 65), (some (63, false)), .ld (.int .u64) (.s 64)⟩, ⟨(some 66), (some (63, false)), .bin .gtr (.s 65) (.c (.t (.int .u64 1099511627776)))⟩, ⟨(some 67), none, .pick (.s 63) (.c (.t (.bool true))) (.s 66)⟩])
 (.cond (.s 67)
 (.seq (.reg [⟨(some 68), none, .build [(.t (.int .i64 0)), (.t (.int .i64 0))] []⟩, ⟨none, none, .st (.agg [(.int .i64), (.int .i64)]) (.s 8) (.s 68)⟩, ⟨(some 9), none, .mov (.c (.t (.int .i64 2)))⟩])
 .ret)
 .skip))
 (.seq (.dreg [⟨(some 69), none, .ld (.agg [.bool, (.int .u64), (.int .u64)]) (.s 4)⟩, ⟨(some 70), none, .call false 56 (.int .i64) [(.s 69)]⟩, ⟨(some 71), none, .ld (.agg [.bool, (.int .u64), (.int .u64)]) (.s 13)⟩, ⟨(some 72), none, .call false 56 (.int .i64) [(.s 71)]⟩, ⟨(some 73), none, .build [(.t (.int .i64 0)), (.t (.int .i64 0))] [(0, (.int .i64), (.s 70)), (1, (.int .i64), (.s 72))]⟩, ⟨none, none, .st (.agg [(.int .i64), (.int .i64)]) (.s 8) (.s 73)⟩, ⟨(some 9), none, .mov (.c (.t (.int .i64 0)))⟩] [0, 1, 0, 7, 15, 31, 63])
 .ret))))))))),
 [.cell 8 (.agg [(.int .i64), (.int .i64)]), .slot 9]⟩
theorem ok65 : compF Try.prog 65 [] [] = some ir65 := by kernel_rfl

/-- tenet/quot.isList -/
def ir66 : FInfo := ⟨10,
 (.seq (.reg [⟨(some 2), none, .mov (.c (.t (.bool false)))⟩])
 (.seq (.reg [⟨(some 3), none, .mov (.s 0)⟩, ⟨(some 4), none, .len (.s 3)⟩, ⟨(some 5), none, .bin .leq (.s 4) (.c (.t (.int .i64 60)))⟩, ⟨(some 6), none, .mov (.s 5)⟩, ⟨(some 7), (some (6, true)), .mov (.s 0)⟩, ⟨(some 8), (some (6, true)), .call false 70 .bool [(.s 7)]⟩, ⟨(some 9), none, .pick (.s 6) (.s 8) (.c (.t (.bool false)))⟩, ⟨(some 2), none, .mov (.s 9)⟩])
 .ret)),
 [.slot 2]⟩
theorem ok66 : compF Try.prog 66 [] [] = some ir66 := by kernel_rfl

/-- tenet/quot.told -/
def ir67 : FInfo := ⟨8,
 (.seq (.reg [⟨(some 2), none, .mov (.c .nilS)⟩, ⟨(some 3), none, .mov (.c (.t (.int .i64 0)))⟩])
 (.seq (.seq (.reg [⟨(some 4), none, .mov (.s 0)⟩, ⟨(some 5), none, .len (.s 4)⟩, ⟨(some 6), none, .bin .gtr (.s 5) (.c (.t (.int .i64 60)))⟩])
 (.cond (.s 6)
 (.seq (.reg [⟨(some 2), none, .mov (.c .nilS)⟩, ⟨(some 3), none, .mov (.c (.t (.int .i64 2)))⟩])
 .ret)
 .skip))
 (.seq (.reg [⟨(some 7), none, .mov (.s 0)⟩, ⟨(some 2), none, .mov (.s 7)⟩, ⟨(some 3), none, .mov (.c (.t (.int .i64 0)))⟩])
 .ret))),
 [.slot 2, .slot 3]⟩
theorem ok67 : compF Try.prog 67 [] [] = some ir67 := by kernel_rfl

/-- tenet/quot.whole -/
def ir70 : FInfo := ⟨6,
 (.seq (.reg [⟨(some 2), none, .mov (.c (.t (.bool false)))⟩])
 (.seq (.reg [⟨(some 3), none, .mov (.s 0)⟩, ⟨(some 4), none, .call false 80 .bool [(.s 3), (.f 97)]⟩, ⟨(some 5), none, .un .not (.s 4)⟩, ⟨(some 2), none, .mov (.s 5)⟩])
 .ret)),
 [.slot 2]⟩
theorem ok70 : compF Try.prog 70 [] [] = some ir70 := by kernel_rfl

/-- (tenet/quot.bag[int]).count -/
def ir71 : FInfo := ⟨21,
 (.seq (.reg [⟨(some 4), none, .mov (.c (.t (.int .i64 0)))⟩])
 (.seq (.reg [⟨(some 5), none, .mov (.c (.t (.int .i64 0)))⟩])
 (.seq (.seq (.reg [⟨(some 8), none, .mov (.s 0)⟩, ⟨(some 9), none, .len (.s 8)⟩, ⟨(some 10), none, .mov (.c (.t (.int .i64 0)))⟩])
 (.block 0 (.loop [1, 5, 8, 9, 10] (.seq (.reg [⟨(some 11), none, .bin .lss (.s 10) (.s 9)⟩])
 (.seq (.cond (.s 11)
 .skip
 (.exit 0))
 (.seq (.block 1 (.seq (.reg [⟨(some 12), none, .ia (.int .i64) (.s 8) (.s 10)⟩, ⟨(some 13), none, .ld (.int .i64) (.s 12)⟩, ⟨(some 7), none, .mov (.s 13)⟩])
 (.seq (.reg [⟨(some 14), none, .mov (.s 1)⟩, ⟨(some 15), none, .mov (.s 7)⟩, ⟨(some 16), none, .bin .eql (.s 14) (.s 15)⟩])
 (.cond (.s 16)
 (.reg [⟨(some 17), none, .mov (.s 5)⟩, ⟨(some 18), none, .bin .add (.s 17) (.c (.t (.int .i64 1)))⟩, ⟨(some 5), none, .mov (.s 18)⟩])
 .skip))))
 (.reg [⟨(some 19), none, .bin .add (.s 10) (.c (.t (.int .i64 1)))⟩, ⟨(some 10), none, .mov (.s 19)⟩])))))))
 (.seq (.reg [⟨(some 20), none, .mov (.s 5)⟩, ⟨(some 4), none, .mov (.s 20)⟩])
 .ret)))),
 [.slot 4]⟩
theorem ok71 : compF Try.prog 71 [[1, 5, 8, 9, 10]] [] = some ir71 := by kernel_rfl

/-- tenet/quot.SetMeet$1 -/
def ir74 : FInfo := ⟨8,
 (.seq (.reg [⟨(some 3), none, .mov (.c (.t (.bool false)))⟩])
 (.seq (.reg [⟨(some 4), none, .ld .slc (.s 1)⟩, ⟨(some 5), none, .mov (.s 0)⟩, ⟨(some 6), none, .call false 75 .bool [(.s 4), (.s 5)]⟩, ⟨(some 7), none, .un .not (.s 6)⟩, ⟨(some 3), none, .mov (.s 7)⟩])
 .ret)),
 [.slot 3]⟩
theorem ok74 : compF Try.prog 74 [] [] = some ir74 := by kernel_rfl

/-- slices.Contains[[]int,int] -/
def ir75 : FInfo := ⟨9,
 (.seq (.reg [⟨(some 4), none, .mov (.c (.t (.bool false)))⟩])
 (.seq (.reg [⟨(some 5), none, .mov (.s 0)⟩, ⟨(some 6), none, .mov (.s 1)⟩, ⟨(some 7), none, .call false 100 (.int .i64) [(.s 5), (.s 6)]⟩, ⟨(some 8), none, .bin .geq (.s 7) (.c (.t (.int .i64 0)))⟩, ⟨(some 4), none, .mov (.s 8)⟩])
 .ret)),
 [.slot 4]⟩
theorem ok75 : compF Try.prog 75 [] [] = some ir75 := by kernel_rfl

/-- tenet/tenetref23.made -/
def ir76 : FInfo := ⟨44,
 (.seq (.reg [⟨(some 4), none, .mov (.c .nilS)⟩, ⟨(some 5), none, .mov (.c (.t (.int .i64 0)))⟩])
 (.seq (.reg [⟨(some 6), none, .mov (.c .nilS)⟩])
 (.seq (.seq (.reg [⟨(some 7), none, .mov (.c (.t (.int .i64 0)))⟩])
 (.block 0 (.loop [0, 1, 6, 7] (.seq (.seq (.reg [⟨(some 9), none, .mov (.s 7)⟩, ⟨(some 10), none, .mov (.s 1)⟩, ⟨(some 11), none, .len (.s 10)⟩, ⟨(some 12), none, .bin .lss (.s 9) (.s 11)⟩])
 (.cond (.s 12)
 .skip
 (.exit 0)))
 (.seq (.block 1 (.seq (.seq (.reg [⟨(some 15), none, .mov (.s 1)⟩, ⟨(some 16), none, .mov (.s 7)⟩, ⟨(some 17), none, .ia .slc (.s 15) (.s 16)⟩, ⟨(some 18), none, .ld .slc (.s 17)⟩, ⟨(some 19), none, .call false 77 .bool [(.s 18)]⟩, ⟨(some 20), none, .un .not (.s 19)⟩])
 (.cond (.s 20)
 (.seq (.reg [⟨(some 4), none, .mov (.c .nilS)⟩, ⟨(some 5), none, .mov (.c (.t (.int .i64 4)))⟩])
 .ret)
 .skip))
 (.seq (.reg [⟨(some 8), none, .mov (.c (.t (.int .i64 0)))⟩])
 (.block 2 (.loop [0, 1, 6, 7, 8] (.seq (.seq (.reg [⟨(some 21), none, .mov (.s 8)⟩, ⟨(some 22), none, .mov (.s 1)⟩, ⟨(some 23), none, .mov (.s 7)⟩, ⟨(some 24), none, .ia .slc (.s 22) (.s 23)⟩, ⟨(some 25), none, .ld .slc (.s 24)⟩, ⟨(some 26), none, .len (.s 25)⟩, ⟨(some 27), none, .bin .lss (.s 21) (.s 26)⟩])
 (.cond (.s 27)
 .skip
 (.exit 2)))
 (.seq (.block 3 (.reg [⟨(some 30), none, .mov (.s 6)⟩, ⟨(some 31), none, .mov (.s 1)⟩, ⟨(some 32), none, .mov (.s 7)⟩, ⟨(some 33), none, .ia .slc (.s 31) (.s 32)⟩, ⟨(some 34), none, .ld .slc (.s 33)⟩, ⟨(some 35), none, .mov (.s 8)⟩, ⟨(some 36), none, .ia (.int .i64) (.s 34) (.s 35)⟩, ⟨(some 37), none, .ld (.int .i64) (.s 36)⟩, ⟨(some 38), none, .mov (.s 0)⟩, ⟨(some 39), none, .call false 79 .slc [(.s 30), (.s 37), (.s 38)]⟩, ⟨(some 6), none, .mov (.s 39)⟩]))
 (.reg [⟨(some 28), none, .mov (.s 8)⟩, ⟨(some 29), none, .bin .add (.s 28) (.c (.t (.int .i64 1)))⟩, ⟨(some 8), none, .mov (.s 29)⟩]))))))))
 (.reg [⟨(some 13), none, .mov (.s 7)⟩, ⟨(some 14), none, .bin .add (.s 13) (.c (.t (.int .i64 1)))⟩, ⟨(some 7), none, .mov (.s 14)⟩]))))))
 (.seq (.seq (.reg [⟨(some 40), none, .mov (.s 6)⟩, ⟨(some 41), none, .len (.s 40)⟩, ⟨(some 42), none, .bin .gtr (.s 41) (.c (.t (.int .i64 60)))⟩])
 (.cond (.s 42)
 (.seq (.reg [⟨(some 4), none, .mov (.c .nilS)⟩, ⟨(some 5), none, .mov (.c (.t (.int .i64 2)))⟩])
 .ret)
 .skip))
 (.seq (.reg [⟨(some 43), none, .mov (.s 6)⟩, ⟨(some 4), none, .mov (.s 43)⟩, ⟨(some 5), none, .mov (.c (.t (.int .i64 0)))⟩])
 .ret))))),
 [.slot 4, .slot 5]⟩
theorem ok76 : compF Try.prog 76 [[0, 1, 6, 7], [0, 1, 6, 7, 8]] [] = some ir76 := by kernel_rfl

/-- tenet/tenetref23.listOK -/
def ir77 : FInfo := ⟨25,
 (.seq (.reg [⟨(some 2), none, .mov (.c (.t (.bool false)))⟩])
 (.seq (.seq (.reg [⟨(some 4), none, .mov (.s 0)⟩, ⟨(some 5), none, .len (.s 4)⟩, ⟨(some 6), none, .bin .gtr (.s 5) (.c (.t (.int .i64 60)))⟩])
 (.cond (.s 6)
 (.seq (.reg [⟨(some 2), none, .mov (.c (.t (.bool false)))⟩])
 .ret)
 .skip))
 (.seq (.seq (.reg [⟨(some 3), none, .mov (.c (.t (.int .i64 0)))⟩])
 (.block 0 (.loop [0, 3] (.seq (.seq (.reg [⟨(some 7), none, .mov (.s 3)⟩, ⟨(some 8), none, .mov (.s 0)⟩, ⟨(some 9), none, .len (.s 8)⟩, ⟨(some 10), none, .bin .lss (.s 7) (.s 9)⟩])
 (.cond (.s 10)
 .skip
 (.exit 0)))
 (.seq (.block 1 (.seq (.reg [⟨(some 13), none, .mov (.s 0)⟩, ⟨(some 14), none, .mov (.s 3)⟩, ⟨(some 15), none, .ia (.int .i64) (.s 13) (.s 14)⟩, ⟨(some 16), none, .ld (.int .i64) (.s 15)⟩, ⟨(some 17), none, .bin .lss (.s 16) (.c (.t (.int .i64 (-1099511627776))))⟩, ⟨(some 18), none, .mov (.s 17)⟩, ⟨(some 19), (some (18, false)), .mov (.s 0)⟩, ⟨(some 20), (some (18, false)), .mov (.s 3)⟩, ⟨(some 21), (some (18, false)), .ia (.int .i64) (.s 19) (.s 20)⟩, ⟨(some 22), (some (18, false)), .ld (.int .i64) (.s 21)⟩, ⟨(some 23), (some (18, false)), .bin .gtr (.s 22) (.c (.t (.int .i64 1099511627776)))⟩, ⟨(some 24), none, .pick (.s 18) (.c (.t (.bool true))) (.s 23)⟩])
 (.cond (.s 24)
 (.seq (.reg [⟨(some 2), none, .mov (.c (.t (.bool false)))⟩])
 .ret)
 .skip)))
 (.reg [⟨(some 11), none, .mov (.s 3)⟩, ⟨(some 12), none, .bin .add (.s 11) (.c (.t (.int .i64 1)))⟩, ⟨(some 3), none, .mov (.s 12)⟩]))))))
 (.seq (.reg [⟨(some 2), none, .mov (.c (.t (.bool true)))⟩])
 .ret)))),
 [.slot 2]⟩
theorem ok77 : compF Try.prog 77 [[0, 3]] [] = some ir77 := by kernel_rfl

/-- tenet/tenetref00.HasInt -/
def ir78 : FInfo := ⟨19,
 (.seq (.reg [⟨(some 4), none, .mov (.c (.t (.int .i64 0)))⟩])
 (.seq (.seq (.reg [⟨(some 5), none, .mov (.c (.t (.int .i64 0)))⟩])
 (.block 0 (.loop [0, 1, 5] (.seq (.seq (.reg [⟨(some 6), none, .mov (.s 5)⟩, ⟨(some 7), none, .mov (.s 0)⟩, ⟨(some 8), none, .len (.s 7)⟩, ⟨(some 9), none, .bin .lss (.s 6) (.s 8)⟩])
 (.cond (.s 9)
 .skip
 (.exit 0)))
 (.seq (.block 1 (.seq (.reg [⟨(some 12), none, .mov (.s 0)⟩, ⟨(some 13), none, .mov (.s 5)⟩, ⟨(some 14), none, .ia (.int .i64) (.s 12) (.s 13)⟩, ⟨(some 15), none, .ld (.int .i64) (.s 14)⟩, ⟨(some 16), none, .mov (.s 1)⟩, ⟨(some 17), none, .bin .eql (.s 15) (.s 16)⟩])
 (.cond (.s 17)
 (.seq (.reg [⟨(some 18), none, .mov (.s 5)⟩, ⟨(some 4), none, .mov (.s 18)⟩])
 .ret)
 .skip)))
 (.reg [⟨(some 10), none, .mov (.s 5)⟩, ⟨(some 11), none, .bin .add (.s 10) (.c (.t (.int .i64 1)))⟩, ⟨(some 5), none, .mov (.s 11)⟩]))))))
 (.seq (.reg [⟨(some 4), none, .mov (.c (.t (.int .i64 (-1))))⟩])
 .ret))),
 [.slot 4]⟩
theorem ok78 : compF Try.prog 78 [[0, 1, 5]] [] = some ir78 := by kernel_rfl

/-- tenet/tenetref23.put -/
def ir79 : FInfo := ⟨54,
 (.seq (.reg [⟨(some 6), none, .mov (.c .nilS)⟩])
 (.seq (.reg [⟨(some 7), none, .mov (.c .nilS)⟩])
 (.seq (.reg [⟨(some 8), none, .mov (.c (.t (.bool false)))⟩])
 (.seq (.seq (.reg [⟨(some 9), none, .mov (.c (.t (.int .i64 0)))⟩])
 (.block 0 (.loop [0, 1, 2, 7, 8, 9] (.seq (.seq (.reg [⟨(some 10), none, .mov (.s 9)⟩, ⟨(some 11), none, .mov (.s 0)⟩, ⟨(some 12), none, .len (.s 11)⟩, ⟨(some 13), none, .bin .lss (.s 10) (.s 12)⟩])
 (.cond (.s 13)
 .skip
 (.exit 0)))
 (.seq (.block 1 (.seq (.seq (.reg [⟨(some 16), none, .mov (.s 8)⟩, ⟨(some 17), none, .un .not (.s 16)⟩, ⟨(some 18), none, .mov (.s 17)⟩, ⟨(some 19), (some (18, true)), .mov (.s 1)⟩, ⟨(some 20), (some (18, true)), .mov (.s 0)⟩, ⟨(some 21), (some (18, true)), .mov (.s 9)⟩, ⟨(some 22), (some (18, true)), .ia (.int .i64) (.s 20) (.s 21)⟩, ⟨(some 23), (some (18, true)), .ld (.int .i64) (.s 22)⟩, ⟨(some 24), (some (18, true)), .bin .leq (.s 19) (.s 23)⟩, ⟨(some 25), none, .pick (.s 18) (.s 24) (.c (.t (.bool false)))⟩])
 (.cond (.s 25)
 (.seq (.reg [⟨(some 8), none, .mov (.c (.t (.bool true)))⟩])
 (.seq (.reg [⟨(some 26), none, .mov (.s 2)⟩, ⟨(some 27), none, .mov (.s 26)⟩, ⟨(some 28), (some (27, true)), .mov (.s 1)⟩, ⟨(some 29), (some (27, true)), .mov (.s 0)⟩, ⟨(some 30), (some (27, true)), .mov (.s 9)⟩, ⟨(some 31), (some (27, true)), .ia (.int .i64) (.s 29) (.s 30)⟩, ⟨(some 32), (some (27, true)), .ld (.int .i64) (.s 31)⟩, ⟨(some 33), (some (27, true)), .bin .eql (.s 28) (.s 32)⟩, ⟨(some 34), none, .pick (.s 27) (.s 33) (.c (.t (.bool false)))⟩, ⟨(some 35), none, .un .not (.s 34)⟩])
 (.cond (.s 35)
 (.reg [⟨(some 36), none, .mov (.s 7)⟩, ⟨(some 37), none, .mov (.s 1)⟩, ⟨(some 38), none, .bsl (.int .i64) (.t (.int .i64 0)) 1 [(0, (.s 37))]⟩, ⟨(some 39), none, .app (.int .i64) 8 (.s 36) (.s 38)⟩, ⟨(some 7), none, .mov (.s 39)⟩])
 .skip)))
 .skip))
 (.reg [⟨(some 40), none, .mov (.s 7)⟩, ⟨(some 41), none, .mov (.s 0)⟩, ⟨(some 42), none, .mov (.s 9)⟩, ⟨(some 43), none, .ia (.int .i64) (.s 41) (.s 42)⟩, ⟨(some 44), none, .ld (.int .i64) (.s 43)⟩, ⟨(some 45), none, .bsl (.int .i64) (.t (.int .i64 0)) 1 [(0, (.s 44))]⟩, ⟨(some 46), none, .app (.int .i64) 8 (.s 40) (.s 45)⟩, ⟨(some 7), none, .mov (.s 46)⟩])))
 (.reg [⟨(some 14), none, .mov (.s 9)⟩, ⟨(some 15), none, .bin .add (.s 14) (.c (.t (.int .i64 1)))⟩, ⟨(some 9), none, .mov (.s 15)⟩]))))))
 (.seq (.seq (.reg [⟨(some 47), none, .mov (.s 8)⟩, ⟨(some 48), none, .un .not (.s 47)⟩])
 (.cond (.s 48)
 (.reg [⟨(some 49), none, .mov (.s 7)⟩, ⟨(some 50), none, .mov (.s 1)⟩, ⟨(some 51), none, .bsl (.int .i64) (.t (.int .i64 0)) 1 [(0, (.s 50))]⟩, ⟨(some 52), none, .app (.int .i64) 8 (.s 49) (.s 51)⟩, ⟨(some 7), none, .mov (.s 52)⟩])
 .skip))
 (.seq (.reg [⟨(some 53), none, .mov (.s 7)⟩, ⟨(some 6), none, .mov (.s 53)⟩])
 .ret)))))),
 [.slot 6]⟩
theorem ok79 : compF Try.prog 79 [[0, 1, 2, 7, 8, 9]] [] = some ir79 := by kernel_rfl

/-- slices.ContainsFunc[[]int,int] -/
def ir80 : FInfo := ⟨9,
 (.seq (.reg [⟨(some 4), none, .mov (.c (.t (.bool false)))⟩])
 (.seq (.reg [⟨(some 5), none, .mov (.s 0)⟩, ⟨(some 6), none, .mov (.s 1)⟩, ⟨(some 7), none, .call false 101 (.int .i64) [(.s 5), (.s 6)]⟩, ⟨(some 8), none, .bin .geq (.s 7) (.c (.t (.int .i64 0)))⟩, ⟨(some 4), none, .mov (.s 8)⟩])
 .ret)),
 [.slot 4]⟩
theorem ok80 : compF Try.prog 80 [] [] = some ir80 := by kernel_rfl

/-- tenet/quot.natural$1 -/
def ir81 : FInfo := ⟨9,
 (.seq (.reg [⟨(some 2), none, .mov (.c (.t (.bool false)))⟩])
 (.seq (.reg [⟨(some 3), none, .mov (.s 0)⟩, ⟨(some 4), none, .bin .lss (.s 3) (.c (.t (.int .i64 0)))⟩, ⟨(some 5), none, .mov (.s 4)⟩, ⟨(some 6), (some (5, false)), .mov (.s 0)⟩, ⟨(some 7), (some (5, false)), .bin .gtr (.s 6) (.c (.t (.int .i64 1099511627776)))⟩, ⟨(some 8), none, .pick (.s 5) (.c (.t (.bool true))) (.s 7)⟩, ⟨(some 2), none, .mov (.s 8)⟩])
 .ret)),
 [.slot 2]⟩
theorem ok81 : compF Try.prog 81 [] [] = some ir81 := by kernel_rfl

/-- math/bits.Mul64 -/
def ir82 : FInfo := ⟨51,
 (.seq (.reg [⟨(some 4), none, .mov (.c (.t (.int .u64 0)))⟩, ⟨(some 5), none, .mov (.c (.t (.int .u64 0)))⟩])
 (.seq (.reg [⟨(some 14), none, .mov (.s 0)⟩, ⟨(some 15), none, .bin .and (.s 14) (.c (.t (.int .u64 4294967295)))⟩, ⟨(some 6), none, .mov (.s 15)⟩])
 (.seq (.reg [⟨(some 16), none, .mov (.s 0)⟩, ⟨(some 17), none, .bin .shr (.s 16) (.c (.t (.int .u64 32)))⟩, ⟨(some 7), none, .mov (.s 17)⟩])
 (.seq (.reg [⟨(some 18), none, .mov (.s 1)⟩, ⟨(some 19), none, .bin .and (.s 18) (.c (.t (.int .u64 4294967295)))⟩, ⟨(some 8), none, .mov (.s 19)⟩])
 (.seq (.reg [⟨(some 20), none, .mov (.s 1)⟩, ⟨(some 21), none, .bin .shr (.s 20) (.c (.t (.int .u64 32)))⟩, ⟨(some 9), none, .mov (.s 21)⟩])
 (.seq (.reg [⟨(some 22), none, .mov (.s 6)⟩, ⟨(some 23), none, .mov (.s 8)⟩, ⟨(some 24), none, .bin .mul (.s 22) (.s 23)⟩, ⟨(some 10), none, .mov (.s 24)⟩])
 (.seq (.reg [⟨(some 25), none, .mov (.s 7)⟩, ⟨(some 26), none, .mov (.s 8)⟩, ⟨(some 27), none, .bin .mul (.s 25) (.s 26)⟩, ⟨(some 28), none, .mov (.s 10)⟩, ⟨(some 29), none, .bin .shr (.s 28) (.c (.t (.int .u64 32)))⟩, ⟨(some 30), none, .bin .add (.s 27) (.s 29)⟩, ⟨(some 11), none, .mov (.s 30)⟩])
 (.seq (.reg [⟨(some 31), none, .mov (.s 11)⟩, ⟨(some 32), none, .bin .and (.s 31) (.c (.t (.int .u64 4294967295)))⟩, ⟨(some 12), none, .mov (.s 32)⟩])
 (.seq (.reg [⟨(some 33), none, .mov (.s 11)⟩, ⟨(some 34), none, .bin .shr (.s 33) (.c (.t (.int .u64 32)))⟩, ⟨(some 13), none, .mov (.s 34)⟩])
 (.seq (.reg [⟨(some 35), none, .mov (.s 12)⟩, ⟨(some 36), none, .mov (.s 6)⟩, ⟨(some 37), none, .mov (.s 9)⟩, ⟨(some 38), none, .bin .mul (.s 36) (.s 37)⟩, ⟨(some 39), none, .bin .add (.s 35) (.s 38)⟩, ⟨(some 12), none, .mov (.s 39)⟩])
 (.seq (.reg [⟨(some 40), none, .mov (.s 7)⟩, ⟨(some 41), none, .mov (.s 9)⟩, ⟨(some 42), none, .bin .mul (.s 40) (.s 41)⟩, ⟨(some 43), none, .mov (.s 13)⟩, ⟨(some 44), none, .bin .add (.s 42) (.s 43)⟩, ⟨(some 45), none, .mov (.s 12)⟩, ⟨(some 46), none, .bin .shr (.s 45) (.c (.t (.int .u64 32)))⟩, ⟨(some 47), none, .bin .add (.s 44) (.s 46)⟩, ⟨(some 4), none, .mov (.s 47)⟩])
 (.seq (.reg [⟨(some 48), none, .mov (.s 0)⟩, ⟨(some 49), none, .mov (.s 1)⟩, ⟨(some 50), none, .bin .mul (.s 48) (.s 49)⟩, ⟨(some 5), none, .mov (.s 50)⟩])
 .ret)))))))))))),
 [.slot 4, .slot 5]⟩
theorem ok82 : compF Try.prog 82 [] [] = some ir82 := by kernel_rfl

/-- tenet/quot.abs -/
def ir83 : FInfo := ⟨10,
 (.seq (.reg [⟨(some 2), none, .mov (.c (.t (.int .u64 0)))⟩])
 (.seq (.seq (.reg [⟨(some 3), none, .mov (.s 0)⟩, ⟨(some 4), none, .bin .lss (.s 3) (.c (.t (.int .i64 0)))⟩])
 (.cond (.s 4)
 (.seq (.reg [⟨(some 5), none, .mov (.s 0)⟩, ⟨(some 6), none, .un .neg (.s 5)⟩, ⟨(some 7), none, .conv .u64 (.s 6)⟩, ⟨(some 2), none, .mov (.s 7)⟩])
 .ret)
 .skip))
 (.seq (.reg [⟨(some 8), none, .mov (.s 0)⟩, ⟨(some 9), none, .conv .u64 (.s 8)⟩, ⟨(some 2), none, .mov (.s 9)⟩])
 .ret))),
 [.slot 2]⟩
theorem ok83 : compF Try.prog 83 [] [] = some ir83 := by kernel_rfl

/-- tenet/tenetref23.abs -/
def ir84 : FInfo := ⟨10,
 (.seq (.reg [⟨(some 2), none, .mov (.c (.t (.int .u64 0)))⟩])
 (.seq (.seq (.reg [⟨(some 3), none, .mov (.s 0)⟩, ⟨(some 4), none, .bin .lss (.s 3) (.c (.t (.int .i64 0)))⟩])
 (.cond (.s 4)
 (.seq (.reg [⟨(some 5), none, .mov (.s 0)⟩, ⟨(some 6), none, .un .neg (.s 5)⟩, ⟨(some 7), none, .conv .u64 (.s 6)⟩, ⟨(some 2), none, .mov (.s 7)⟩])
 .ret)
 .skip))
 (.seq (.reg [⟨(some 8), none, .mov (.s 0)⟩, ⟨(some 9), none, .conv .u64 (.s 8)⟩, ⟨(some 2), none, .mov (.s 9)⟩])
 .ret))),
 [.slot 2]⟩
theorem ok84 : compF Try.prog 84 [] [] = some ir84 := by kernel_rfl

/-- tenet/quot.signed -/
def ir85 : FInfo := ⟨17,
 (.seq (.reg [⟨(some 1), none, .box (.agg [(.int .i64), (.int .i64)]) (.s 0)⟩, ⟨(some 2), none, .mov (.c (.t (.int .i64 0)))⟩, ⟨(some 3), none, .mov (.c (.t (.int .i64 0)))⟩])
 (.seq (.seq (.reg [⟨(some 4), none, .fa 1 (.s 1)⟩, ⟨(some 5), none, .ld (.int .i64) (.s 4)⟩, ⟨(some 6), none, .bin .lss (.s 5) (.c (.t (.int .i64 0)))⟩])
 (.cond (.s 6)
 (.seq (.dreg [⟨(some 7), none, .fa 0 (.s 1)⟩, ⟨(some 8), none, .ld (.int .i64) (.s 7)⟩, ⟨(some 9), none, .un .neg (.s 8)⟩, ⟨(some 10), none, .fa 1 (.s 1)⟩, ⟨(some 11), none, .ld (.int .i64) (.s 10)⟩, ⟨(some 12), none, .un .neg (.s 11)⟩, ⟨(some 2), none, .mov (.s 9)⟩, ⟨(some 3), none, .mov (.s 12)⟩] [0, 1, 3, 0, 8, 24, 7, 127])
 .ret)
 .skip))
 (.seq (.dreg [⟨(some 13), none, .fa 0 (.s 1)⟩, ⟨(some 14), none, .ld (.int .i64) (.s 13)⟩, ⟨(some 15), none, .fa 1 (.s 1)⟩, ⟨(some 16), none, .ld (.int .i64) (.s 15)⟩, ⟨(some 2), none, .mov (.s 14)⟩, ⟨(some 3), none, .mov (.s 16)⟩] [0, 1, 0, 4, 3, 31])
 .ret))),
 [.slot 2, .slot 3]⟩
theorem ok85 : compF Try.prog 85 [] [] = some ir85 := by kernel_rfl

/-- tenet/quot.gcd -/
def ir86 : FInfo := ⟨12,
 (.seq (.reg [⟨(some 4), none, .mov (.c (.t (.int .u64 0)))⟩])
 (.seq (.block 0 (.loop [0, 1] (.seq (.seq (.reg [⟨(some 5), none, .mov (.s 1)⟩, ⟨(some 6), none, .bin .neq (.s 5) (.c (.t (.int .u64 0)))⟩])
 (.cond (.s 6)
 .skip
 (.exit 0)))
 (.block 1 (.dreg [⟨(some 7), none, .mov (.s 1)⟩, ⟨(some 8), none, .mov (.s 0)⟩, ⟨(some 9), none, .mov (.s 1)⟩, ⟨(some 10), none, .bin .rem (.s 8) (.s 9)⟩, ⟨(some 0), none, .mov (.s 7)⟩, ⟨(some 1), none, .mov (.s 10)⟩] [0, 0, 0, 6, 3, 31])))))
 (.seq (.reg [⟨(some 11), none, .mov (.s 0)⟩, ⟨(some 4), none, .mov (.s 11)⟩])
 .ret))),
 [.slot 4]⟩
theorem ok86 : compF Try.prog 86 [[0, 1]] [] = some ir86 := by kernel_rfl

/-- (tenet/quot.wide).rest -/
def ir87 : FInfo := ⟨14,
 (.seq (.reg [⟨(some 2), none, .box (.agg [.bool, (.int .u64), (.int .u64)]) (.s 0)⟩, ⟨(some 3), none, .box (.agg [.bool, (.int .u64), (.int .u64)]) (.s 1)⟩, ⟨(some 4), none, .new (.agg [.bool, (.int .u64), (.int .u64)]) (.t (.agg [(.bool false), (.int .u64 0), (.int .u64 0)]))⟩])
 (.seq (.reg [⟨(some 8), none, .ld (.agg [.bool, (.int .u64), (.int .u64)]) (.s 2)⟩, ⟨(some 9), none, .ld (.agg [.bool, (.int .u64), (.int .u64)]) (.s 3)⟩, ⟨(some 10), none, .call false 102 (.tup [(.agg [.bool, (.int .u64), (.int .u64)]), (.agg [.bool, (.int .u64), (.int .u64)])]) [(.s 8), (.s 9)]⟩, ⟨(some 7), none, .mov (.s 10)⟩, ⟨(some 11), none, .ext 0 (.s 7)⟩, ⟨(some 12), none, .ext 1 (.s 7)⟩, ⟨(some 5), none, .new (.agg [.bool, (.int .u64), (.int .u64)]) (.t (.agg [(.bool false), (.int .u64 0), (.int .u64 0)]))⟩, ⟨(some 6), none, .new (.agg [.bool, (.int .u64), (.int .u64)]) (.t (.agg [(.bool false), (.int .u64 0), (.int .u64 0)]))⟩, ⟨none, none, .st (.agg [.bool, (.int .u64), (.int .u64)]) (.s 5) (.s 11)⟩, ⟨none, none, .st (.agg [.bool, (.int .u64), (.int .u64)]) (.s 6) (.s 12)⟩])
 (.seq (.reg [⟨(some 13), none, .ld (.agg [.bool, (.int .u64), (.int .u64)]) (.s 6)⟩, ⟨none, none, .st (.agg [.bool, (.int .u64), (.int .u64)]) (.s 4) (.s 13)⟩])
 .ret))),
 [.cell 4 (.agg [.bool, (.int .u64), (.int .u64)])]⟩
theorem ok87 : compF Try.prog 87 [] [] = some ir87 := by kernel_rfl

/-- (tenet/quot.wide).quotient -/
def ir88 : FInfo := ⟨25,
 (.seq (.reg [⟨(some 2), none, .box (.agg [.bool, (.int .u64), (.int .u64)]) (.s 0)⟩, ⟨(some 3), none, .box (.agg [.bool, (.int .u64), (.int .u64)]) (.s 1)⟩, ⟨(some 4), none, .new (.agg [.bool, (.int .u64), (.int .u64)]) (.t (.agg [(.bool false), (.int .u64 0), (.int .u64 0)]))⟩])
 (.seq (.reg [⟨(some 8), none, .ld (.agg [.bool, (.int .u64), (.int .u64)]) (.s 2)⟩, ⟨(some 9), none, .ld (.agg [.bool, (.int .u64), (.int .u64)]) (.s 3)⟩, ⟨(some 10), none, .call false 102 (.tup [(.agg [.bool, (.int .u64), (.int .u64)]), (.agg [.bool, (.int .u64), (.int .u64)])]) [(.s 8), (.s 9)]⟩, ⟨(some 7), none, .mov (.s 10)⟩, ⟨(some 11), none, .ext 0 (.s 7)⟩, ⟨(some 12), none, .ext 1 (.s 7)⟩, ⟨(some 5), none, .new (.agg [.bool, (.int .u64), (.int .u64)]) (.t (.agg [(.bool false), (.int .u64 0), (.int .u64 0)]))⟩, ⟨(some 6), none, .new (.agg [.bool, (.int .u64), (.int .u64)]) (.t (.agg [(.bool false), (.int .u64 0), (.int .u64 0)]))⟩, ⟨none, none, .st (.agg [.bool, (.int .u64), (.int .u64)]) (.s 5) (.s 11)⟩, ⟨none, none, .st (.agg [.bool, (.int .u64), (.int .u64)]) (.s 6) (.s 12)⟩])
 (.seq (.reg [⟨(some 13), none, .fa 0 (.s 2)⟩, ⟨(some 14), none, .ld .bool (.s 13)⟩, ⟨(some 15), none, .mov (.s 14)⟩, ⟨(some 16), (some (15, true)), .fa 1 (.s 5)⟩, ⟨(some 17), (some (15, true)), .ld (.int .u64) (.s 16)⟩, ⟨(some 18), (some (15, true)), .fa 2 (.s 5)⟩, ⟨(some 19), (some (15, true)), .ld (.int .u64) (.s 18)⟩, ⟨(some 20), (some (15, true)), .bin .or (.s 17) (.s 19)⟩, ⟨(some 21), (some (15, true)), .bin .neq (.s 20) (.c (.t (.int .u64 0)))⟩, ⟨(some 22), none, .pick (.s 15) (.s 21) (.c (.t (.bool false)))⟩, ⟨(some 23), none, .fa 0 (.s 5)⟩, ⟨none, none, .st .bool (.s 23) (.s 22)⟩])
 (.seq (.reg [⟨(some 24), none, .ld (.agg [.bool, (.int .u64), (.int .u64)]) (.s 5)⟩, ⟨none, none, .st (.agg [.bool, (.int .u64), (.int .u64)]) (.s 4) (.s 24)⟩])
 .ret)))),
 [.cell 4 (.agg [.bool, (.int .u64), (.int .u64)])]⟩
theorem ok88 : compF Try.prog 88 [] [] = some ir88 := by kernel_rfl

/-- (tenet/quot.wide).compare -/
def ir90 : FInfo := ⟨17,
 (.seq (.reg [⟨(some 2), none, .box (.agg [.bool, (.int .u64), (.int .u64)]) (.s 0)⟩, ⟨(some 3), none, .box (.agg [.bool, (.int .u64), (.int .u64)]) (.s 1)⟩, ⟨(some 4), none, .mov (.c (.t (.int .i64 0)))⟩])
 (.seq (.dreg [⟨(some 5), none, .fa 1 (.s 2)⟩, ⟨(some 6), none, .ld (.int .u64) (.s 5)⟩, ⟨(some 7), none, .fa 1 (.s 3)⟩, ⟨(some 8), none, .ld (.int .u64) (.s 7)⟩, ⟨(some 9), none, .call false 104 (.int .i64) [(.s 6), (.s 8)]⟩, ⟨(some 10), none, .fa 2 (.s 2)⟩, ⟨(some 11), none, .ld (.int .u64) (.s 10)⟩, ⟨(some 12), none, .fa 2 (.s 3)⟩, ⟨(some 13), none, .ld (.int .u64) (.s 12)⟩, ⟨(some 14), none, .call false 104 (.int .i64) [(.s 11), (.s 13)]⟩, ⟨(some 15), none, .bsl (.int .i64) (.t (.int .i64 0)) 2 [(0, (.s 9)), (1, (.s 14))]⟩, ⟨(some 16), none, .call false 103 (.int .i64) [(.s 15)]⟩, ⟨(some 4), none, .mov (.s 16)⟩] [0, 1, 0, 4, 15, 0, 32, 0, 128, 511, 1023, 2047, 4095])
 .ret)),
 [.slot 4]⟩
theorem ok90 : compF Try.prog 90 [] [] = some ir90 := by kernel_rfl

/-- (tenet/tenetref23.wide).compare -/
def ir92 : FInfo := ⟨25,
 (.seq (.reg [⟨(some 2), none, .box (.agg [.bool, (.int .u64), (.int .u64)]) (.s 0)⟩, ⟨(some 3), none, .box (.agg [.bool, (.int .u64), (.int .u64)]) (.s 1)⟩, ⟨(some 4), none, .mov (.c (.t (.int .i64 0)))⟩])
 (.seq (.seq (.reg [⟨(some 5), none, .fa 1 (.s 2)⟩, ⟨(some 6), none, .ld (.int .u64) (.s 5)⟩, ⟨(some 7), none, .fa 1 (.s 3)⟩, ⟨(some 8), none, .ld (.int .u64) (.s 7)⟩, ⟨(some 9), none, .bin .neq (.s 6) (.s 8)⟩])
 (.cond (.s 9)
 (.seq (.seq (.reg [⟨(some 10), none, .fa 1 (.s 2)⟩, ⟨(some 11), none, .ld (.int .u64) (.s 10)⟩, ⟨(some 12), none, .fa 1 (.s 3)⟩, ⟨(some 13), none, .ld (.int .u64) (.s 12)⟩, ⟨(some 14), none, .bin .lss (.s 11) (.s 13)⟩])
 (.cond (.s 14)
 (.seq (.reg [⟨(some 4), none, .mov (.c (.t (.int .i64 (-1))))⟩])
 .ret)
 .skip))
 (.seq (.reg [⟨(some 4), none, .mov (.c (.t (.int .i64 1)))⟩])
 .ret))
 .skip))
 (.seq (.seq (.reg [⟨(some 15), none, .fa 2 (.s 2)⟩, ⟨(some 16), none, .ld (.int .u64) (.s 15)⟩, ⟨(some 17), none, .fa 2 (.s 3)⟩, ⟨(some 18), none, .ld (.int .u64) (.s 17)⟩, ⟨(some 19), none, .bin .neq (.s 16) (.s 18)⟩])
 (.cond (.s 19)
 (.seq (.seq (.reg [⟨(some 20), none, .fa 2 (.s 2)⟩, ⟨(some 21), none, .ld (.int .u64) (.s 20)⟩, ⟨(some 22), none, .fa 2 (.s 3)⟩, ⟨(some 23), none, .ld (.int .u64) (.s 22)⟩, ⟨(some 24), none, .bin .lss (.s 21) (.s 23)⟩])
 (.cond (.s 24)
 (.seq (.reg [⟨(some 4), none, .mov (.c (.t (.int .i64 (-1))))⟩])
 .ret)
 .skip))
 (.seq (.reg [⟨(some 4), none, .mov (.c (.t (.int .i64 1)))⟩])
 .ret))
 .skip))
 (.seq (.reg [⟨(some 4), none, .mov (.c (.t (.int .i64 0)))⟩])
 .ret)))),
 [.slot 4]⟩
theorem ok92 : compF Try.prog 92 [] [] = some ir92 := by kernel_rfl

/-- (tenet/tenetref23.wide).divide -/
def ir93 : FInfo := ⟨40,
 (.seq (.reg [⟨(some 2), none, .box (.agg [.bool, (.int .u64), (.int .u64)]) (.s 0)⟩, ⟨(some 4), none, .new (.agg [.bool, (.int .u64), (.int .u64)]) (.t (.agg [(.bool false), (.int .u64 0), (.int .u64 0)]))⟩, ⟨(some 5), none, .mov (.c (.t (.int .u64 0)))⟩])
 (.seq (.dreg [⟨(some 10), none, .fa 1 (.s 2)⟩, ⟨(some 11), none, .ld (.int .u64) (.s 10)⟩, ⟨(some 12), none, .mov (.s 1)⟩, ⟨(some 13), none, .bin .quo (.s 11) (.s 12)⟩, ⟨(some 14), none, .fa 1 (.s 2)⟩, ⟨(some 15), none, .ld (.int .u64) (.s 14)⟩, ⟨(some 16), none, .mov (.s 1)⟩, ⟨(some 17), none, .bin .rem (.s 15) (.s 16)⟩, ⟨(some 6), none, .mov (.s 13)⟩, ⟨(some 7), none, .mov (.s 17)⟩] [0, 1, 0, 7, 0, 16, 0, 112, 15, 511])
 (.seq (.reg [⟨(some 19), none, .mov (.s 7)⟩, ⟨(some 20), none, .fa 2 (.s 2)⟩, ⟨(some 21), none, .ld (.int .u64) (.s 20)⟩, ⟨(some 22), none, .mov (.s 1)⟩, ⟨(some 23), none, .call false 105 (.tup [(.int .u64), (.int .u64)]) [(.s 19), (.s 21), (.s 22)]⟩, ⟨(some 18), none, .mov (.s 23)⟩, ⟨(some 24), none, .ext 0 (.s 18)⟩, ⟨(some 25), none, .ext 1 (.s 18)⟩, ⟨(some 8), none, .mov (.s 24)⟩, ⟨(some 9), none, .mov (.s 25)⟩])
 (.seq (.reg [⟨(some 26), none, .fa 0 (.s 2)⟩, ⟨(some 27), none, .ld .bool (.s 26)⟩, ⟨(some 28), none, .mov (.s 27)⟩, ⟨(some 29), (some (28, true)), .mov (.s 6)⟩, ⟨(some 30), (some (28, true)), .bin .neq (.s 29) (.c (.t (.int .u64 0)))⟩, ⟨(some 31), (some (28, true)), .mov (.s 30)⟩, ⟨(some 32), (some (31, false)), .mov (.s 8)⟩, ⟨(some 33), (some (31, false)), .bin .neq (.s 32) (.c (.t (.int .u64 0)))⟩, ⟨(some 34), (some (28, true)), .pick (.s 31) (.c (.t (.bool true))) (.s 33)⟩, ⟨(some 35), none, .pick (.s 28) (.s 34) (.c (.t (.bool false)))⟩, ⟨(some 36), none, .mov (.s 6)⟩, ⟨(some 37), none, .mov (.s 8)⟩, ⟨(some 38), none, .build [(.t (.bool false)), (.t (.int .u64 0)), (.t (.int .u64 0))] [(0, .bool, (.s 35)), (1, (.int .u64), (.s 36)), (2, (.int .u64), (.s 37))]⟩, ⟨(some 39), none, .mov (.s 9)⟩, ⟨none, none, .st (.agg [.bool, (.int .u64), (.int .u64)]) (.s 4) (.s 38)⟩, ⟨(some 5), none, .mov (.s 39)⟩])
 .ret)))),
 [.cell 4 (.agg [.bool, (.int .u64), (.int .u64)]), .slot 5]⟩
theorem ok93 : compF Try.prog 93 [] [] = some ir93 := by kernel_rfl

/-- tenet/quot.whole$1 -/
def ir97 : FInfo := ⟨9,
 (.seq (.reg [⟨(some 2), none, .mov (.c (.t (.bool false)))⟩])
 (.seq (.reg [⟨(some 3), none, .mov (.s 0)⟩, ⟨(some 4), none, .bin .lss (.s 3) (.c (.t (.int .i64 (-1099511627776))))⟩, ⟨(some 5), none, .mov (.s 4)⟩, ⟨(some 6), (some (5, false)), .mov (.s 0)⟩, ⟨(some 7), (some (5, false)), .bin .gtr (.s 6) (.c (.t (.int .i64 1099511627776)))⟩, ⟨(some 8), none, .pick (.s 5) (.c (.t (.bool true))) (.s 7)⟩, ⟨(some 2), none, .mov (.s 8)⟩])
 .ret)),
 [.slot 2]⟩
theorem ok97 : compF Try.prog 97 [] [] = some ir97 := by kernel_rfl

/-- slices.Index[[]int,int] -/
def ir100 : FInfo := ⟨19,
 (.seq (.reg [⟨(some 4), none, .mov (.c (.t (.int .i64 0)))⟩])
 (.seq (.seq (.reg [⟨(some 6), none, .mov (.s 0)⟩, ⟨(some 7), none, .len (.s 6)⟩, ⟨(some 8), none, .mov (.c (.t (.int .i64 0)))⟩])
 (.block 0 (.loop [0, 1, 7, 8] (.seq (.reg [⟨(some 9), none, .bin .lss (.s 8) (.s 7)⟩])
 (.seq (.cond (.s 9)
 .skip
 (.exit 0))
 (.seq (.block 1 (.seq (.reg [⟨(some 10), none, .mov (.s 8)⟩, ⟨(some 5), none, .mov (.s 10)⟩])
 (.seq (.reg [⟨(some 11), none, .mov (.s 1)⟩, ⟨(some 12), none, .mov (.s 0)⟩, ⟨(some 13), none, .mov (.s 5)⟩, ⟨(some 14), none, .ia (.int .i64) (.s 12) (.s 13)⟩, ⟨(some 15), none, .ld (.int .i64) (.s 14)⟩, ⟨(some 16), none, .bin .eql (.s 11) (.s 15)⟩])
 (.cond (.s 16)
 (.seq (.reg [⟨(some 17), none, .mov (.s 5)⟩, ⟨(some 4), none, .mov (.s 17)⟩])
 .ret)
 .skip))))
 (.reg [⟨(some 18), none, .bin .add (.s 8) (.c (.t (.int .i64 1)))⟩, ⟨(some 8), none, .mov (.s 18)⟩])))))))
 (.seq (.reg [⟨(some 4), none, .mov (.c (.t (.int .i64 (-1))))⟩])
 .ret))),
 [.slot 4]⟩
theorem ok100 : compF Try.prog 100 [[0, 1, 7, 8]] [] = some ir100 := by kernel_rfl

/-- slices.IndexFunc[[]int,int] -/
def ir101 : FInfo := ⟨19,
 (.seq (.reg [⟨(some 4), none, .mov (.c (.t (.int .i64 0)))⟩])
 (.seq (.seq (.reg [⟨(some 6), none, .mov (.s 0)⟩, ⟨(some 7), none, .len (.s 6)⟩, ⟨(some 8), none, .mov (.c (.t (.int .i64 0)))⟩])
 (.block 0 (.loop [0, 1, 7, 8] (.seq (.reg [⟨(some 9), none, .bin .lss (.s 8) (.s 7)⟩])
 (.seq (.cond (.s 9)
 .skip
 (.exit 0))
 (.seq (.block 1 (.seq (.reg [⟨(some 10), none, .mov (.s 8)⟩, ⟨(some 5), none, .mov (.s 10)⟩])
 (.seq (.reg [⟨(some 11), none, .mov (.s 1)⟩, ⟨(some 12), none, .mov (.s 0)⟩, ⟨(some 13), none, .mov (.s 5)⟩, ⟨(some 14), none, .ia (.int .i64) (.s 12) (.s 13)⟩, ⟨(some 15), none, .ld (.int .i64) (.s 14)⟩, ⟨(some 16), none, .callv (.s 11) .bool [(.s 15)]⟩])
 (.cond (.s 16)
 (.seq (.reg [⟨(some 17), none, .mov (.s 5)⟩, ⟨(some 4), none, .mov (.s 17)⟩])
 .ret)
 .skip))))
 (.reg [⟨(some 18), none, .bin .add (.s 8) (.c (.t (.int .i64 1)))⟩, ⟨(some 8), none, .mov (.s 18)⟩])))))))
 (.seq (.reg [⟨(some 4), none, .mov (.c (.t (.int .i64 (-1))))⟩])
 .ret))),
 [.slot 4]⟩
theorem ok101 : compF Try.prog 101 [[0, 1, 7, 8]] [] = some ir101 := by kernel_rfl

/-- (tenet/quot.wide).divide -/
def ir102 : FInfo := ⟨87,
 (.seq (.reg [⟨(some 2), none, .box (.agg [.bool, (.int .u64), (.int .u64)]) (.s 0)⟩, ⟨(some 3), none, .box (.agg [.bool, (.int .u64), (.int .u64)]) (.s 1)⟩, ⟨(some 4), none, .new (.agg [.bool, (.int .u64), (.int .u64)]) (.t (.agg [(.bool false), (.int .u64 0), (.int .u64 0)]))⟩, ⟨(some 5), none, .new (.agg [.bool, (.int .u64), (.int .u64)]) (.t (.agg [(.bool false), (.int .u64 0), (.int .u64 0)]))⟩])
 (.seq (.seq (.reg [⟨(some 10), none, .fa 1 (.s 3)⟩, ⟨(some 11), none, .ld (.int .u64) (.s 10)⟩, ⟨(some 12), none, .bin .eql (.s 11) (.c (.t (.int .u64 0)))⟩])
 (.cond (.s 12)
 (.seq (.reg [⟨(some 13), none, .ld (.agg [.bool, (.int .u64), (.int .u64)]) (.s 2)⟩, ⟨(some 14), none, .fa 2 (.s 3)⟩, ⟨(some 15), none, .ld (.int .u64) (.s 14)⟩, ⟨(some 16), none, .call false 108 (.agg [.bool, (.int .u64), (.int .u64)]) [(.s 13), (.s 15)]⟩, ⟨(some 6), none, .new (.agg [.bool, (.int .u64), (.int .u64)]) (.t (.agg [(.bool false), (.int .u64 0), (.int .u64 0)]))⟩, ⟨none, none, .st (.agg [.bool, (.int .u64), (.int .u64)]) (.s 6) (.s 16)⟩])
 (.seq (.dreg [⟨(some 17), none, .fa 1 (.s 6)⟩, ⟨(some 18), none, .ld (.int .u64) (.s 17)⟩, ⟨(some 19), none, .fa 2 (.s 6)⟩, ⟨(some 20), none, .ld (.int .u64) (.s 19)⟩, ⟨(some 21), none, .build [(.t (.bool false)), (.t (.int .u64 0)), (.t (.int .u64 0))] [(1, (.int .u64), (.s 18)), (2, (.int .u64), (.s 20))]⟩, ⟨(some 22), none, .ld (.agg [.bool, (.int .u64), (.int .u64)]) (.s 2)⟩, ⟨(some 23), none, .fa 2 (.s 3)⟩, ⟨(some 24), none, .ld (.int .u64) (.s 23)⟩, ⟨(some 25), none, .call false 109 (.int .u64) [(.s 22), (.s 24)]⟩, ⟨(some 26), none, .build [(.t (.bool false)), (.t (.int .u64 0)), (.t (.int .u64 0))] [(2, (.int .u64), (.s 25))]⟩, ⟨none, none, .st (.agg [.bool, (.int .u64), (.int .u64)]) (.s 4) (.s 21)⟩, ⟨none, none, .st (.agg [.bool, (.int .u64), (.int .u64)]) (.s 5) (.s 26)⟩] [0, 1, 0, 4, 15, 0, 0, 64, 224, 480, 511, 2047])
 .ret))
 .skip))
 (.seq (.reg [⟨(some 7), none, .new (.agg [.bool, (.int .u64), (.int .u64)]) (.t (.agg [(.bool false), (.int .u64 0), (.int .u64 0)]))⟩, ⟨(some 8), none, .new (.agg [.bool, (.int .u64), (.int .u64)]) (.t (.agg [(.bool false), (.int .u64 0), (.int .u64 0)]))⟩])
 (.seq (.seq (.reg [⟨(some 27), none, .mov (.c (.t (.int .i64 0)))⟩])
 (.block 0 (.loop [2, 3, 4, 5, 7, 8, 27] (.seq (.reg [⟨(some 28), none, .bin .lss (.s 27) (.c (.t (.int .i64 128)))⟩])
 (.seq (.cond (.s 28)
 .skip
 (.exit 0))
 (.seq (.block 1 (.seq (.reg [⟨(some 29), none, .fa 1 (.s 2)⟩, ⟨(some 30), none, .ld (.int .u64) (.s 29)⟩, ⟨(some 31), none, .bin .shr (.s 30) (.c (.t (.int .u64 63)))⟩, ⟨(some 9), none, .mov (.s 31)⟩])
 (.seq (.reg [⟨(some 32), none, .fa 1 (.s 2)⟩, ⟨(some 33), none, .ld (.int .u64) (.s 32)⟩, ⟨(some 34), none, .bin .shl (.s 33) (.c (.t (.int .u64 1)))⟩, ⟨(some 35), none, .fa 2 (.s 2)⟩, ⟨(some 36), none, .ld (.int .u64) (.s 35)⟩, ⟨(some 37), none, .bin .shr (.s 36) (.c (.t (.int .u64 63)))⟩, ⟨(some 38), none, .bin .or (.s 34) (.s 37)⟩, ⟨(some 39), none, .fa 2 (.s 2)⟩, ⟨(some 40), none, .ld (.int .u64) (.s 39)⟩, ⟨(some 41), none, .bin .shl (.s 40) (.c (.t (.int .u64 1)))⟩, ⟨(some 42), none, .fa 1 (.s 2)⟩, ⟨none, none, .st (.int .u64) (.s 42) (.s 38)⟩, ⟨(some 43), none, .fa 2 (.s 2)⟩, ⟨none, none, .st (.int .u64) (.s 43) (.s 41)⟩])
 (.seq (.reg [⟨(some 44), none, .fa 1 (.s 8)⟩, ⟨(some 45), none, .ld (.int .u64) (.s 44)⟩, ⟨(some 46), none, .bin .shl (.s 45) (.c (.t (.int .u64 1)))⟩, ⟨(some 47), none, .fa 2 (.s 8)⟩, ⟨(some 48), none, .ld (.int .u64) (.s 47)⟩, ⟨(some 49), none, .bin .shr (.s 48) (.c (.t (.int .u64 63)))⟩, ⟨(some 50), none, .bin .or (.s 46) (.s 49)⟩, ⟨(some 51), none, .fa 2 (.s 8)⟩, ⟨(some 52), none, .ld (.int .u64) (.s 51)⟩, ⟨(some 53), none, .bin .shl (.s 52) (.c (.t (.int .u64 1)))⟩, ⟨(some 54), none, .mov (.s 9)⟩, ⟨(some 55), none, .bin .or (.s 53) (.s 54)⟩, ⟨(some 56), none, .fa 1 (.s 8)⟩, ⟨none, none, .st (.int .u64) (.s 56) (.s 50)⟩, ⟨(some 57), none, .fa 2 (.s 8)⟩, ⟨none, none, .st (.int .u64) (.s 57) (.s 55)⟩])
 (.seq (.reg [⟨(some 58), none, .fa 1 (.s 7)⟩, ⟨(some 59), none, .ld (.int .u64) (.s 58)⟩, ⟨(some 60), none, .bin .shl (.s 59) (.c (.t (.int .u64 1)))⟩, ⟨(some 61), none, .fa 2 (.s 7)⟩, ⟨(some 62), none, .ld (.int .u64) (.s 61)⟩, ⟨(some 63), none, .bin .shr (.s 62) (.c (.t (.int .u64 63)))⟩, ⟨(some 64), none, .bin .or (.s 60) (.s 63)⟩, ⟨(some 65), none, .fa 2 (.s 7)⟩, ⟨(some 66), none, .ld (.int .u64) (.s 65)⟩, ⟨(some 67), none, .bin .shl (.s 66) (.c (.t (.int .u64 1)))⟩, ⟨(some 68), none, .fa 1 (.s 7)⟩, ⟨none, none, .st (.int .u64) (.s 68) (.s 64)⟩, ⟨(some 69), none, .fa 2 (.s 7)⟩, ⟨none, none, .st (.int .u64) (.s 69) (.s 67)⟩])
 (.seq (.reg [⟨(some 70), none, .ld (.agg [.bool, (.int .u64), (.int .u64)]) (.s 8)⟩, ⟨(some 71), none, .ld (.agg [.bool, (.int .u64), (.int .u64)]) (.s 3)⟩, ⟨(some 72), none, .call false 90 (.int .i64) [(.s 70), (.s 71)]⟩, ⟨(some 73), none, .bin .geq (.s 72) (.c (.t (.int .i64 0)))⟩])
 (.cond (.s 73)
 (.seq (.reg [⟨(some 74), none, .fa 0 (.s 3)⟩, ⟨none, none, .st .bool (.s 74) (.c (.t (.bool true)))⟩])
 (.seq (.reg [⟨(some 75), none, .fa 0 (.s 8)⟩, ⟨none, none, .st .bool (.s 75) (.c (.t (.bool false)))⟩])
 (.seq (.reg [⟨(some 76), none, .ld (.agg [.bool, (.int .u64), (.int .u64)]) (.s 8)⟩, ⟨(some 77), none, .ld (.agg [.bool, (.int .u64), (.int .u64)]) (.s 3)⟩, ⟨(some 78), none, .call false 62 (.agg [.bool, (.int .u64), (.int .u64)]) [(.s 76), (.s 77)]⟩, ⟨none, none, .st (.agg [.bool, (.int .u64), (.int .u64)]) (.s 8) (.s 78)⟩])
 (.seq (.reg [⟨(some 79), none, .fa 0 (.s 3)⟩, ⟨none, none, .st .bool (.s 79) (.c (.t (.bool false)))⟩])
 (.reg [⟨(some 80), none, .fa 2 (.s 7)⟩, ⟨(some 81), none, .ld (.int .u64) (.s 80)⟩, ⟨(some 82), none, .bin .or (.s 81) (.c (.t (.int .u64 1)))⟩, ⟨(some 83), none, .fa 2 (.s 7)⟩, ⟨none, none, .st (.int .u64) (.s 83) (.s 82)⟩])))))
 .skip)))))))
 (.reg [⟨(some 84), none, .bin .add (.s 27) (.c (.t (.int .i64 1)))⟩, ⟨(some 27), none, .mov (.s 84)⟩])))))))
 (.seq (.dreg [⟨(some 85), none, .ld (.agg [.bool, (.int .u64), (.int .u64)]) (.s 7)⟩, ⟨(some 86), none, .ld (.agg [.bool, (.int .u64), (.int .u64)]) (.s 8)⟩, ⟨none, none, .st (.agg [.bool, (.int .u64), (.int .u64)]) (.s 4) (.s 85)⟩, ⟨none, none, .st (.agg [.bool, (.int .u64), (.int .u64)]) (.s 5) (.s 86)⟩] [0, 0, 1, 7])
 .ret))))),
 [.cell 4 (.agg [.bool, (.int .u64), (.int .u64)]), .cell 5 (.agg [.bool, (.int .u64), (.int .u64)])]⟩
theorem ok102 : compF Try.prog 102 [[2, 3, 4, 5, 7, 8, 27]] [] = some ir102 := by kernel_rfl

/-- cmp.Or[int] -/
def ir103 : FInfo := ⟨18,
 (.seq (.reg [⟨(some 2), none, .mov (.c (.t (.int .i64 0)))⟩])
 (.seq (.reg [⟨(some 3), none, .mov (.c (.t (.int .i64 0)))⟩])
 (.seq (.seq (.reg [⟨(some 6), none, .mov (.s 0)⟩, ⟨(some 7), none, .len (.s 6)⟩, ⟨(some 8), none, .mov (.c (.t (.int .i64 0)))⟩])
 (.block 0 (.loop [3, 6, 7, 8] (.seq (.reg [⟨(some 9), none, .bin .lss (.s 8) (.s 7)⟩])
 (.seq (.cond (.s 9)
 .skip
 (.exit 0))
 (.seq (.block 1 (.seq (.reg [⟨(some 10), none, .ia (.int .i64) (.s 6) (.s 8)⟩, ⟨(some 11), none, .ld (.int .i64) (.s 10)⟩, ⟨(some 5), none, .mov (.s 11)⟩])
 (.seq (.reg [⟨(some 12), none, .mov (.s 5)⟩, ⟨(some 13), none, .mov (.s 3)⟩, ⟨(some 14), none, .bin .neq (.s 12) (.s 13)⟩])
 (.cond (.s 14)
 (.seq (.reg [⟨(some 15), none, .mov (.s 5)⟩, ⟨(some 2), none, .mov (.s 15)⟩])
 .ret)
 .skip))))
 (.reg [⟨(some 16), none, .bin .add (.s 8) (.c (.t (.int .i64 1)))⟩, ⟨(some 8), none, .mov (.s 16)⟩])))))))
 (.seq (.reg [⟨(some 17), none, .mov (.s 3)⟩, ⟨(some 2), none, .mov (.s 17)⟩])
 .ret)))),
 [.slot 2]⟩
theorem ok103 : compF Try.prog 103 [[3, 6, 7, 8]] [] = some ir103 := by kernel_rfl

/-- cmp.Compare[uint64] -/
def ir104 : FInfo := ⟨20,
 (.seq (.reg [⟨(some 4), none, .mov (.c (.t (.int .i64 0)))⟩])
 (.seq (.reg [⟨(some 7), none, .mov (.s 0)⟩, ⟨(some 8), none, .call false 110 .bool [(.s 7)]⟩, ⟨(some 5), none, .mov (.s 8)⟩])
 (.seq (.reg [⟨(some 9), none, .mov (.s 1)⟩, ⟨(some 10), none, .call false 110 .bool [(.s 9)]⟩, ⟨(some 6), none, .mov (.s 10)⟩])
 (.seq (.seq (.reg [⟨(some 11), none, .mov (.s 5)⟩])
 (.cond (.s 11)
 (.seq (.seq (.reg [⟨(some 12), none, .mov (.s 6)⟩])
 (.cond (.s 12)
 (.seq (.reg [⟨(some 4), none, .mov (.c (.t (.int .i64 0)))⟩])
 .ret)
 .skip))
 (.seq (.reg [⟨(some 4), none, .mov (.c (.t (.int .i64 (-1))))⟩])
 .ret))
 .skip))
 (.seq (.seq (.reg [⟨(some 13), none, .mov (.s 6)⟩])
 (.cond (.s 13)
 (.seq (.reg [⟨(some 4), none, .mov (.c (.t (.int .i64 1)))⟩])
 .ret)
 .skip))
 (.seq (.seq (.reg [⟨(some 14), none, .mov (.s 0)⟩, ⟨(some 15), none, .mov (.s 1)⟩, ⟨(some 16), none, .bin .lss (.s 14) (.s 15)⟩])
 (.cond (.s 16)
 (.seq (.reg [⟨(some 4), none, .mov (.c (.t (.int .i64 (-1))))⟩])
 .ret)
 .skip))
 (.seq (.seq (.reg [⟨(some 17), none, .mov (.s 0)⟩, ⟨(some 18), none, .mov (.s 1)⟩, ⟨(some 19), none, .bin .gtr (.s 17) (.s 18)⟩])
 (.cond (.s 19)
 (.seq (.reg [⟨(some 4), none, .mov (.c (.t (.int .i64 1)))⟩])
 .ret)
 .skip))
 (.seq (.reg [⟨(some 4), none, .mov (.c (.t (.int .i64 0)))⟩])
 .ret)))))))),
 [.slot 4]⟩
theorem ok104 : compF Try.prog 104 [] [] = some ir104 := by kernel_rfl

/-- math/bits.Div64 -/
def ir105 : FInfo := ⟨135,
 (.seq (.reg [⟨(some 6), none, .mov (.c (.t (.int .u64 0)))⟩, ⟨(some 7), none, .mov (.c (.t (.int .u64 0)))⟩])
 (.seq (.seq (.reg [⟨(some 19), none, .mov (.s 2)⟩, ⟨(some 20), none, .bin .eql (.s 19) (.c (.t (.int .u64 0)))⟩])
 (.cond (.s 20)
 (.reg [⟨(some 21), none, .fail⟩, ⟨none, none, .fail⟩])
 .skip))
 (.seq (.seq (.reg [⟨(some 22), none, .mov (.s 2)⟩, ⟨(some 23), none, .mov (.s 0)⟩, ⟨(some 24), none, .bin .leq (.s 22) (.s 23)⟩])
 (.cond (.s 24)
 (.reg [⟨(some 25), none, .fail⟩, ⟨none, none, .fail⟩])
 .skip))
 (.seq (.seq (.reg [⟨(some 26), none, .mov (.s 0)⟩, ⟨(some 27), none, .bin .eql (.s 26) (.c (.t (.int .u64 0)))⟩])
 (.cond (.s 27)
 (.seq (.dreg [⟨(some 28), none, .mov (.s 1)⟩, ⟨(some 29), none, .mov (.s 2)⟩, ⟨(some 30), none, .bin .quo (.s 28) (.s 29)⟩, ⟨(some 31), none, .mov (.s 1)⟩, ⟨(some 32), none, .mov (.s 2)⟩, ⟨(some 33), none, .bin .rem (.s 31) (.s 32)⟩, ⟨(some 6), none, .mov (.s 30)⟩, ⟨(some 7), none, .mov (.s 33)⟩] [0, 0, 3, 0, 0, 24, 7, 127])
 .ret)
 .skip))
 (.seq (.reg [⟨(some 34), none, .mov (.s 2)⟩, ⟨(some 35), none, .call false 111 (.int .i64) [(.s 34)]⟩, ⟨(some 36), none, .conv .u64 (.s 35)⟩, ⟨(some 8), none, .mov (.s 36)⟩])
 (.seq (.reg [⟨(some 37), none, .mov (.s 2)⟩, ⟨(some 38), none, .mov (.s 8)⟩, ⟨(some 39), none, .bin .shl (.s 37) (.s 38)⟩, ⟨(some 2), none, .mov (.s 39)⟩])
 (.seq (.reg [⟨(some 40), none, .mov (.s 2)⟩, ⟨(some 41), none, .bin .shr (.s 40) (.c (.t (.int .u64 32)))⟩, ⟨(some 9), none, .mov (.s 41)⟩])
 (.seq (.reg [⟨(some 42), none, .mov (.s 2)⟩, ⟨(some 43), none, .bin .and (.s 42) (.c (.t (.int .u64 4294967295)))⟩, ⟨(some 10), none, .mov (.s 43)⟩])
 (.seq (.reg [⟨(some 44), none, .mov (.s 0)⟩, ⟨(some 45), none, .mov (.s 8)⟩, ⟨(some 46), none, .bin .shl (.s 44) (.s 45)⟩, ⟨(some 47), none, .mov (.s 1)⟩, ⟨(some 48), none, .mov (.s 8)⟩, ⟨(some 49), none, .bin .sub (.c (.t (.int .u64 64))) (.s 48)⟩, ⟨(some 50), none, .bin .shr (.s 47) (.s 49)⟩, ⟨(some 51), none, .bin .or (.s 46) (.s 50)⟩, ⟨(some 11), none, .mov (.s 51)⟩])
 (.seq (.reg [⟨(some 52), none, .mov (.s 1)⟩, ⟨(some 53), none, .mov (.s 8)⟩, ⟨(some 54), none, .bin .shl (.s 52) (.s 53)⟩, ⟨(some 12), none, .mov (.s 54)⟩])
 (.seq (.reg [⟨(some 55), none, .mov (.s 12)⟩, ⟨(some 56), none, .bin .shr (.s 55) (.c (.t (.int .u64 32)))⟩, ⟨(some 13), none, .mov (.s 56)⟩])
 (.seq (.reg [⟨(some 57), none, .mov (.s 12)⟩, ⟨(some 58), none, .bin .and (.s 57) (.c (.t (.int .u64 4294967295)))⟩, ⟨(some 14), none, .mov (.s 58)⟩])
 (.seq (.reg [⟨(some 59), none, .mov (.s 11)⟩, ⟨(some 60), none, .mov (.s 9)⟩, ⟨(some 61), none, .bin .quo (.s 59) (.s 60)⟩, ⟨(some 15), none, .mov (.s 61)⟩])
 (.seq (.reg [⟨(some 62), none, .mov (.s 11)⟩, ⟨(some 63), none, .mov (.s 15)⟩, ⟨(some 64), none, .mov (.s 9)⟩, ⟨(some 65), none, .bin .mul (.s 63) (.s 64)⟩, ⟨(some 66), none, .bin .sub (.s 62) (.s 65)⟩, ⟨(some 16), none, .mov (.s 66)⟩])
 (.seq (.block 0 (.loop [2, 8, 9, 10, 11, 13, 14, 15, 16] (.seq (.seq (.reg [⟨(some 67), none, .mov (.s 15)⟩, ⟨(some 68), none, .bin .geq (.s 67) (.c (.t (.int .u64 4294967296)))⟩, ⟨(some 69), none, .mov (.s 68)⟩, ⟨(some 70), (some (69, false)), .mov (.s 15)⟩, ⟨(some 71), (some (69, false)), .mov (.s 10)⟩, ⟨(some 72), (some (69, false)), .bin .mul (.s 70) (.s 71)⟩, ⟨(some 73), (some (69, false)), .mov (.s 16)⟩, ⟨(some 74), (some (69, false)), .bin .mul (.c (.t (.int .u64 4294967296))) (.s 73)⟩, ⟨(some 75), (some (69, false)), .mov (.s 13)⟩, ⟨(some 76), (some (69, false)), .bin .add (.s 74) (.s 75)⟩, ⟨(some 77), (some (69, false)), .bin .gtr (.s 72) (.s 76)⟩, ⟨(some 78), none, .pick (.s 69) (.c (.t (.bool true))) (.s 77)⟩])
 (.cond (.s 78)
 .skip
 (.exit 0)))
 (.block 1 (.seq (.reg [⟨(some 79), none, .mov (.s 15)⟩, ⟨(some 80), none, .bin .sub (.s 79) (.c (.t (.int .u64 1)))⟩, ⟨(some 15), none, .mov (.s 80)⟩])
 (.seq (.reg [⟨(some 81), none, .mov (.s 16)⟩, ⟨(some 82), none, .mov (.s 9)⟩, ⟨(some 83), none, .bin .add (.s 81) (.s 82)⟩, ⟨(some 16), none, .mov (.s 83)⟩])
 (.seq (.reg [⟨(some 84), none, .mov (.s 16)⟩, ⟨(some 85), none, .bin .geq (.s 84) (.c (.t (.int .u64 4294967296)))⟩])
 (.cond (.s 85)
 (.exit 0)
 .skip))))))))
 (.seq (.reg [⟨(some 86), none, .mov (.s 11)⟩, ⟨(some 87), none, .bin .mul (.s 86) (.c (.t (.int .u64 4294967296)))⟩, ⟨(some 88), none, .mov (.s 13)⟩, ⟨(some 89), none, .bin .add (.s 87) (.s 88)⟩, ⟨(some 90), none, .mov (.s 15)⟩, ⟨(some 91), none, .mov (.s 2)⟩, ⟨(some 92), none, .bin .mul (.s 90) (.s 91)⟩, ⟨(some 93), none, .bin .sub (.s 89) (.s 92)⟩, ⟨(some 17), none, .mov (.s 93)⟩])
 (.seq (.reg [⟨(some 94), none, .mov (.s 17)⟩, ⟨(some 95), none, .mov (.s 9)⟩, ⟨(some 96), none, .bin .quo (.s 94) (.s 95)⟩, ⟨(some 18), none, .mov (.s 96)⟩])
 (.seq (.reg [⟨(some 97), none, .mov (.s 17)⟩, ⟨(some 98), none, .mov (.s 18)⟩, ⟨(some 99), none, .mov (.s 9)⟩, ⟨(some 100), none, .bin .mul (.s 98) (.s 99)⟩, ⟨(some 101), none, .bin .sub (.s 97) (.s 100)⟩, ⟨(some 16), none, .mov (.s 101)⟩])
 (.seq (.block 2 (.loop [2, 8, 9, 10, 14, 15, 16, 17, 18] (.seq (.seq (.reg [⟨(some 102), none, .mov (.s 18)⟩, ⟨(some 103), none, .bin .geq (.s 102) (.c (.t (.int .u64 4294967296)))⟩, ⟨(some 104), none, .mov (.s 103)⟩, ⟨(some 105), (some (104, false)), .mov (.s 18)⟩, ⟨(some 106), (some (104, false)), .mov (.s 10)⟩, ⟨(some 107), (some (104, false)), .bin .mul (.s 105) (.s 106)⟩, ⟨(some 108), (some (104, false)), .mov (.s 16)⟩, ⟨(some 109), (some (104, false)), .bin .mul (.c (.t (.int .u64 4294967296))) (.s 108)⟩, ⟨(some 110), (some (104, false)), .mov (.s 14)⟩, ⟨(some 111), (some (104, false)), .bin .add (.s 109) (.s 110)⟩, ⟨(some 112), (some (104, false)), .bin .gtr (.s 107) (.s 111)⟩, ⟨(some 113), none, .pick (.s 104) (.c (.t (.bool true))) (.s 112)⟩])
 (.cond (.s 113)
 .skip
 (.exit 2)))
 (.block 3 (.seq (.reg [⟨(some 114), none, .mov (.s 18)⟩, ⟨(some 115), none, .bin .sub (.s 114) (.c (.t (.int .u64 1)))⟩, ⟨(some 18), none, .mov (.s 115)⟩])
 (.seq (.reg [⟨(some 116), none, .mov (.s 16)⟩, ⟨(some 117), none, .mov (.s 9)⟩, ⟨(some 118), none, .bin .add (.s 116) (.s 117)⟩, ⟨(some 16), none, .mov (.s 118)⟩])
 (.seq (.reg [⟨(some 119), none, .mov (.s 16)⟩, ⟨(some 120), none, .bin .geq (.s 119) (.c (.t (.int .u64 4294967296)))⟩])
 (.cond (.s 120)
 (.exit 2)
 .skip))))))))
 (.seq (.reg [⟨(some 121), none, .mov (.s 15)⟩, ⟨(some 122), none, .bin .mul (.s 121) (.c (.t (.int .u64 4294967296)))⟩, ⟨(some 123), none, .mov (.s 18)⟩, ⟨(some 124), none, .bin .add (.s 122) (.s 123)⟩, ⟨(some 125), none, .mov (.s 17)⟩, ⟨(some 126), none, .bin .mul (.s 125) (.c (.t (.int .u64 4294967296)))⟩, ⟨(some 127), none, .mov (.s 14)⟩, ⟨(some 128), none, .bin .add (.s 126) (.s 127)⟩, ⟨(some 129), none, .mov (.s 18)⟩, ⟨(some 130), none, .mov (.s 2)⟩, ⟨(some 131), none, .bin .mul (.s 129) (.s 130)⟩, ⟨(some 132), none, .bin .sub (.s 128) (.s 131)⟩, ⟨(some 133), none, .mov (.s 8)⟩, ⟨(some 134), none, .bin .shr (.s 132) (.s 133)⟩, ⟨(some 6), none, .mov (.s 124)⟩, ⟨(some 7), none, .mov (.s 134)⟩])
 .ret)))))))))))))))))))),
 [.slot 6, .slot 7]⟩
theorem ok105 : compF Try.prog 105 [[2, 8, 9, 10, 11, 13, 14, 15, 16], [2, 8, 9, 10, 14, 15, 16, 17, 18]] [] = some ir105 := by kernel_rfl

/-- (tenet/quot.wide).over -/
def ir108 : FInfo := ⟨30,
 (.seq (.reg [⟨(some 2), none, .box (.agg [.bool, (.int .u64), (.int .u64)]) (.s 0)⟩, ⟨(some 4), none, .new (.agg [.bool, (.int .u64), (.int .u64)]) (.t (.agg [(.bool false), (.int .u64 0), (.int .u64 0)]))⟩])
 (.seq (.dreg [⟨(some 9), none, .fa 1 (.s 2)⟩, ⟨(some 10), none, .ld (.int .u64) (.s 9)⟩, ⟨(some 11), none, .mov (.s 1)⟩, ⟨(some 12), none, .bin .quo (.s 10) (.s 11)⟩, ⟨(some 13), none, .fa 1 (.s 2)⟩, ⟨(some 14), none, .ld (.int .u64) (.s 13)⟩, ⟨(some 15), none, .mov (.s 1)⟩, ⟨(some 16), none, .bin .rem (.s 14) (.s 15)⟩, ⟨(some 5), none, .mov (.s 12)⟩, ⟨(some 6), none, .mov (.s 16)⟩] [0, 1, 0, 7, 0, 16, 0, 112, 15, 511])
 (.seq (.reg [⟨(some 18), none, .mov (.s 6)⟩, ⟨(some 19), none, .fa 2 (.s 2)⟩, ⟨(some 20), none, .ld (.int .u64) (.s 19)⟩, ⟨(some 21), none, .mov (.s 1)⟩, ⟨(some 22), none, .call false 105 (.tup [(.int .u64), (.int .u64)]) [(.s 18), (.s 20), (.s 21)]⟩, ⟨(some 17), none, .mov (.s 22)⟩, ⟨(some 23), none, .ext 0 (.s 17)⟩, ⟨(some 24), none, .ext 1 (.s 17)⟩, ⟨(some 7), none, .mov (.s 23)⟩, ⟨(some 8), none, .mov (.s 24)⟩])
 (.seq (.reg [⟨(some 25), none, .fa 0 (.s 2)⟩, ⟨(some 26), none, .ld .bool (.s 25)⟩, ⟨(some 27), none, .mov (.s 5)⟩, ⟨(some 28), none, .mov (.s 7)⟩, ⟨(some 29), none, .build [(.t (.bool false)), (.t (.int .u64 0)), (.t (.int .u64 0))] [(0, .bool, (.s 26)), (1, (.int .u64), (.s 27)), (2, (.int .u64), (.s 28))]⟩, ⟨none, none, .st (.agg [.bool, (.int .u64), (.int .u64)]) (.s 4) (.s 29)⟩])
 .ret)))),
 [.cell 4 (.agg [.bool, (.int .u64), (.int .u64)])]⟩
theorem ok108 : compF Try.prog 108 [] [] = some ir108 := by kernel_rfl

/-- (tenet/quot.wide).mod -/
def ir109 : FInfo := ⟨11,
 (.seq (.reg [⟨(some 2), none, .box (.agg [.bool, (.int .u64), (.int .u64)]) (.s 0)⟩, ⟨(some 4), none, .mov (.c (.t (.int .u64 0)))⟩])
 (.seq (.reg [⟨(some 5), none, .fa 1 (.s 2)⟩, ⟨(some 6), none, .ld (.int .u64) (.s 5)⟩, ⟨(some 7), none, .fa 2 (.s 2)⟩, ⟨(some 8), none, .ld (.int .u64) (.s 7)⟩, ⟨(some 9), none, .mov (.s 1)⟩, ⟨(some 10), none, .call false 123 (.int .u64) [(.s 6), (.s 8), (.s 9)]⟩, ⟨(some 4), none, .mov (.s 10)⟩])
 .ret)),
 [.slot 4]⟩
theorem ok109 : compF Try.prog 109 [] [] = some ir109 := by kernel_rfl

/-- cmp.isNaN[uint64] -/
def ir110 : FInfo := ⟨6,
 (.seq (.reg [⟨(some 2), none, .mov (.c (.t (.bool false)))⟩])
 (.seq (.reg [⟨(some 3), none, .mov (.s 0)⟩, ⟨(some 4), none, .mov (.s 0)⟩, ⟨(some 5), none, .bin .neq (.s 3) (.s 4)⟩, ⟨(some 2), none, .mov (.s 5)⟩])
 .ret)),
 [.slot 2]⟩
theorem ok110 : compF Try.prog 110 [] [] = some ir110 := by kernel_rfl

/-- math/bits.LeadingZeros64 -/
def ir111 : FInfo := ⟨6,
 (.seq (.reg [⟨(some 2), none, .mov (.c (.t (.int .i64 0)))⟩])
 (.seq (.reg [⟨(some 3), none, .mov (.s 0)⟩, ⟨(some 4), none, .call false 122 (.int .i64) [(.s 3)]⟩, ⟨(some 5), none, .bin .sub (.c (.t (.int .i64 64))) (.s 4)⟩, ⟨(some 2), none, .mov (.s 5)⟩])
 .ret)),
 [.slot 2]⟩
theorem ok111 : compF Try.prog 111 [] [] = some ir111 := by kernel_rfl

/-- math/bits.Len64 -/
def ir122 : FInfo := ⟨25,
 (.seq (.reg [⟨(some 2), none, .mov (.c (.t (.int .i64 0)))⟩])
 (.seq (.seq (.reg [⟨(some 3), none, .mov (.s 0)⟩, ⟨(some 4), none, .bin .geq (.s 3) (.c (.t (.int .u64 4294967296)))⟩])
 (.cond (.s 4)
 (.seq (.reg [⟨(some 5), none, .mov (.s 0)⟩, ⟨(some 6), none, .bin .shr (.s 5) (.c (.t (.int .u64 32)))⟩, ⟨(some 0), none, .mov (.s 6)⟩])
 (.reg [⟨(some 2), none, .mov (.c (.t (.int .i64 32)))⟩]))
 .skip))
 (.seq (.seq (.reg [⟨(some 7), none, .mov (.s 0)⟩, ⟨(some 8), none, .bin .geq (.s 7) (.c (.t (.int .u64 65536)))⟩])
 (.cond (.s 8)
 (.seq (.reg [⟨(some 9), none, .mov (.s 0)⟩, ⟨(some 10), none, .bin .shr (.s 9) (.c (.t (.int .u64 16)))⟩, ⟨(some 0), none, .mov (.s 10)⟩])
 (.reg [⟨(some 11), none, .mov (.s 2)⟩, ⟨(some 12), none, .bin .add (.s 11) (.c (.t (.int .i64 16)))⟩, ⟨(some 2), none, .mov (.s 12)⟩]))
 .skip))
 (.seq (.seq (.reg [⟨(some 13), none, .mov (.s 0)⟩, ⟨(some 14), none, .bin .geq (.s 13) (.c (.t (.int .u64 256)))⟩])
 (.cond (.s 14)
 (.seq (.reg [⟨(some 15), none, .mov (.s 0)⟩, ⟨(some 16), none, .bin .shr (.s 15) (.c (.t (.int .u64 8)))⟩, ⟨(some 0), none, .mov (.s 16)⟩])
 (.reg [⟨(some 17), none, .mov (.s 2)⟩, ⟨(some 18), none, .bin .add (.s 17) (.c (.t (.int .i64 8)))⟩, ⟨(some 2), none, .mov (.s 18)⟩]))
 .skip))
 (.seq (.reg [⟨(some 19), none, .mov (.s 2)⟩, ⟨(some 20), none, .mov (.s 0)⟩, ⟨(some 21), none, .conv .u8 (.s 20)⟩, ⟨(some 22), none, .ixs (.c (.t (.str [0, 1, 2, 2, 3, 3, 3, 3, 4, 4, 4, 4, 4, 4, 4, 4, 5, 5, 5, 5, 5, 5, 5, 5, 5, 5, 5, 5, 5, 5, 5, 5, 6, 6, 6, 6, 6, 6, 6, 6, 6, 6, 6, 6, 6, 6, 6, 6, 6, 6, 6, 6, 6, 6, 6, 6, 6, 6, 6, 6, 6, 6, 6, 6, 7, 7, 7, 7, 7, 7, 7, 7, 7, 7, 7, 7, 7, 7, 7, 7, 7, 7, 7, 7, 7, 7, 7, 7, 7, 7, 7, 7, 7, 7, 7, 7, 7, 7, 7, 7, 7, 7, 7, 7, 7, 7, 7, 7, 7, 7, 7, 7, 7, 7, 7, 7, 7, 7, 7, 7, 7, 7, 7, 7, 7, 7, 7, 7, 8, 8, 8, 8, 8, 8, 8, 8, 8, 8, 8, 8, 8, 8, 8, 8, 8, 8, 8, 8, 8, 8, 8, 8, 8, 8, 8, 8, 8, 8, 8, 8, 8, 8, 8, 8, 8, 8, 8, 8, 8, 8, 8, 8, 8, 8, 8, 8, 8, 8, 8, 8, 8, 8, 8, 8, 8, 8, 8, 8, 8, 8, 8, 8, 8, 8, 8, 8, 8, 8, 8, 8, 8, 8, 8, 8, 8, 8, 8, 8, 8, 8, 8, 8, 8, 8, 8, 8, 8, 8, 8, 8, 8, 8, 8, 8, 8, 8, 8, 8, 8, 8, 8, 8, 8, 8, 8, 8, 8, 8, 8, 8, 8, 8, 8, 8, 8, 8, 8, 8, 8, 8, 8, 8, 8, 8, 8, 8]))) (.s 21)⟩, ⟨(some 23), none, .conv .i64 (.s 22)⟩, ⟨(some 24), none, .bin .add (.s 19) (.s 23)⟩, ⟨(some 2), none, .mov (.s 24)⟩])
 .ret))))),
 [.slot 2]⟩
theorem ok122 : compF Try.prog 122 [] [] = some ir122 := by kernel_rfl

/-- math/bits.Rem64 -/
def ir123 : FInfo := ⟨19,
 (.seq (.reg [⟨(some 6), none, .mov (.c (.t (.int .u64 0)))⟩])
 (.seq (.reg [⟨(some 10), none, .mov (.s 0)⟩, ⟨(some 11), none, .mov (.s 2)⟩, ⟨(some 12), none, .bin .rem (.s 10) (.s 11)⟩, ⟨(some 13), none, .mov (.s 1)⟩, ⟨(some 14), none, .mov (.s 2)⟩, ⟨(some 15), none, .call false 105 (.tup [(.int .u64), (.int .u64)]) [(.s 12), (.s 13), (.s 14)]⟩, ⟨(some 9), none, .mov (.s 15)⟩, ⟨(some 16), none, .ext 0 (.s 9)⟩, ⟨(some 17), none, .ext 1 (.s 9)⟩, ⟨(some 7), none, .mov (.s 16)⟩, ⟨(some 8), none, .mov (.s 17)⟩])
 (.seq (.reg [⟨(some 18), none, .mov (.s 8)⟩, ⟨(some 6), none, .mov (.s 18)⟩])
 .ret))),
 [.slot 6]⟩
theorem ok123 : compF Try.prog 123 [] [] = some ir123 := by kernel_rfl


end Go.Proofs.Bw.Qb
