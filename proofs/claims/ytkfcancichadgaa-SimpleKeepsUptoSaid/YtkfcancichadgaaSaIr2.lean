/-
  THE RECKONED CODE, part 2: printed by program.
-/
import Derived.Test.YtkfcancichadgaaRows
import Derived.Test.YtkfcancichadgaaAw4
set_option linter.unusedSimpArgs false
set_option linter.unusedVariables false
set_option maxRecDepth 100000
namespace Go.Proofs.Aw.Sa
open Go.Proofs

/-- tenet/simple.given -/
def ir39 : FInfo := ⟨17,
 (.seq (.reg [⟨(some 3), none, .box (.agg [(.int .i64), (.int .i64), .str, .slc, .slc]) (.s 1)⟩, ⟨(some 4), none, .mov (.c (.t (.bool false)))⟩])
 (.seq (.reg [⟨(some 5), none, .mov (.s 0)⟩, ⟨(some 6), none, .len (.s 5)⟩, ⟨(some 7), none, .bin .leq (.s 6) (.c (.t (.int .i64 100)))⟩, ⟨(some 8), none, .mov (.s 7)⟩, ⟨(some 9), (some (8, true)), .mov (.s 0)⟩, ⟨(some 10), (some (8, true)), .call false 58 .bool [(.s 9), (.f 59)]⟩, ⟨(some 11), (some (8, true)), .un .not (.s 10)⟩, ⟨(some 12), none, .pick (.s 8) (.s 11) (.c (.t (.bool false)))⟩, ⟨(some 13), none, .mov (.s 12)⟩, ⟨(some 14), (some (13, true)), .ld (.agg [(.int .i64), (.int .i64), .str, .slc, .slc]) (.s 3)⟩, ⟨(some 15), (some (13, true)), .call false 30 .bool [(.s 14)]⟩, ⟨(some 16), none, .pick (.s 13) (.s 15) (.c (.t (.bool false)))⟩, ⟨(some 4), none, .mov (.s 16)⟩])
 .ret)),
 [.slot 4]⟩
theorem ok39 : compF Try.prog 39 [] [] = some ir39 := by kernel_rfl

/-- tenet/simple.typed -/
def ir40 : FInfo := ⟨62,
 (.seq (.reg [⟨(some 3), none, .box (.agg [(.int .i64), (.int .i64), .str, .slc, .slc]) (.s 1)⟩, ⟨(some 4), none, .new (.agg [.str, .slc]) (.agg [(.t (.str [])), .nilS])⟩, ⟨(some 5), none, .mov (.c .nilS)⟩, ⟨(some 6), none, .mov (.c (.t (.bool false)))⟩])
 (.seq (.reg [⟨(some 16), none, .mov (.s 0)⟩, ⟨(some 7), none, .mov (.s 16)⟩])
 (.seq (.seq (.reg [⟨(some 17), none, .fa 0 (.s 3)⟩, ⟨(some 18), none, .ld (.int .i64) (.s 17)⟩, ⟨(some 19), none, .bin .eql (.s 18) (.c (.t (.int .i64 2)))⟩])
 (.cond (.s 19)
 (.dreg [⟨(some 20), none, .mov (.s 0)⟩, ⟨(some 21), none, .call true 61 .slc [(.s 20)]⟩, ⟨(some 22), none, .fa 2 (.s 3)⟩, ⟨(some 23), none, .ld (.agg [.str, .slc]) (.s 22)⟩, ⟨(some 24), none, .bsl (.agg [.str, .slc]) (.agg [(.t (.str [])), .nilS]) 1 [(0, (.s 23))]⟩, ⟨(some 25), none, .app (.agg [.str, .slc]) 40 (.s 21) (.s 24)⟩, ⟨(some 7), none, .mov (.s 25)⟩] [0, 1, 0, 4, 12, 31, 63])
 .skip))
 (.seq (.reg [⟨(some 8), none, .mov (.c .nilS)⟩])
 (.seq (.seq (.reg [⟨(some 26), none, .fa 4 (.s 3)⟩, ⟨(some 27), none, .ld .slc (.s 26)⟩, ⟨(some 28), none, .len (.s 27)⟩, ⟨(some 29), none, .mov (.c (.t (.int .i64 0)))⟩])
 (.block 0 (.loop [0, 3, 4, 7, 8, 27, 28, 29] (.seq (.reg [⟨(some 30), none, .bin .lss (.s 29) (.s 28)⟩])
 (.seq (.cond (.s 30)
 .skip
 (.exit 0))
 (.seq (.block 1 (.seq (.reg [⟨(some 31), none, .mov (.s 29)⟩, ⟨(some 32), none, .ia (.agg [(.int .i64), (.int .i64), .str, .slc, .slc]) (.s 27) (.s 29)⟩, ⟨(some 33), none, .ld (.agg [(.int .i64), (.int .i64), .str, .slc, .slc]) (.s 32)⟩, ⟨(some 10), none, .new (.agg [(.int .i64), (.int .i64), .str, .slc, .slc]) (.agg [(.t (.int .i64 0)), (.t (.int .i64 0)), (.t (.str [])), .nilS, .nilS])⟩, ⟨(some 9), none, .mov (.s 31)⟩, ⟨none, none, .st (.agg [(.int .i64), (.int .i64), .str, .slc, .slc]) (.s 10) (.s 33)⟩])
 (.seq (.reg [⟨(some 35), none, .mov (.s 7)⟩, ⟨(some 36), none, .ld (.agg [(.int .i64), (.int .i64), .str, .slc, .slc]) (.s 10)⟩, ⟨(some 37), none, .call false 40 (.tup [(.agg [.str, .slc]), .slc, .bool]) [(.s 35), (.s 36)]⟩, ⟨(some 34), none, .mov (.s 37)⟩, ⟨(some 38), none, .ext 0 (.s 34)⟩, ⟨(some 39), none, .ext 1 (.s 34)⟩, ⟨(some 40), none, .ext 2 (.s 34)⟩, ⟨(some 11), none, .new (.agg [.str, .slc]) (.agg [(.t (.str [])), .nilS])⟩, ⟨none, none, .st (.agg [.str, .slc]) (.s 11) (.s 38)⟩, ⟨(some 12), none, .mov (.s 39)⟩, ⟨(some 13), none, .mov (.s 40)⟩])
 (.seq (.seq (.reg [⟨(some 41), none, .mov (.s 13)⟩, ⟨(some 42), none, .un .not (.s 41)⟩])
 (.cond (.s 42)
 (.seq (.reg [⟨(some 43), none, .build [(.t (.str [])), .nilS] []⟩, ⟨(some 44), none, .mov (.s 9)⟩, ⟨(some 45), none, .bsl (.int .i64) (.t (.int .i64 0)) 1 [(0, (.s 44))]⟩, ⟨(some 46), none, .mov (.s 12)⟩, ⟨(some 47), none, .app (.int .i64) 8 (.s 45) (.s 46)⟩, ⟨none, none, .st (.agg [.str, .slc]) (.s 4) (.s 43)⟩, ⟨(some 5), none, .mov (.s 47)⟩, ⟨(some 6), none, .mov (.c (.t (.bool false)))⟩])
 .ret)
 .skip))
 (.reg [⟨(some 48), none, .mov (.s 8)⟩, ⟨(some 49), none, .ld (.agg [.str, .slc]) (.s 11)⟩, ⟨(some 50), none, .bsl (.agg [.str, .slc]) (.agg [(.t (.str [])), .nilS]) 1 [(0, (.s 49))]⟩, ⟨(some 51), none, .app (.agg [.str, .slc]) 40 (.s 48) (.s 50)⟩, ⟨(some 8), none, .mov (.s 51)⟩])))))
 (.reg [⟨(some 52), none, .bin .add (.s 29) (.c (.t (.int .i64 1)))⟩, ⟨(some 29), none, .mov (.s 52)⟩])))))))
 (.seq (.reg [⟨(some 54), none, .mov (.s 0)⟩, ⟨(some 55), none, .ld (.agg [(.int .i64), (.int .i64), .str, .slc, .slc]) (.s 3)⟩, ⟨(some 56), none, .mov (.s 8)⟩, ⟨(some 57), none, .call false 62 (.tup [(.agg [.str, .slc]), .bool]) [(.s 54), (.s 55), (.s 56)]⟩, ⟨(some 53), none, .mov (.s 57)⟩, ⟨(some 58), none, .ext 0 (.s 53)⟩, ⟨(some 59), none, .ext 1 (.s 53)⟩, ⟨(some 14), none, .new (.agg [.str, .slc]) (.agg [(.t (.str [])), .nilS])⟩, ⟨none, none, .st (.agg [.str, .slc]) (.s 14) (.s 58)⟩, ⟨(some 15), none, .mov (.s 59)⟩])
 (.seq (.reg [⟨(some 60), none, .ld (.agg [.str, .slc]) (.s 14)⟩, ⟨(some 61), none, .mov (.s 15)⟩, ⟨none, none, .st (.agg [.str, .slc]) (.s 4) (.s 60)⟩, ⟨(some 5), none, .mov (.c .nilS)⟩, ⟨(some 6), none, .mov (.s 61)⟩])
 .ret))))))),
 [.cell 4 (.agg [.str, .slc]), .slot 5, .slot 6]⟩
theorem ok40 : compF Try.prog 40 [[0, 3, 4, 7, 8, 27, 28, 29]] [21] = some ir40 := by kernel_rfl

/-- tenet/simple.cloneType -/
def ir41 : FInfo := ⟨26,
 (.seq (.reg [⟨(some 1), none, .box (.agg [.str, .slc]) (.s 0)⟩, ⟨(some 2), none, .new (.agg [.str, .slc]) (.agg [(.t (.str [])), .nilS])⟩])
 (.seq (.reg [⟨(some 4), none, .fa 1 (.s 1)⟩, ⟨(some 5), none, .ld .slc (.s 4)⟩, ⟨(some 6), none, .clone (.agg [.str, .slc]) 40 (.s 5)⟩, ⟨(some 7), none, .fa 1 (.s 1)⟩, ⟨none, none, .st .slc (.s 7) (.s 6)⟩])
 (.seq (.seq (.reg [⟨(some 8), none, .fa 1 (.s 1)⟩, ⟨(some 9), none, .ld .slc (.s 8)⟩, ⟨(some 10), none, .len (.s 9)⟩, ⟨(some 11), none, .mov (.c (.t (.int .i64 0)))⟩])
 (.block 0 (.loop [1, 2, 10, 11] (.seq (.reg [⟨(some 12), none, .bin .lss (.s 11) (.s 10)⟩])
 (.seq (.cond (.s 12)
 .skip
 (.exit 0))
 (.seq (.block 1 (.seq (.reg [⟨(some 13), none, .mov (.s 11)⟩, ⟨(some 3), none, .mov (.s 13)⟩])
 (.dreg [⟨(some 14), none, .fa 1 (.s 1)⟩, ⟨(some 15), none, .ld .slc (.s 14)⟩, ⟨(some 16), none, .mov (.s 3)⟩, ⟨(some 17), none, .fa 1 (.s 1)⟩, ⟨(some 18), none, .ld .slc (.s 17)⟩, ⟨(some 19), none, .mov (.s 3)⟩, ⟨(some 20), none, .ia (.agg [.str, .slc]) (.s 18) (.s 19)⟩, ⟨(some 21), none, .ld (.agg [.str, .slc]) (.s 20)⟩, ⟨(some 22), none, .call false 41 (.agg [.str, .slc]) [(.s 21)]⟩, ⟨(some 23), none, .ia (.agg [.str, .slc]) (.s 15) (.s 16)⟩, ⟨none, none, .st (.agg [.str, .slc]) (.s 23) (.s 22)⟩] [0, 1, 0, 0, 8, 0, 56, 120, 248, 511, 1023])))
 (.reg [⟨(some 24), none, .bin .add (.s 11) (.c (.t (.int .i64 1)))⟩, ⟨(some 11), none, .mov (.s 24)⟩])))))))
 (.seq (.reg [⟨(some 25), none, .ld (.agg [.str, .slc]) (.s 1)⟩, ⟨none, none, .st (.agg [.str, .slc]) (.s 2) (.s 25)⟩])
 .ret)))),
 [.cell 2 (.agg [.str, .slc])]⟩
theorem ok41 : compF Try.prog 41 [[1, 2, 10, 11]] [] = some ir41 := by kernel_rfl

/-- tenet/simple.clone -/
def ir42 : FInfo := ⟨30,
 (.seq (.reg [⟨(some 1), none, .box (.agg [(.int .i64), (.int .i64), .str, .slc, .slc]) (.s 0)⟩, ⟨(some 2), none, .new (.agg [(.int .i64), (.int .i64), .str, .slc, .slc]) (.agg [(.t (.int .i64 0)), (.t (.int .i64 0)), (.t (.str [])), .nilS, .nilS])⟩])
 (.seq (.reg [⟨(some 4), none, .fa 2 (.s 1)⟩, ⟨(some 5), none, .ld (.agg [.str, .slc]) (.s 4)⟩, ⟨(some 6), none, .call false 41 (.agg [.str, .slc]) [(.s 5)]⟩, ⟨(some 7), none, .fa 2 (.s 1)⟩, ⟨none, none, .st (.agg [.str, .slc]) (.s 7) (.s 6)⟩])
 (.seq (.reg [⟨(some 8), none, .fa 4 (.s 1)⟩, ⟨(some 9), none, .ld .slc (.s 8)⟩, ⟨(some 10), none, .clone (.agg [(.int .i64), (.int .i64), .str, .slc, .slc]) 80 (.s 9)⟩, ⟨(some 11), none, .fa 4 (.s 1)⟩, ⟨none, none, .st .slc (.s 11) (.s 10)⟩])
 (.seq (.seq (.reg [⟨(some 12), none, .fa 4 (.s 1)⟩, ⟨(some 13), none, .ld .slc (.s 12)⟩, ⟨(some 14), none, .len (.s 13)⟩, ⟨(some 15), none, .mov (.c (.t (.int .i64 0)))⟩])
 (.block 0 (.loop [1, 2, 14, 15] (.seq (.reg [⟨(some 16), none, .bin .lss (.s 15) (.s 14)⟩])
 (.seq (.cond (.s 16)
 .skip
 (.exit 0))
 (.seq (.block 1 (.seq (.reg [⟨(some 17), none, .mov (.s 15)⟩, ⟨(some 3), none, .mov (.s 17)⟩])
 (.dreg [⟨(some 18), none, .fa 4 (.s 1)⟩, ⟨(some 19), none, .ld .slc (.s 18)⟩, ⟨(some 20), none, .mov (.s 3)⟩, ⟨(some 21), none, .fa 4 (.s 1)⟩, ⟨(some 22), none, .ld .slc (.s 21)⟩, ⟨(some 23), none, .mov (.s 3)⟩, ⟨(some 24), none, .ia (.agg [(.int .i64), (.int .i64), .str, .slc, .slc]) (.s 22) (.s 23)⟩, ⟨(some 25), none, .ld (.agg [(.int .i64), (.int .i64), .str, .slc, .slc]) (.s 24)⟩, ⟨(some 26), none, .call false 42 (.agg [(.int .i64), (.int .i64), .str, .slc, .slc]) [(.s 25)]⟩, ⟨(some 27), none, .ia (.agg [(.int .i64), (.int .i64), .str, .slc, .slc]) (.s 19) (.s 20)⟩, ⟨none, none, .st (.agg [(.int .i64), (.int .i64), .str, .slc, .slc]) (.s 27) (.s 26)⟩] [0, 1, 0, 0, 8, 0, 56, 120, 248, 511, 1023])))
 (.reg [⟨(some 28), none, .bin .add (.s 15) (.c (.t (.int .i64 1)))⟩, ⟨(some 15), none, .mov (.s 28)⟩])))))))
 (.seq (.reg [⟨(some 29), none, .ld (.agg [(.int .i64), (.int .i64), .str, .slc, .slc]) (.s 1)⟩, ⟨none, none, .st (.agg [(.int .i64), (.int .i64), .str, .slc, .slc]) (.s 2) (.s 29)⟩])
 .ret))))),
 [.cell 2 (.agg [(.int .i64), (.int .i64), .str, .slc, .slc])]⟩
theorem ok42 : compF Try.prog 42 [[1, 2, 14, 15]] [] = some ir42 := by kernel_rfl

/-- tenet/simple.mapped -/
def ir43 : FInfo := ⟨59,
 (.seq (.reg [⟨(some 3), none, .box (.agg [(.int .i64), (.int .i64), .str, .slc, .slc]) (.s 0)⟩, ⟨(some 6), none, .new (.agg [(.int .i64), (.int .i64), .str, .slc, .slc]) (.agg [(.t (.int .i64 0)), (.t (.int .i64 0)), (.t (.str [])), .nilS, .nilS])⟩])
 (.seq (.reg [⟨(some 9), none, .fa 2 (.s 3)⟩, ⟨(some 10), none, .ld (.agg [.str, .slc]) (.s 9)⟩, ⟨(some 11), none, .call false 41 (.agg [.str, .slc]) [(.s 10)]⟩, ⟨(some 12), none, .fa 2 (.s 3)⟩, ⟨none, none, .st (.agg [.str, .slc]) (.s 12) (.s 11)⟩])
 (.seq (.reg [⟨(some 13), none, .fa 4 (.s 3)⟩, ⟨(some 14), none, .ld .slc (.s 13)⟩, ⟨(some 15), none, .clone (.agg [(.int .i64), (.int .i64), .str, .slc, .slc]) 80 (.s 14)⟩, ⟨(some 16), none, .fa 4 (.s 3)⟩, ⟨none, none, .st .slc (.s 16) (.s 15)⟩])
 (.seq (.reg [⟨(some 17), none, .mov (.s 1)⟩, ⟨(some 7), none, .mov (.s 17)⟩])
 (.seq (.seq (.reg [⟨(some 18), none, .ld (.agg [(.int .i64), (.int .i64), .str, .slc, .slc]) (.s 3)⟩, ⟨(some 19), none, .call false 64 .bool [(.s 18), (.c (.t (.int .i64 2)))]⟩])
 (.cond (.s 19)
 (.reg [⟨(some 20), none, .mov (.s 7)⟩, ⟨(some 21), none, .bin .add (.s 20) (.c (.t (.int .i64 1)))⟩, ⟨(some 7), none, .mov (.s 21)⟩])
 .skip))
 (.seq (.seq (.reg [⟨(some 22), none, .fa 4 (.s 3)⟩, ⟨(some 23), none, .ld .slc (.s 22)⟩, ⟨(some 24), none, .len (.s 23)⟩, ⟨(some 25), none, .mov (.c (.t (.int .i64 0)))⟩])
 (.block 0 (.loop [1, 2, 3, 6, 7, 24, 25] (.seq (.reg [⟨(some 26), none, .bin .lss (.s 25) (.s 24)⟩])
 (.seq (.cond (.s 26)
 .skip
 (.exit 0))
 (.seq (.block 1 (.seq (.reg [⟨(some 27), none, .mov (.s 25)⟩, ⟨(some 8), none, .mov (.s 27)⟩])
 (.dreg [⟨(some 28), none, .fa 4 (.s 3)⟩, ⟨(some 29), none, .ld .slc (.s 28)⟩, ⟨(some 30), none, .mov (.s 8)⟩, ⟨(some 31), none, .fa 4 (.s 3)⟩, ⟨(some 32), none, .ld .slc (.s 31)⟩, ⟨(some 33), none, .mov (.s 8)⟩, ⟨(some 34), none, .ia (.agg [(.int .i64), (.int .i64), .str, .slc, .slc]) (.s 32) (.s 33)⟩, ⟨(some 35), none, .ld (.agg [(.int .i64), (.int .i64), .str, .slc, .slc]) (.s 34)⟩, ⟨(some 36), none, .mov (.s 7)⟩, ⟨(some 37), none, .mov (.s 2)⟩, ⟨(some 38), none, .call false 43 (.agg [(.int .i64), (.int .i64), .str, .slc, .slc]) [(.s 35), (.s 36), (.s 37)]⟩, ⟨(some 39), none, .ia (.agg [(.int .i64), (.int .i64), .str, .slc, .slc]) (.s 29) (.s 30)⟩, ⟨none, none, .st (.agg [(.int .i64), (.int .i64), .str, .slc, .slc]) (.s 39) (.s 38)⟩] [0, 1, 0, 0, 8, 0, 56, 120, 0, 0, 1016, 2047, 4095])))
 (.reg [⟨(some 40), none, .bin .add (.s 25) (.c (.t (.int .i64 1)))⟩, ⟨(some 25), none, .mov (.s 40)⟩])))))))
 (.seq (.seq (.reg [⟨(some 41), none, .fa 0 (.s 3)⟩, ⟨(some 42), none, .ld (.int .i64) (.s 41)⟩, ⟨(some 43), none, .bin .eql (.s 42) (.c (.t (.int .i64 1)))⟩, ⟨(some 44), none, .mov (.s 43)⟩, ⟨(some 45), (some (44, true)), .fa 1 (.s 3)⟩, ⟨(some 46), (some (44, true)), .ld (.int .i64) (.s 45)⟩, ⟨(some 47), (some (44, true)), .bin .geq (.s 46) (.c (.t (.int .i64 0)))⟩, ⟨(some 48), none, .pick (.s 44) (.s 47) (.c (.t (.bool false)))⟩, ⟨(some 49), none, .mov (.s 48)⟩, ⟨(some 50), (some (49, true)), .fa 1 (.s 3)⟩, ⟨(some 51), (some (49, true)), .ld (.int .i64) (.s 50)⟩, ⟨(some 52), (some (49, true)), .bin .leq (.s 51) (.c (.t (.int .i64 2147483648)))⟩, ⟨(some 53), none, .pick (.s 49) (.s 52) (.c (.t (.bool false)))⟩])
 (.cond (.s 53)
 (.seq (.reg [⟨(some 54), none, .mov (.s 2)⟩, ⟨(some 55), none, .ld (.agg [(.int .i64), (.int .i64), .str, .slc, .slc]) (.s 3)⟩, ⟨(some 56), none, .mov (.s 1)⟩, ⟨(some 57), none, .callv (.s 54) (.agg [(.int .i64), (.int .i64), .str, .slc, .slc]) [(.s 55), (.s 56)]⟩, ⟨none, none, .st (.agg [(.int .i64), (.int .i64), .str, .slc, .slc]) (.s 6) (.s 57)⟩])
 .ret)
 .skip))
 (.seq (.reg [⟨(some 58), none, .ld (.agg [(.int .i64), (.int .i64), .str, .slc, .slc]) (.s 3)⟩, ⟨none, none, .st (.agg [(.int .i64), (.int .i64), .str, .slc, .slc]) (.s 6) (.s 58)⟩])
 .ret)))))))),
 [.cell 6 (.agg [(.int .i64), (.int .i64), .str, .slc, .slc])]⟩
theorem ok43 : compF Try.prog 43 [[1, 2, 3, 6, 7, 24, 25]] [] = some ir43 := by kernel_rfl

/-- tenet/simple.Subst$1 -/
def ir44 : FInfo := ⟨29,
 (.seq (.reg [⟨(some 4), none, .box (.agg [(.int .i64), (.int .i64), .str, .slc, .slc]) (.s 0)⟩, ⟨(some 6), none, .new (.agg [(.int .i64), (.int .i64), .str, .slc, .slc]) (.agg [(.t (.int .i64 0)), (.t (.int .i64 0)), (.t (.str [])), .nilS, .nilS])⟩])
 (.seq (.seq (.reg [⟨(some 8), none, .fa 1 (.s 4)⟩, ⟨(some 9), none, .ld (.int .i64) (.s 8)⟩, ⟨(some 10), none, .mov (.s 1)⟩, ⟨(some 11), none, .bin .sub (.s 9) (.s 10)⟩, ⟨(some 7), none, .mov (.s 11)⟩])
 (.block 0 (.seq (.reg [⟨(some 13), none, .mov (.s 7)⟩, ⟨(some 14), none, .ld (.int .i64) (.s 2)⟩, ⟨(some 15), none, .bin .eql (.s 13) (.s 14)⟩, ⟨(some 12), none, .mov (.s 15)⟩])
 (.cond (.s 12)
 (.seq (.reg [⟨(some 16), none, .ld (.agg [(.int .i64), (.int .i64), .str, .slc, .slc]) (.s 3)⟩, ⟨(some 17), none, .mov (.s 1)⟩, ⟨(some 18), none, .call false 31 (.agg [(.int .i64), (.int .i64), .str, .slc, .slc]) [(.s 16), (.s 17), (.c (.t (.int .i64 0)))]⟩, ⟨none, none, .st (.agg [(.int .i64), (.int .i64), .str, .slc, .slc]) (.s 6) (.s 18)⟩])
 .ret)
 (.seq (.reg [⟨(some 20), none, .mov (.s 7)⟩, ⟨(some 21), none, .ld (.int .i64) (.s 2)⟩, ⟨(some 22), none, .bin .gtr (.s 20) (.s 21)⟩, ⟨(some 19), none, .mov (.s 22)⟩])
 (.cond (.s 19)
 (.reg [⟨(some 23), none, .fa 1 (.s 4)⟩, ⟨(some 24), none, .ld (.int .i64) (.s 23)⟩, ⟨(some 25), none, .bin .sub (.s 24) (.c (.t (.int .i64 1)))⟩, ⟨(some 26), none, .fa 1 (.s 4)⟩, ⟨none, none, .st (.int .i64) (.s 26) (.s 25)⟩])
 .skip))))))
 (.seq (.reg [⟨(some 27), none, .ld (.agg [(.int .i64), (.int .i64), .str, .slc, .slc]) (.s 4)⟩, ⟨(some 28), none, .call false 42 (.agg [(.int .i64), (.int .i64), .str, .slc, .slc]) [(.s 27)]⟩, ⟨none, none, .st (.agg [(.int .i64), (.int .i64), .str, .slc, .slc]) (.s 6) (.s 28)⟩])
 .ret))),
 [.cell 6 (.agg [(.int .i64), (.int .i64), .str, .slc, .slc])]⟩
theorem ok44 : compF Try.prog 44 [] [] = some ir44 := by kernel_rfl

/-- tenet/tenetref25.form -/
def ir45 : FInfo := ⟨74,
 (.seq (.reg [⟨(some 1), none, .box (.agg [(.int .i64), (.int .i64), .str, .slc, .slc]) (.s 0)⟩, ⟨(some 2), none, .mov (.c (.t (.bool false)))⟩])
 (.seq (.seq (.dreg [⟨(some 5), none, .fa 0 (.s 1)⟩, ⟨(some 6), none, .ld (.int .i64) (.s 5)⟩, ⟨(some 7), none, .call false 65 (.int .i64) [(.s 6)]⟩, ⟨(some 8), none, .fa 4 (.s 1)⟩, ⟨(some 9), none, .ld .slc (.s 8)⟩, ⟨(some 10), none, .len (.s 9)⟩, ⟨(some 11), none, .bin .neq (.s 7) (.s 10)⟩, ⟨(some 12), none, .mov (.s 11)⟩, ⟨(some 13), (some (12, false)), .fa 0 (.s 1)⟩, ⟨(some 14), (some (12, false)), .ld (.int .i64) (.s 13)⟩, ⟨(some 15), (some (12, false)), .call false 65 (.int .i64) [(.s 14)]⟩, ⟨(some 16), (some (12, false)), .bin .lss (.s 15) (.c (.t (.int .i64 0)))⟩, ⟨(some 17), none, .pick (.s 12) (.c (.t (.bool true))) (.s 16)⟩] [0, 1, 3, 0, 8, 24, 63, 127, 255, 511, 1023, 2047, 4095])
 (.cond (.s 17)
 (.seq (.reg [⟨(some 2), none, .mov (.c (.t (.bool false)))⟩])
 .ret)
 .skip))
 (.seq (.seq (.reg [⟨(some 18), none, .fa 0 (.s 1)⟩, ⟨(some 19), none, .ld (.int .i64) (.s 18)⟩, ⟨(some 20), none, .bin .eql (.s 19) (.c (.t (.int .i64 2)))⟩, ⟨(some 21), none, .mov (.s 20)⟩, ⟨(some 22), (some (21, true)), .fa 2 (.s 1)⟩, ⟨(some 23), (some (21, true)), .ld (.agg [.str, .slc]) (.s 22)⟩, ⟨(some 24), (some (21, true)), .call false 66 .bool [(.s 23)]⟩, ⟨(some 25), (some (21, true)), .un .not (.s 24)⟩, ⟨(some 26), none, .pick (.s 21) (.s 25) (.c (.t (.bool false)))⟩, ⟨(some 27), none, .mov (.s 26)⟩, ⟨(some 28), (some (27, false)), .fa 0 (.s 1)⟩, ⟨(some 29), (some (27, false)), .ld (.int .i64) (.s 28)⟩, ⟨(some 30), (some (27, false)), .bin .neq (.s 29) (.c (.t (.int .i64 2)))⟩, ⟨(some 31), (some (27, false)), .mov (.s 30)⟩, ⟨(some 32), (some (31, true)), .fa 2 (.s 1)⟩, ⟨(some 33), (some (31, true)), .fa 0 (.s 32)⟩, ⟨(some 34), (some (31, true)), .ld .str (.s 33)⟩, ⟨(some 35), (some (31, true)), .bin .neq (.s 34) (.c (.t (.str [])))⟩, ⟨(some 36), (some (31, true)), .mov (.s 35)⟩, ⟨(some 37), (some (36, false)), .fa 2 (.s 1)⟩, ⟨(some 38), (some (36, false)), .fa 1 (.s 37)⟩, ⟨(some 39), (some (36, false)), .ld .slc (.s 38)⟩, ⟨(some 40), (some (36, false)), .len (.s 39)⟩, ⟨(some 41), (some (36, false)), .bin .gtr (.s 40) (.c (.t (.int .i64 0)))⟩, ⟨(some 42), (some (31, true)), .pick (.s 36) (.c (.t (.bool true))) (.s 41)⟩, ⟨(some 43), (some (27, false)), .pick (.s 31) (.s 42) (.c (.t (.bool false)))⟩, ⟨(some 44), none, .pick (.s 27) (.c (.t (.bool true))) (.s 43)⟩])
 (.cond (.s 44)
 (.seq (.reg [⟨(some 2), none, .mov (.c (.t (.bool false)))⟩])
 .ret)
 .skip))
 (.seq (.reg [⟨(some 3), none, .mov (.c (.t (.int .i64 0)))⟩])
 (.seq (.seq (.reg [⟨(some 45), none, .fa 0 (.s 1)⟩, ⟨(some 46), none, .ld (.int .i64) (.s 45)⟩])
 (.block 0 (.seq (.reg [⟨(some 48), none, .bin .eql (.s 46) (.c (.t (.int .i64 1)))⟩, ⟨(some 47), none, .mov (.s 48)⟩])
 (.cond (.s 47)
 (.reg [⟨(some 3), none, .mov (.c (.t (.int .i64 200)))⟩])
 (.seq (.reg [⟨(some 50), none, .bin .eql (.s 46) (.c (.t (.int .i64 4)))⟩, ⟨(some 49), none, .mov (.s 50)⟩])
 (.cond (.s 49)
 (.reg [⟨(some 3), none, .mov (.c (.t (.int .i64 1000)))⟩])
 .skip))))))
 (.seq (.seq (.reg [⟨(some 51), none, .fa 1 (.s 1)⟩, ⟨(some 52), none, .ld (.int .i64) (.s 51)⟩, ⟨(some 53), none, .bin .lss (.s 52) (.c (.t (.int .i64 0)))⟩, ⟨(some 54), none, .mov (.s 53)⟩, ⟨(some 55), (some (54, false)), .fa 1 (.s 1)⟩, ⟨(some 56), (some (54, false)), .ld (.int .i64) (.s 55)⟩, ⟨(some 57), (some (54, false)), .mov (.s 3)⟩, ⟨(some 58), (some (54, false)), .bin .gtr (.s 56) (.s 57)⟩, ⟨(some 59), none, .pick (.s 54) (.c (.t (.bool true))) (.s 58)⟩])
 (.cond (.s 59)
 (.seq (.reg [⟨(some 2), none, .mov (.c (.t (.bool false)))⟩])
 .ret)
 .skip))
 (.seq (.seq (.reg [⟨(some 4), none, .mov (.c (.t (.int .i64 0)))⟩])
 (.block 1 (.loop [1, 4] (.seq (.seq (.reg [⟨(some 60), none, .mov (.s 4)⟩, ⟨(some 61), none, .fa 4 (.s 1)⟩, ⟨(some 62), none, .ld .slc (.s 61)⟩, ⟨(some 63), none, .len (.s 62)⟩, ⟨(some 64), none, .bin .lss (.s 60) (.s 63)⟩])
 (.cond (.s 64)
 .skip
 (.exit 1)))
 (.seq (.block 2 (.seq (.reg [⟨(some 67), none, .fa 4 (.s 1)⟩, ⟨(some 68), none, .ld .slc (.s 67)⟩, ⟨(some 69), none, .mov (.s 4)⟩, ⟨(some 70), none, .ia (.agg [(.int .i64), (.int .i64), .str, .slc, .slc]) (.s 68) (.s 69)⟩, ⟨(some 71), none, .ld (.agg [(.int .i64), (.int .i64), .str, .slc, .slc]) (.s 70)⟩, ⟨(some 72), none, .call false 45 .bool [(.s 71)]⟩, ⟨(some 73), none, .un .not (.s 72)⟩])
 (.cond (.s 73)
 (.seq (.reg [⟨(some 2), none, .mov (.c (.t (.bool false)))⟩])
 .ret)
 .skip)))
 (.reg [⟨(some 65), none, .mov (.s 4)⟩, ⟨(some 66), none, .bin .add (.s 65) (.c (.t (.int .i64 1)))⟩, ⟨(some 4), none, .mov (.s 66)⟩]))))))
 (.seq (.reg [⟨(some 2), none, .mov (.c (.t (.bool true)))⟩])
 .ret)))))))),
 [.slot 2]⟩
theorem ok45 : compF Try.prog 45 [[1, 4]] [] = some ir45 := by kernel_rfl

/-- tenet/simple.stepped -/
def ir46 : FInfo := ⟨50,
 (.seq (.reg [⟨(some 1), none, .box (.agg [(.int .i64), (.int .i64), .str, .slc, .slc]) (.s 0)⟩, ⟨(some 2), none, .new (.agg [(.int .i64), (.int .i64), .str, .slc, .slc]) (.agg [(.t (.int .i64 0)), (.t (.int .i64 0)), (.t (.str [])), .nilS, .nilS])⟩, ⟨(some 3), none, .mov (.c .nilS)⟩, ⟨(some 4), none, .mov (.c (.t (.bool false)))⟩])
 (.seq (.seq (.reg [⟨(some 13), none, .ld (.agg [(.int .i64), (.int .i64), .str, .slc, .slc]) (.s 1)⟩, ⟨(some 14), none, .call false 67 (.tup [(.agg [(.int .i64), (.int .i64), .str, .slc, .slc]), .bool]) [(.s 13)]⟩, ⟨(some 12), none, .mov (.s 14)⟩, ⟨(some 15), none, .ext 0 (.s 12)⟩, ⟨(some 16), none, .ext 1 (.s 12)⟩, ⟨(some 5), none, .new (.agg [(.int .i64), (.int .i64), .str, .slc, .slc]) (.agg [(.t (.int .i64 0)), (.t (.int .i64 0)), (.t (.str [])), .nilS, .nilS])⟩, ⟨none, none, .st (.agg [(.int .i64), (.int .i64), .str, .slc, .slc]) (.s 5) (.s 15)⟩, ⟨(some 6), none, .mov (.s 16)⟩])
 (.seq (.reg [⟨(some 17), none, .mov (.s 6)⟩])
 (.cond (.s 17)
 (.seq (.reg [⟨(some 18), none, .ld (.agg [(.int .i64), (.int .i64), .str, .slc, .slc]) (.s 5)⟩, ⟨none, none, .st (.agg [(.int .i64), (.int .i64), .str, .slc, .slc]) (.s 2) (.s 18)⟩, ⟨(some 3), none, .mov (.c .nilS)⟩, ⟨(some 4), none, .mov (.c (.t (.bool true)))⟩])
 .ret)
 .skip)))
 (.seq (.seq (.reg [⟨(some 19), none, .fa 4 (.s 1)⟩, ⟨(some 20), none, .ld .slc (.s 19)⟩, ⟨(some 21), none, .len (.s 20)⟩, ⟨(some 22), none, .mov (.c (.t (.int .i64 0)))⟩])
 (.block 0 (.loop [1, 2, 20, 21, 22] (.seq (.reg [⟨(some 23), none, .bin .lss (.s 22) (.s 21)⟩])
 (.seq (.cond (.s 23)
 .skip
 (.exit 0))
 (.seq (.block 1 (.seq (.reg [⟨(some 24), none, .mov (.s 22)⟩, ⟨(some 25), none, .ia (.agg [(.int .i64), (.int .i64), .str, .slc, .slc]) (.s 20) (.s 22)⟩, ⟨(some 26), none, .ld (.agg [(.int .i64), (.int .i64), .str, .slc, .slc]) (.s 25)⟩, ⟨(some 8), none, .new (.agg [(.int .i64), (.int .i64), .str, .slc, .slc]) (.agg [(.t (.int .i64 0)), (.t (.int .i64 0)), (.t (.str [])), .nilS, .nilS])⟩, ⟨(some 7), none, .mov (.s 24)⟩, ⟨none, none, .st (.agg [(.int .i64), (.int .i64), .str, .slc, .slc]) (.s 8) (.s 26)⟩])
 (.seq (.reg [⟨(some 28), none, .ld (.agg [(.int .i64), (.int .i64), .str, .slc, .slc]) (.s 8)⟩, ⟨(some 29), none, .call false 46 (.tup [(.agg [(.int .i64), (.int .i64), .str, .slc, .slc]), .slc, .bool]) [(.s 28)]⟩, ⟨(some 27), none, .mov (.s 29)⟩, ⟨(some 30), none, .ext 0 (.s 27)⟩, ⟨(some 31), none, .ext 1 (.s 27)⟩, ⟨(some 32), none, .ext 2 (.s 27)⟩, ⟨(some 9), none, .new (.agg [(.int .i64), (.int .i64), .str, .slc, .slc]) (.agg [(.t (.int .i64 0)), (.t (.int .i64 0)), (.t (.str [])), .nilS, .nilS])⟩, ⟨none, none, .st (.agg [(.int .i64), (.int .i64), .str, .slc, .slc]) (.s 9) (.s 30)⟩, ⟨(some 10), none, .mov (.s 31)⟩, ⟨(some 11), none, .mov (.s 32)⟩])
 (.seq (.reg [⟨(some 33), none, .mov (.s 11)⟩])
 (.cond (.s 33)
 (.seq (.reg [⟨(some 34), none, .fa 4 (.s 1)⟩, ⟨(some 35), none, .ld .slc (.s 34)⟩, ⟨(some 36), none, .clone (.agg [(.int .i64), (.int .i64), .str, .slc, .slc]) 80 (.s 35)⟩, ⟨(some 37), none, .fa 4 (.s 1)⟩, ⟨none, none, .st .slc (.s 37) (.s 36)⟩])
 (.seq (.reg [⟨(some 38), none, .fa 4 (.s 1)⟩, ⟨(some 39), none, .ld .slc (.s 38)⟩, ⟨(some 40), none, .mov (.s 7)⟩, ⟨(some 41), none, .ld (.agg [(.int .i64), (.int .i64), .str, .slc, .slc]) (.s 9)⟩, ⟨(some 42), none, .ia (.agg [(.int .i64), (.int .i64), .str, .slc, .slc]) (.s 39) (.s 40)⟩, ⟨none, none, .st (.agg [(.int .i64), (.int .i64), .str, .slc, .slc]) (.s 42) (.s 41)⟩])
 (.seq (.dreg [⟨(some 43), none, .ld (.agg [(.int .i64), (.int .i64), .str, .slc, .slc]) (.s 1)⟩, ⟨(some 44), none, .mov (.s 7)⟩, ⟨(some 45), none, .bsl (.int .i64) (.t (.int .i64 0)) 1 [(0, (.s 44))]⟩, ⟨(some 46), none, .mov (.s 10)⟩, ⟨(some 47), none, .app (.int .i64) 8 (.s 45) (.s 46)⟩, ⟨none, none, .st (.agg [(.int .i64), (.int .i64), .str, .slc, .slc]) (.s 2) (.s 43)⟩, ⟨(some 3), none, .mov (.s 47)⟩, ⟨(some 4), none, .mov (.c (.t (.bool true)))⟩] [0, 0, 2, 0, 14, 31, 63, 127])
 .ret)))
 .skip)))))
 (.reg [⟨(some 48), none, .bin .add (.s 22) (.c (.t (.int .i64 1)))⟩, ⟨(some 22), none, .mov (.s 48)⟩])))))))
 (.seq (.reg [⟨(some 49), none, .build [(.t (.int .i64 0)), (.t (.int .i64 0)), (.t (.str [])), .nilS, .nilS] []⟩, ⟨none, none, .st (.agg [(.int .i64), (.int .i64), .str, .slc, .slc]) (.s 2) (.s 49)⟩, ⟨(some 3), none, .mov (.c .nilS)⟩, ⟨(some 4), none, .mov (.c (.t (.bool false)))⟩])
 .ret)))),
 [.cell 2 (.agg [(.int .i64), (.int .i64), .str, .slc, .slc]), .slot 3, .slot 4]⟩
theorem ok46 : compF Try.prog 46 [[1, 2, 20, 21, 22]] [] = some ir46 := by kernel_rfl

/-- tenet/tenetref25.rule -/
def ir47 : FInfo := ⟨112,
 (.seq (.reg [⟨(some 1), none, .box (.agg [(.int .i64), (.int .i64), .str, .slc, .slc]) (.s 0)⟩, ⟨(some 2), none, .new (.agg [(.int .i64), (.int .i64), .str, .slc, .slc]) (.agg [(.t (.int .i64 0)), (.t (.int .i64 0)), (.t (.str [])), .nilS, .nilS])⟩, ⟨(some 3), none, .mov (.c (.t (.bool false)))⟩])
 (.seq (.seq (.reg [⟨(some 6), none, .ld (.agg [(.int .i64), (.int .i64), .str, .slc, .slc]) (.s 1)⟩, ⟨(some 7), none, .call false 68 .bool [(.s 6)]⟩, ⟨(some 8), none, .un .not (.s 7)⟩, ⟨(some 9), none, .mov (.s 8)⟩, ⟨(some 10), (some (9, false)), .fa 4 (.s 1)⟩, ⟨(some 11), (some (9, false)), .ld .slc (.s 10)⟩, ⟨(some 12), (some (9, false)), .len (.s 11)⟩, ⟨(some 13), (some (9, false)), .bin .eql (.s 12) (.c (.t (.int .i64 0)))⟩, ⟨(some 14), none, .pick (.s 9) (.c (.t (.bool true))) (.s 13)⟩])
 (.cond (.s 14)
 (.seq (.reg [⟨(some 15), none, .ld (.agg [(.int .i64), (.int .i64), .str, .slc, .slc]) (.s 1)⟩, ⟨none, none, .st (.agg [(.int .i64), (.int .i64), .str, .slc, .slc]) (.s 2) (.s 15)⟩, ⟨(some 3), none, .mov (.c (.t (.bool false)))⟩])
 .ret)
 .skip))
 (.seq (.reg [⟨(some 16), none, .fa 4 (.s 1)⟩, ⟨(some 17), none, .ld .slc (.s 16)⟩, ⟨(some 18), none, .ia (.agg [(.int .i64), (.int .i64), .str, .slc, .slc]) (.s 17) (.c (.t (.int .i64 0)))⟩, ⟨(some 19), none, .ld (.agg [(.int .i64), (.int .i64), .str, .slc, .slc]) (.s 18)⟩, ⟨(some 4), none, .new (.agg [(.int .i64), (.int .i64), .str, .slc, .slc]) (.agg [(.t (.int .i64 0)), (.t (.int .i64 0)), (.t (.str [])), .nilS, .nilS])⟩, ⟨none, none, .st (.agg [(.int .i64), (.int .i64), .str, .slc, .slc]) (.s 4) (.s 19)⟩])
 (.seq (.seq (.reg [⟨(some 20), none, .fa 0 (.s 1)⟩, ⟨(some 21), none, .ld (.int .i64) (.s 20)⟩])
 (.block 0 (.seq (.reg [⟨(some 23), none, .bin .eql (.s 21) (.c (.t (.int .i64 3)))⟩, ⟨(some 22), none, .mov (.s 23)⟩])
 (.cond (.s 22)
 (.seq (.reg [⟨(some 24), none, .fa 0 (.s 4)⟩, ⟨(some 25), none, .ld (.int .i64) (.s 24)⟩, ⟨(some 26), none, .bin .eql (.s 25) (.c (.t (.int .i64 2)))⟩, ⟨(some 27), none, .mov (.s 26)⟩, ⟨(some 28), (some (27, true)), .ld (.agg [(.int .i64), (.int .i64), .str, .slc, .slc]) (.s 4)⟩, ⟨(some 29), (some (27, true)), .call false 68 .bool [(.s 28)]⟩, ⟨(some 30), none, .pick (.s 27) (.s 29) (.c (.t (.bool false)))⟩])
 (.cond (.s 30)
 (.seq (.dreg [⟨(some 31), none, .fa 4 (.s 4)⟩, ⟨(some 32), none, .ld .slc (.s 31)⟩, ⟨(some 33), none, .ia (.agg [(.int .i64), (.int .i64), .str, .slc, .slc]) (.s 32) (.c (.t (.int .i64 0)))⟩, ⟨(some 34), none, .ld (.agg [(.int .i64), (.int .i64), .str, .slc, .slc]) (.s 33)⟩, ⟨(some 35), none, .fa 4 (.s 1)⟩, ⟨(some 36), none, .ld .slc (.s 35)⟩, ⟨(some 37), none, .ia (.agg [(.int .i64), (.int .i64), .str, .slc, .slc]) (.s 36) (.c (.t (.int .i64 1)))⟩, ⟨(some 38), none, .ld (.agg [(.int .i64), (.int .i64), .str, .slc, .slc]) (.s 37)⟩, ⟨(some 39), none, .call false 33 (.agg [(.int .i64), (.int .i64), .str, .slc, .slc]) [(.s 34), (.c (.t (.int .i64 0))), (.s 38)]⟩, ⟨none, none, .st (.agg [(.int .i64), (.int .i64), .str, .slc, .slc]) (.s 2) (.s 39)⟩, ⟨(some 3), none, .mov (.c (.t (.bool true)))⟩] [0, 1, 3, 7, 0, 16, 48, 112, 255, 511, 1023])
 .ret)
 .skip))
 (.seq (.reg [⟨(some 41), none, .bin .eql (.s 21) (.c (.t (.int .i64 5)))⟩, ⟨(some 40), none, .mov (.s 41)⟩])
 (.cond (.s 40)
 (.seq (.reg [⟨(some 42), none, .ld (.agg [(.int .i64), (.int .i64), .str, .slc, .slc]) (.s 4)⟩, ⟨(some 43), none, .call false 69 .bool [(.s 42)]⟩, ⟨(some 44), none, .mov (.s 43)⟩, ⟨(some 45), (some (44, true)), .fa 1 (.s 4)⟩, ⟨(some 46), (some (44, true)), .ld (.int .i64) (.s 45)⟩, ⟨(some 47), (some (44, true)), .bin .geq (.s 46) (.c (.t (.int .i64 0)))⟩, ⟨(some 48), none, .pick (.s 44) (.s 47) (.c (.t (.bool false)))⟩, ⟨(some 49), none, .mov (.s 48)⟩, ⟨(some 50), (some (49, true)), .fa 1 (.s 4)⟩, ⟨(some 51), (some (49, true)), .ld (.int .i64) (.s 50)⟩, ⟨(some 52), (some (49, true)), .bin .leq (.s 51) (.c (.t (.int .i64 1099511627776)))⟩, ⟨(some 53), none, .pick (.s 49) (.s 52) (.c (.t (.bool false)))⟩])
 (.cond (.s 53)
 (.seq (.reg [⟨(some 54), none, .fa 1 (.s 4)⟩, ⟨(some 55), none, .ld (.int .i64) (.s 54)⟩, ⟨(some 56), none, .bin .add (.s 55) (.c (.t (.int .i64 1)))⟩, ⟨(some 57), none, .build [(.t (.int .i64 0)), (.t (.int .i64 0)), (.t (.str [])), .nilS, .nilS] [(0, (.int .i64), (.c (.t (.int .i64 4)))), (1, (.int .i64), (.s 56))]⟩, ⟨none, none, .st (.agg [(.int .i64), (.int .i64), .str, .slc, .slc]) (.s 2) (.s 57)⟩, ⟨(some 3), none, .mov (.c (.t (.bool true)))⟩])
 .ret)
 .skip))
 (.seq (.reg [⟨(some 59), none, .bin .eql (.s 21) (.c (.t (.int .i64 6)))⟩, ⟨(some 58), none, .mov (.s 59)⟩])
 (.cond (.s 58)
 (.seq (.seq (.reg [⟨(some 60), none, .ld (.agg [(.int .i64), (.int .i64), .str, .slc, .slc]) (.s 4)⟩, ⟨(some 61), none, .call false 69 .bool [(.s 60)]⟩, ⟨(some 62), none, .mov (.s 61)⟩, ⟨(some 63), (some (62, true)), .fa 1 (.s 4)⟩, ⟨(some 64), (some (62, true)), .ld (.int .i64) (.s 63)⟩, ⟨(some 65), (some (62, true)), .bin .lss (.s 64) (.c (.t (.int .i64 1)))⟩, ⟨(some 66), none, .pick (.s 62) (.s 65) (.c (.t (.bool false)))⟩])
 (.cond (.s 66)
 (.seq (.reg [⟨(some 67), none, .fa 4 (.s 1)⟩, ⟨(some 68), none, .ld .slc (.s 67)⟩, ⟨(some 69), none, .ia (.agg [(.int .i64), (.int .i64), .str, .slc, .slc]) (.s 68) (.c (.t (.int .i64 2)))⟩, ⟨(some 70), none, .ld (.agg [(.int .i64), (.int .i64), .str, .slc, .slc]) (.s 69)⟩, ⟨none, none, .st (.agg [(.int .i64), (.int .i64), .str, .slc, .slc]) (.s 2) (.s 70)⟩, ⟨(some 3), none, .mov (.c (.t (.bool true)))⟩])
 .ret)
 .skip))
 (.seq (.reg [⟨(some 71), none, .ld (.agg [(.int .i64), (.int .i64), .str, .slc, .slc]) (.s 4)⟩, ⟨(some 72), none, .call false 69 .bool [(.s 71)]⟩])
 (.cond (.s 72)
 (.seq (.dreg [⟨(some 73), none, .fa 1 (.s 4)⟩, ⟨(some 74), none, .ld (.int .i64) (.s 73)⟩, ⟨(some 75), none, .bin .sub (.s 74) (.c (.t (.int .i64 1)))⟩, ⟨(some 76), none, .build [(.t (.int .i64 0)), (.t (.int .i64 0)), (.t (.str [])), .nilS, .nilS] [(0, (.int .i64), (.c (.t (.int .i64 4)))), (1, (.int .i64), (.s 75))]⟩, ⟨(some 77), none, .fa 4 (.s 1)⟩, ⟨(some 78), none, .ld .slc (.s 77)⟩, ⟨(some 79), none, .ia (.agg [(.int .i64), (.int .i64), .str, .slc, .slc]) (.s 78) (.c (.t (.int .i64 1)))⟩, ⟨(some 80), none, .ld (.agg [(.int .i64), (.int .i64), .str, .slc, .slc]) (.s 79)⟩, ⟨(some 81), none, .fa 4 (.s 1)⟩, ⟨(some 82), none, .ld .slc (.s 81)⟩, ⟨(some 83), none, .ia (.agg [(.int .i64), (.int .i64), .str, .slc, .slc]) (.s 82) (.c (.t (.int .i64 2)))⟩, ⟨(some 84), none, .ld (.agg [(.int .i64), (.int .i64), .str, .slc, .slc]) (.s 83)⟩, ⟨(some 85), none, .bsl (.agg [(.int .i64), (.int .i64), .str, .slc, .slc]) (.agg [(.t (.int .i64 0)), (.t (.int .i64 0)), (.t (.str [])), .nilS, .nilS]) 3 [(0, (.s 76)), (1, (.s 80)), (2, (.s 84))]⟩, ⟨(some 86), none, .build [(.t (.int .i64 0)), (.t (.int .i64 0)), (.t (.str [])), .nilS, .nilS] [(0, (.int .i64), (.c (.t (.int .i64 6)))), (4, .slc, (.s 85))]⟩, ⟨(some 5), none, .new (.agg [(.int .i64), (.int .i64), .str, .slc, .slc]) (.agg [(.t (.int .i64 0)), (.t (.int .i64 0)), (.t (.str [])), .nilS, .nilS])⟩, ⟨none, none, .st (.agg [(.int .i64), (.int .i64), .str, .slc, .slc]) (.s 5) (.s 86)⟩] [0, 1, 3, 7, 0, 16, 48, 112, 0, 256, 768, 1792, 4095, 8191, 0, 32767])
 (.seq (.dreg [⟨(some 87), none, .fa 4 (.s 1)⟩, ⟨(some 88), none, .ld .slc (.s 87)⟩, ⟨(some 89), none, .ia (.agg [(.int .i64), (.int .i64), .str, .slc, .slc]) (.s 88) (.c (.t (.int .i64 1)))⟩, ⟨(some 90), none, .ld (.agg [(.int .i64), (.int .i64), .str, .slc, .slc]) (.s 89)⟩, ⟨(some 91), none, .ld (.agg [(.int .i64), (.int .i64), .str, .slc, .slc]) (.s 5)⟩, ⟨(some 92), none, .bsl (.agg [(.int .i64), (.int .i64), .str, .slc, .slc]) (.agg [(.t (.int .i64 0)), (.t (.int .i64 0)), (.t (.str [])), .nilS, .nilS]) 2 [(0, (.s 90)), (1, (.s 91))]⟩, ⟨(some 93), none, .build [(.t (.int .i64 0)), (.t (.int .i64 0)), (.t (.str [])), .nilS, .nilS] [(0, (.int .i64), (.c (.t (.int .i64 3)))), (4, .slc, (.s 92))]⟩, ⟨none, none, .st (.agg [(.int .i64), (.int .i64), .str, .slc, .slc]) (.s 2) (.s 93)⟩, ⟨(some 3), none, .mov (.c (.t (.bool true)))⟩] [0, 1, 3, 7, 0, 31, 63, 127, 255])
 .ret))
 .skip)))
 (.seq (.seq (.reg [⟨(some 95), none, .bin .eql (.s 21) (.c (.t (.int .i64 8)))⟩, ⟨(some 94), none, .mov (.s 95)⟩])
 (.cond (.s 94)
 .skip
 (.reg [⟨(some 96), none, .bin .eql (.s 21) (.c (.t (.int .i64 9)))⟩, ⟨(some 94), none, .mov (.s 96)⟩])))
 (.cond (.s 94)
 (.seq (.reg [⟨(some 97), none, .fa 0 (.s 4)⟩, ⟨(some 98), none, .ld (.int .i64) (.s 97)⟩, ⟨(some 99), none, .bin .eql (.s 98) (.c (.t (.int .i64 7)))⟩, ⟨(some 100), none, .mov (.s 99)⟩, ⟨(some 101), (some (100, true)), .ld (.agg [(.int .i64), (.int .i64), .str, .slc, .slc]) (.s 4)⟩, ⟨(some 102), (some (100, true)), .call false 68 .bool [(.s 101)]⟩, ⟨(some 103), none, .pick (.s 100) (.s 102) (.c (.t (.bool false)))⟩])
 (.cond (.s 103)
 (.seq (.reg [⟨(some 104), none, .fa 4 (.s 4)⟩, ⟨(some 105), none, .ld .slc (.s 104)⟩, ⟨(some 106), none, .fa 0 (.s 1)⟩, ⟨(some 107), none, .ld (.int .i64) (.s 106)⟩, ⟨(some 108), none, .bin .sub (.s 107) (.c (.t (.int .i64 8)))⟩, ⟨(some 109), none, .ia (.agg [(.int .i64), (.int .i64), .str, .slc, .slc]) (.s 105) (.s 108)⟩, ⟨(some 110), none, .ld (.agg [(.int .i64), (.int .i64), .str, .slc, .slc]) (.s 109)⟩, ⟨none, none, .st (.agg [(.int .i64), (.int .i64), .str, .slc, .slc]) (.s 2) (.s 110)⟩, ⟨(some 3), none, .mov (.c (.t (.bool true)))⟩])
 .ret)
 .skip))
 .skip))))))))))
 (.seq (.reg [⟨(some 111), none, .ld (.agg [(.int .i64), (.int .i64), .str, .slc, .slc]) (.s 1)⟩, ⟨none, none, .st (.agg [(.int .i64), (.int .i64), .str, .slc, .slc]) (.s 2) (.s 111)⟩, ⟨(some 3), none, .mov (.c (.t (.bool false)))⟩])
 .ret))))),
 [.cell 2 (.agg [(.int .i64), (.int .i64), .str, .slc, .slc]), .slot 3]⟩
theorem ok47 : compF Try.prog 47 [] [] = some ir47 := by kernel_rfl

/-- tenet/simple.sizeOf -/
def ir48 : FInfo := ⟨31,
 (.seq (.reg [⟨(some 1), none, .box (.agg [(.int .i64), (.int .i64), .str, .slc, .slc]) (.s 0)⟩, ⟨(some 2), none, .mov (.c (.t (.int .i64 0)))⟩, ⟨(some 3), none, .mov (.c (.t (.int .i64 0)))⟩])
 (.seq (.seq (.reg [⟨(some 8), none, .fa 4 (.s 1)⟩, ⟨(some 9), none, .ld .slc (.s 8)⟩, ⟨(some 10), none, .len (.s 9)⟩, ⟨(some 11), none, .mov (.c (.t (.int .i64 0)))⟩])
 (.block 0 (.loop [2, 3, 9, 10, 11] (.seq (.reg [⟨(some 12), none, .bin .lss (.s 11) (.s 10)⟩])
 (.seq (.cond (.s 12)
 .skip
 (.exit 0))
 (.seq (.block 1 (.seq (.reg [⟨(some 13), none, .ia (.agg [(.int .i64), (.int .i64), .str, .slc, .slc]) (.s 9) (.s 11)⟩, ⟨(some 14), none, .ld (.agg [(.int .i64), (.int .i64), .str, .slc, .slc]) (.s 13)⟩, ⟨(some 5), none, .new (.agg [(.int .i64), (.int .i64), .str, .slc, .slc]) (.agg [(.t (.int .i64 0)), (.t (.int .i64 0)), (.t (.str [])), .nilS, .nilS])⟩, ⟨none, none, .st (.agg [(.int .i64), (.int .i64), .str, .slc, .slc]) (.s 5) (.s 14)⟩])
 (.seq (.reg [⟨(some 16), none, .ld (.agg [(.int .i64), (.int .i64), .str, .slc, .slc]) (.s 5)⟩, ⟨(some 17), none, .call false 48 (.tup [(.int .i64), (.int .i64)]) [(.s 16)]⟩, ⟨(some 15), none, .mov (.s 17)⟩, ⟨(some 18), none, .ext 0 (.s 15)⟩, ⟨(some 19), none, .ext 1 (.s 15)⟩, ⟨(some 6), none, .mov (.s 18)⟩, ⟨(some 7), none, .mov (.s 19)⟩])
 (.reg [⟨(some 20), none, .mov (.s 2)⟩, ⟨(some 21), none, .mov (.s 6)⟩, ⟨(some 22), none, .bin .add (.s 20) (.s 21)⟩, ⟨(some 23), none, .mov (.s 3)⟩, ⟨(some 24), none, .mov (.s 7)⟩, ⟨(some 25), none, .mx (.s 23) (.s 24)⟩, ⟨(some 2), none, .mov (.s 22)⟩, ⟨(some 3), none, .mov (.s 25)⟩]))))
 (.reg [⟨(some 26), none, .bin .add (.s 11) (.c (.t (.int .i64 1)))⟩, ⟨(some 11), none, .mov (.s 26)⟩])))))))
 (.seq (.reg [⟨(some 27), none, .mov (.s 2)⟩, ⟨(some 28), none, .bin .add (.s 27) (.c (.t (.int .i64 1)))⟩, ⟨(some 29), none, .mov (.s 3)⟩, ⟨(some 30), none, .bin .add (.s 29) (.c (.t (.int .i64 1)))⟩, ⟨(some 2), none, .mov (.s 28)⟩, ⟨(some 3), none, .mov (.s 30)⟩])
 .ret))),
 [.slot 2, .slot 3]⟩
theorem ok48 : compF Try.prog 48 [[2, 3, 9, 10, 11]] [] = some ir48 := by kernel_rfl

/-- tenet/tenetref25.right -/
def ir49 : FInfo := ⟨26,
 (.seq (.reg [⟨(some 3), none, .box (.agg [(.int .i64), (.int .i64), .str, .slc, .slc]) (.s 1)⟩, ⟨(some 4), none, .mov (.c (.t (.bool false)))⟩])
 (.seq (.seq (.reg [⟨(some 6), none, .mov (.s 0)⟩, ⟨(some 7), none, .len (.s 6)⟩, ⟨(some 8), none, .bin .gtr (.s 7) (.c (.t (.int .i64 100)))⟩, ⟨(some 9), none, .mov (.s 8)⟩, ⟨(some 10), (some (9, false)), .ld (.agg [(.int .i64), (.int .i64), .str, .slc, .slc]) (.s 3)⟩, ⟨(some 11), (some (9, false)), .call false 18 .bool [(.s 10)]⟩, ⟨(some 12), (some (9, false)), .un .not (.s 11)⟩, ⟨(some 13), none, .pick (.s 9) (.c (.t (.bool true))) (.s 12)⟩])
 (.cond (.s 13)
 (.seq (.reg [⟨(some 4), none, .mov (.c (.t (.bool false)))⟩])
 .ret)
 .skip))
 (.seq (.seq (.reg [⟨(some 5), none, .mov (.c (.t (.int .i64 0)))⟩])
 (.block 0 (.loop [0, 5] (.seq (.seq (.reg [⟨(some 14), none, .mov (.s 5)⟩, ⟨(some 15), none, .mov (.s 0)⟩, ⟨(some 16), none, .len (.s 15)⟩, ⟨(some 17), none, .bin .lss (.s 14) (.s 16)⟩])
 (.cond (.s 17)
 .skip
 (.exit 0)))
 (.seq (.block 1 (.seq (.reg [⟨(some 20), none, .mov (.s 0)⟩, ⟨(some 21), none, .mov (.s 5)⟩, ⟨(some 22), none, .ia (.agg [.str, .slc]) (.s 20) (.s 21)⟩, ⟨(some 23), none, .ld (.agg [.str, .slc]) (.s 22)⟩, ⟨(some 24), none, .call false 66 .bool [(.s 23)]⟩, ⟨(some 25), none, .un .not (.s 24)⟩])
 (.cond (.s 25)
 (.seq (.reg [⟨(some 4), none, .mov (.c (.t (.bool false)))⟩])
 .ret)
 .skip)))
 (.reg [⟨(some 18), none, .mov (.s 5)⟩, ⟨(some 19), none, .bin .add (.s 18) (.c (.t (.int .i64 1)))⟩, ⟨(some 5), none, .mov (.s 19)⟩]))))))
 (.seq (.reg [⟨(some 4), none, .mov (.c (.t (.bool true)))⟩])
 .ret)))),
 [.slot 4]⟩
theorem ok49 : compF Try.prog 49 [[0, 5]] [] = some ir49 := by kernel_rfl

/-- tenet/tenetref25.find -/
def ir50 : FInfo := ⟨168,
 (.seq (.reg [⟨(some 4), none, .box (.agg [(.int .i64), (.int .i64), .str, .slc, .slc]) (.s 1)⟩, ⟨(some 6), none, .new (.agg [.str, .slc]) (.agg [(.t (.str [])), .nilS])⟩, ⟨(some 7), none, .mov (.c .nilS)⟩, ⟨(some 8), none, .mov (.c (.t (.bool false)))⟩])
 (.seq (.reg [⟨(some 15), none, .mov (.s 0)⟩, ⟨(some 9), none, .mov (.s 15)⟩])
 (.seq (.seq (.reg [⟨(some 16), none, .fa 0 (.s 4)⟩, ⟨(some 17), none, .ld (.int .i64) (.s 16)⟩, ⟨(some 18), none, .bin .eql (.s 17) (.c (.t (.int .i64 2)))⟩])
 (.cond (.s 18)
 (.dreg [⟨(some 19), none, .bsl (.agg [.str, .slc]) (.agg [(.t (.str [])), .nilS]) 0 []⟩, ⟨(some 20), none, .mov (.s 0)⟩, ⟨(some 21), none, .app (.agg [.str, .slc]) 40 (.s 19) (.s 20)⟩, ⟨(some 22), none, .fa 2 (.s 4)⟩, ⟨(some 23), none, .ld (.agg [.str, .slc]) (.s 22)⟩, ⟨(some 24), none, .bsl (.agg [.str, .slc]) (.agg [(.t (.str [])), .nilS]) 1 [(0, (.s 23))]⟩, ⟨(some 25), none, .app (.agg [.str, .slc]) 40 (.s 21) (.s 24)⟩, ⟨(some 9), none, .mov (.s 25)⟩] [0, 0, 3, 0, 8, 24, 63, 127])
 .skip))
 (.seq (.reg [⟨(some 10), none, .mov (.c .nilS)⟩])
 (.seq (.seq (.reg [⟨(some 11), none, .mov (.c (.t (.int .i64 0)))⟩])
 (.block 0 (.loop [0, 2, 4, 6, 9, 10, 11] (.seq (.seq (.reg [⟨(some 26), none, .mov (.s 11)⟩, ⟨(some 27), none, .fa 4 (.s 4)⟩, ⟨(some 28), none, .ld .slc (.s 27)⟩, ⟨(some 29), none, .len (.s 28)⟩, ⟨(some 30), none, .bin .lss (.s 26) (.s 29)⟩])
 (.cond (.s 30)
 .skip
 (.exit 0)))
 (.seq (.block 1 (.seq (.dreg [⟨(some 34), none, .mov (.s 9)⟩, ⟨(some 35), none, .fa 4 (.s 4)⟩, ⟨(some 36), none, .ld .slc (.s 35)⟩, ⟨(some 37), none, .mov (.s 11)⟩, ⟨(some 38), none, .ia (.agg [(.int .i64), (.int .i64), .str, .slc, .slc]) (.s 36) (.s 37)⟩, ⟨(some 39), none, .ld (.agg [(.int .i64), (.int .i64), .str, .slc, .slc]) (.s 38)⟩, ⟨(some 40), none, .mov (.s 2)⟩, ⟨(some 41), none, .mov (.s 11)⟩, ⟨(some 42), none, .call false 70 .slc [(.s 40), (.s 41)]⟩, ⟨(some 43), none, .call false 50 (.tup [(.agg [.str, .slc]), .slc, .bool]) [(.s 34), (.s 39), (.s 42)]⟩, ⟨(some 33), none, .mov (.s 43)⟩, ⟨(some 44), none, .ext 0 (.s 33)⟩, ⟨(some 45), none, .ext 1 (.s 33)⟩, ⟨(some 46), none, .ext 2 (.s 33)⟩, ⟨(some 12), none, .new (.agg [.str, .slc]) (.agg [(.t (.str [])), .nilS])⟩, ⟨none, none, .st (.agg [.str, .slc]) (.s 12) (.s 44)⟩, ⟨(some 13), none, .mov (.s 45)⟩, ⟨(some 14), none, .mov (.s 46)⟩] [0, 0, 2, 0, 14, 30, 0, 0, 192, 511, 1023, 2047, 2047, 2047, 0, 20479, 57343, 131071])
 (.seq (.seq (.reg [⟨(some 47), none, .mov (.s 14)⟩, ⟨(some 48), none, .un .not (.s 47)⟩])
 (.cond (.s 48)
 (.seq (.reg [⟨(some 49), none, .build [(.t (.str [])), .nilS] []⟩, ⟨(some 50), none, .mov (.s 13)⟩, ⟨none, none, .st (.agg [.str, .slc]) (.s 6) (.s 49)⟩, ⟨(some 7), none, .mov (.s 50)⟩, ⟨(some 8), none, .mov (.c (.t (.bool false)))⟩])
 .ret)
 .skip))
 (.reg [⟨(some 51), none, .mov (.s 10)⟩, ⟨(some 52), none, .ld (.agg [.str, .slc]) (.s 12)⟩, ⟨(some 53), none, .bsl (.agg [.str, .slc]) (.agg [(.t (.str [])), .nilS]) 1 [(0, (.s 52))]⟩, ⟨(some 54), none, .app (.agg [.str, .slc]) 40 (.s 51) (.s 53)⟩, ⟨(some 10), none, .mov (.s 54)⟩]))))
 (.reg [⟨(some 31), none, .mov (.s 11)⟩, ⟨(some 32), none, .bin .add (.s 31) (.c (.t (.int .i64 1)))⟩, ⟨(some 11), none, .mov (.s 32)⟩]))))))
 (.seq (.seq (.reg [⟨(some 55), none, .fa 0 (.s 4)⟩, ⟨(some 56), none, .ld (.int .i64) (.s 55)⟩])
 (.block 2 (.seq (.reg [⟨(some 58), none, .bin .eql (.s 56) (.c (.t (.int .i64 1)))⟩, ⟨(some 57), none, .mov (.s 58)⟩])
 (.cond (.s 57)
 (.seq (.reg [⟨(some 59), none, .fa 1 (.s 4)⟩, ⟨(some 60), none, .ld (.int .i64) (.s 59)⟩, ⟨(some 61), none, .mov (.s 0)⟩, ⟨(some 62), none, .len (.s 61)⟩, ⟨(some 63), none, .bin .lss (.s 60) (.s 62)⟩])
 (.cond (.s 63)
 (.seq (.reg [⟨(some 64), none, .mov (.s 0)⟩, ⟨(some 65), none, .mov (.s 0)⟩, ⟨(some 66), none, .len (.s 65)⟩, ⟨(some 67), none, .bin .sub (.s 66) (.c (.t (.int .i64 1)))⟩, ⟨(some 68), none, .fa 1 (.s 4)⟩, ⟨(some 69), none, .ld (.int .i64) (.s 68)⟩, ⟨(some 70), none, .bin .sub (.s 67) (.s 69)⟩, ⟨(some 71), none, .ia (.agg [.str, .slc]) (.s 64) (.s 70)⟩, ⟨(some 72), none, .ld (.agg [.str, .slc]) (.s 71)⟩, ⟨none, none, .st (.agg [.str, .slc]) (.s 6) (.s 72)⟩, ⟨(some 7), none, .mov (.c .nilS)⟩, ⟨(some 8), none, .mov (.c (.t (.bool true)))⟩])
 .ret)
 .skip))
 (.seq (.reg [⟨(some 74), none, .bin .eql (.s 56) (.c (.t (.int .i64 2)))⟩, ⟨(some 73), none, .mov (.s 74)⟩])
 (.cond (.s 73)
 (.seq (.dreg [⟨(some 75), none, .fa 2 (.s 4)⟩, ⟨(some 76), none, .ld (.agg [.str, .slc]) (.s 75)⟩, ⟨(some 77), none, .mov (.s 10)⟩, ⟨(some 78), none, .ia (.agg [.str, .slc]) (.s 77) (.c (.t (.int .i64 0)))⟩, ⟨(some 79), none, .ld (.agg [.str, .slc]) (.s 78)⟩, ⟨(some 80), none, .call false 71 (.agg [.str, .slc]) [(.c (.t (.str [84, 111]))), (.s 76), (.s 79)]⟩, ⟨none, none, .st (.agg [.str, .slc]) (.s 6) (.s 80)⟩, ⟨(some 7), none, .mov (.c .nilS)⟩, ⟨(some 8), none, .mov (.c (.t (.bool true)))⟩] [0, 1, 0, 4, 12, 31, 63, 127, 255])
 .ret)
 (.seq (.reg [⟨(some 82), none, .bin .eql (.s 56) (.c (.t (.int .i64 3)))⟩, ⟨(some 81), none, .mov (.s 82)⟩])
 (.cond (.s 81)
 (.seq (.dreg [⟨(some 83), none, .mov (.s 10)⟩, ⟨(some 84), none, .ia (.agg [.str, .slc]) (.s 83) (.c (.t (.int .i64 0)))⟩, ⟨(some 85), none, .fa 0 (.s 84)⟩, ⟨(some 86), none, .ld .str (.s 85)⟩, ⟨(some 87), none, .bin .eql (.s 86) (.c (.t (.str [84, 111])))⟩, ⟨(some 88), none, .mov (.s 87)⟩, ⟨(some 89), (some (88, true)), .mov (.s 10)⟩, ⟨(some 90), (some (88, true)), .ia (.agg [.str, .slc]) (.s 89) (.c (.t (.int .i64 0)))⟩, ⟨(some 91), (some (88, true)), .fa 1 (.s 90)⟩, ⟨(some 92), (some (88, true)), .ld .slc (.s 91)⟩, ⟨(some 93), (some (88, true)), .ia (.agg [.str, .slc]) (.s 92) (.c (.t (.int .i64 0)))⟩, ⟨(some 94), (some (88, true)), .ld (.agg [.str, .slc]) (.s 93)⟩, ⟨(some 95), (some (88, true)), .mov (.s 10)⟩, ⟨(some 96), (some (88, true)), .ia (.agg [.str, .slc]) (.s 95) (.c (.t (.int .i64 1)))⟩, ⟨(some 97), (some (88, true)), .ld (.agg [.str, .slc]) (.s 96)⟩, ⟨(some 98), (some (88, true)), .call false 16 .bool [(.s 94), (.s 97)]⟩, ⟨(some 99), none, .pick (.s 88) (.s 98) (.c (.t (.bool false)))⟩] [0, 1, 3, 7, 15, 31, 63, 127, 255, 511, 1023, 2047, 63, 4159, 12351, 32767, 65535])
 (.cond (.s 99)
 (.seq (.reg [⟨(some 100), none, .mov (.s 10)⟩, ⟨(some 101), none, .ia (.agg [.str, .slc]) (.s 100) (.c (.t (.int .i64 0)))⟩, ⟨(some 102), none, .fa 1 (.s 101)⟩, ⟨(some 103), none, .ld .slc (.s 102)⟩, ⟨(some 104), none, .ia (.agg [.str, .slc]) (.s 103) (.c (.t (.int .i64 1)))⟩, ⟨(some 105), none, .ld (.agg [.str, .slc]) (.s 104)⟩, ⟨none, none, .st (.agg [.str, .slc]) (.s 6) (.s 105)⟩, ⟨(some 7), none, .mov (.c .nilS)⟩, ⟨(some 8), none, .mov (.c (.t (.bool true)))⟩])
 .ret)
 .skip))
 (.seq (.reg [⟨(some 107), none, .bin .eql (.s 56) (.c (.t (.int .i64 4)))⟩, ⟨(some 106), none, .mov (.s 107)⟩])
 (.cond (.s 106)
 (.seq (.reg [⟨(some 108), none, .call false 72 (.agg [.str, .slc]) []⟩, ⟨none, none, .st (.agg [.str, .slc]) (.s 6) (.s 108)⟩, ⟨(some 7), none, .mov (.c .nilS)⟩, ⟨(some 8), none, .mov (.c (.t (.bool true)))⟩])
 .ret)
 (.seq (.reg [⟨(some 110), none, .bin .eql (.s 56) (.c (.t (.int .i64 5)))⟩, ⟨(some 109), none, .mov (.s 110)⟩])
 (.cond (.s 109)
 (.seq (.reg [⟨(some 111), none, .mov (.s 10)⟩, ⟨(some 112), none, .ia (.agg [.str, .slc]) (.s 111) (.c (.t (.int .i64 0)))⟩, ⟨(some 113), none, .fa 0 (.s 112)⟩, ⟨(some 114), none, .ld .str (.s 113)⟩, ⟨(some 115), none, .bin .eql (.s 114) (.c (.t (.str [78, 97, 116])))⟩])
 (.cond (.s 115)
 (.seq (.reg [⟨(some 116), none, .call false 72 (.agg [.str, .slc]) []⟩, ⟨none, none, .st (.agg [.str, .slc]) (.s 6) (.s 116)⟩, ⟨(some 7), none, .mov (.c .nilS)⟩, ⟨(some 8), none, .mov (.c (.t (.bool true)))⟩])
 .ret)
 .skip))
 (.seq (.reg [⟨(some 118), none, .bin .eql (.s 56) (.c (.t (.int .i64 6)))⟩, ⟨(some 117), none, .mov (.s 118)⟩])
 (.cond (.s 117)
 (.seq (.dreg [⟨(some 119), none, .mov (.s 10)⟩, ⟨(some 120), none, .ia (.agg [.str, .slc]) (.s 119) (.c (.t (.int .i64 0)))⟩, ⟨(some 121), none, .fa 0 (.s 120)⟩, ⟨(some 122), none, .ld .str (.s 121)⟩, ⟨(some 123), none, .bin .eql (.s 122) (.c (.t (.str [78, 97, 116])))⟩, ⟨(some 124), none, .mov (.s 123)⟩, ⟨(some 125), (some (124, true)), .mov (.s 10)⟩, ⟨(some 126), (some (124, true)), .ia (.agg [.str, .slc]) (.s 125) (.c (.t (.int .i64 1)))⟩, ⟨(some 127), (some (124, true)), .ld (.agg [.str, .slc]) (.s 126)⟩, ⟨(some 128), (some (124, true)), .mov (.s 10)⟩, ⟨(some 129), (some (124, true)), .ia (.agg [.str, .slc]) (.s 128) (.c (.t (.int .i64 2)))⟩, ⟨(some 130), (some (124, true)), .ld (.agg [.str, .slc]) (.s 129)⟩, ⟨(some 131), (some (124, true)), .mov (.s 10)⟩, ⟨(some 132), (some (124, true)), .ia (.agg [.str, .slc]) (.s 131) (.c (.t (.int .i64 2)))⟩, ⟨(some 133), (some (124, true)), .ld (.agg [.str, .slc]) (.s 132)⟩, ⟨(some 134), (some (124, true)), .call false 71 (.agg [.str, .slc]) [(.c (.t (.str [84, 111]))), (.s 130), (.s 133)]⟩, ⟨(some 135), (some (124, true)), .call false 16 .bool [(.s 127), (.s 134)]⟩, ⟨(some 136), none, .pick (.s 124) (.s 135) (.c (.t (.bool false)))⟩] [0, 1, 3, 7, 15, 31, 63, 127, 255, 63, 575, 1599, 63, 4159, 12351, 32319, 65535, 131071])
 (.cond (.s 136)
 (.seq (.reg [⟨(some 137), none, .mov (.s 10)⟩, ⟨(some 138), none, .ia (.agg [.str, .slc]) (.s 137) (.c (.t (.int .i64 2)))⟩, ⟨(some 139), none, .ld (.agg [.str, .slc]) (.s 138)⟩, ⟨none, none, .st (.agg [.str, .slc]) (.s 6) (.s 139)⟩, ⟨(some 7), none, .mov (.c .nilS)⟩, ⟨(some 8), none, .mov (.c (.t (.bool true)))⟩])
 .ret)
 .skip))
 (.seq (.reg [⟨(some 141), none, .bin .eql (.s 56) (.c (.t (.int .i64 7)))⟩, ⟨(some 140), none, .mov (.s 141)⟩])
 (.cond (.s 140)
 (.seq (.dreg [⟨(some 142), none, .mov (.s 10)⟩, ⟨(some 143), none, .ia (.agg [.str, .slc]) (.s 142) (.c (.t (.int .i64 0)))⟩, ⟨(some 144), none, .ld (.agg [.str, .slc]) (.s 143)⟩, ⟨(some 145), none, .mov (.s 10)⟩, ⟨(some 146), none, .ia (.agg [.str, .slc]) (.s 145) (.c (.t (.int .i64 1)))⟩, ⟨(some 147), none, .ld (.agg [.str, .slc]) (.s 146)⟩, ⟨(some 148), none, .call false 71 (.agg [.str, .slc]) [(.c (.t (.str [80, 97, 105, 114]))), (.s 144), (.s 147)]⟩, ⟨none, none, .st (.agg [.str, .slc]) (.s 6) (.s 148)⟩, ⟨(some 7), none, .mov (.c .nilS)⟩, ⟨(some 8), none, .mov (.c (.t (.bool true)))⟩] [0, 1, 3, 0, 8, 24, 63, 127, 255, 511])
 .ret)
 (.seq (.seq (.reg [⟨(some 150), none, .bin .eql (.s 56) (.c (.t (.int .i64 8)))⟩, ⟨(some 149), none, .mov (.s 150)⟩])
 (.cond (.s 149)
 .skip
 (.reg [⟨(some 151), none, .bin .eql (.s 56) (.c (.t (.int .i64 9)))⟩, ⟨(some 149), none, .mov (.s 151)⟩])))
 (.cond (.s 149)
 (.seq (.reg [⟨(some 152), none, .mov (.s 10)⟩, ⟨(some 153), none, .ia (.agg [.str, .slc]) (.s 152) (.c (.t (.int .i64 0)))⟩, ⟨(some 154), none, .fa 0 (.s 153)⟩, ⟨(some 155), none, .ld .str (.s 154)⟩, ⟨(some 156), none, .bin .eql (.s 155) (.c (.t (.str [80, 97, 105, 114])))⟩])
 (.cond (.s 156)
 (.seq (.dreg [⟨(some 157), none, .mov (.s 10)⟩, ⟨(some 158), none, .ia (.agg [.str, .slc]) (.s 157) (.c (.t (.int .i64 0)))⟩, ⟨(some 159), none, .fa 1 (.s 158)⟩, ⟨(some 160), none, .ld .slc (.s 159)⟩, ⟨(some 161), none, .fa 0 (.s 4)⟩, ⟨(some 162), none, .ld (.int .i64) (.s 161)⟩, ⟨(some 163), none, .bin .sub (.s 162) (.c (.t (.int .i64 8)))⟩, ⟨(some 164), none, .ia (.agg [.str, .slc]) (.s 160) (.s 163)⟩, ⟨(some 165), none, .ld (.agg [.str, .slc]) (.s 164)⟩, ⟨none, none, .st (.agg [.str, .slc]) (.s 6) (.s 165)⟩, ⟨(some 7), none, .mov (.c .nilS)⟩, ⟨(some 8), none, .mov (.c (.t (.bool true)))⟩] [0, 1, 3, 7, 0, 16, 48, 127, 255, 511, 1023, 2047])
 .ret)
 .skip))
 .skip))))))))))))))))))
 (.seq (.reg [⟨(some 166), none, .build [(.t (.str [])), .nilS] []⟩, ⟨(some 167), none, .mov (.s 2)⟩, ⟨none, none, .st (.agg [.str, .slc]) (.s 6) (.s 166)⟩, ⟨(some 7), none, .mov (.s 167)⟩, ⟨(some 8), none, .mov (.c (.t (.bool false)))⟩])
 .ret))))))),
 [.cell 6 (.agg [.str, .slc]), .slot 7, .slot 8]⟩
theorem ok50 : compF Try.prog 50 [[0, 2, 4, 6, 9, 10, 11]] [] = some ir50 := by kernel_rfl

/-- tenet/simple.shaped -/
def ir51 : FInfo := ⟨54,
 (.seq (.reg [⟨(some 1), none, .box (.agg [(.int .i64), (.int .i64), .str, .slc, .slc]) (.s 0)⟩, ⟨(some 2), none, .mov (.c (.t (.bool false)))⟩])
 (.seq (.reg [⟨(some 3), none, .mov (.c (.t (.int .i64 0)))⟩])
 (.seq (.seq (.reg [⟨(some 4), none, .fa 0 (.s 1)⟩, ⟨(some 5), none, .ld (.int .i64) (.s 4)⟩])
 (.block 0 (.seq (.reg [⟨(some 7), none, .bin .eql (.s 5) (.c (.t (.int .i64 1)))⟩, ⟨(some 6), none, .mov (.s 7)⟩])
 (.cond (.s 6)
 (.reg [⟨(some 3), none, .mov (.c (.t (.int .i64 200)))⟩])
 (.seq (.reg [⟨(some 9), none, .bin .eql (.s 5) (.c (.t (.int .i64 4)))⟩, ⟨(some 8), none, .mov (.s 9)⟩])
 (.cond (.s 8)
 (.reg [⟨(some 3), none, .mov (.c (.t (.int .i64 1000)))⟩])
 .skip))))))
 (.seq (.seq (.dreg [⟨(some 10), none, .fa 4 (.s 1)⟩, ⟨(some 11), none, .ld .slc (.s 10)⟩, ⟨(some 12), none, .len (.s 11)⟩, ⟨(some 13), none, .fa 0 (.s 1)⟩, ⟨(some 14), none, .ld (.int .i64) (.s 13)⟩, ⟨(some 15), none, .call false 73 (.int .i64) [(.s 14)]⟩, ⟨(some 16), none, .bin .neq (.s 12) (.s 15)⟩, ⟨(some 17), none, .mov (.s 16)⟩, ⟨(some 18), (some (17, false)), .fa 1 (.s 1)⟩, ⟨(some 19), (some (17, false)), .ld (.int .i64) (.s 18)⟩, ⟨(some 20), (some (17, false)), .bin .lss (.s 19) (.c (.t (.int .i64 0)))⟩, ⟨(some 21), none, .pick (.s 17) (.c (.t (.bool true))) (.s 20)⟩, ⟨(some 22), none, .mov (.s 21)⟩, ⟨(some 23), (some (22, false)), .fa 1 (.s 1)⟩, ⟨(some 24), (some (22, false)), .ld (.int .i64) (.s 23)⟩, ⟨(some 25), (some (22, false)), .mov (.s 3)⟩, ⟨(some 26), (some (22, false)), .bin .gtr (.s 24) (.s 25)⟩, ⟨(some 27), none, .pick (.s 22) (.c (.t (.bool true))) (.s 26)⟩, ⟨(some 28), none, .mov (.s 27)⟩, ⟨(some 29), (some (28, false)), .fa 0 (.s 1)⟩, ⟨(some 30), (some (28, false)), .ld (.int .i64) (.s 29)⟩, ⟨(some 31), (some (28, false)), .bin .eql (.s 30) (.c (.t (.int .i64 2)))⟩, ⟨(some 32), (some (28, false)), .mov (.s 31)⟩, ⟨(some 33), (some (32, true)), .fa 2 (.s 1)⟩, ⟨(some 34), (some (32, true)), .ld (.agg [.str, .slc]) (.s 33)⟩, ⟨(some 35), (some (32, true)), .call false 60 .bool [(.s 34)]⟩, ⟨(some 36), (some (32, true)), .un .not (.s 35)⟩, ⟨(some 37), (some (28, false)), .pick (.s 32) (.s 36) (.c (.t (.bool false)))⟩, ⟨(some 38), none, .pick (.s 28) (.c (.t (.bool true))) (.s 37)⟩, ⟨(some 39), none, .mov (.s 38)⟩, ⟨(some 40), (some (39, false)), .fa 0 (.s 1)⟩, ⟨(some 41), (some (39, false)), .ld (.int .i64) (.s 40)⟩, ⟨(some 42), (some (39, false)), .bin .neq (.s 41) (.c (.t (.int .i64 2)))⟩, ⟨(some 43), (some (39, false)), .mov (.s 42)⟩, ⟨(some 44), (some (43, true)), .fa 2 (.s 1)⟩, ⟨(some 45), (some (43, true)), .ld (.agg [.str, .slc]) (.s 44)⟩, ⟨(some 46), (some (43, true)), .call false 74 .bool [(.s 45)]⟩, ⟨(some 47), (some (43, true)), .un .not (.s 46)⟩, ⟨(some 48), (some (39, false)), .pick (.s 43) (.s 47) (.c (.t (.bool false)))⟩, ⟨(some 49), none, .pick (.s 39) (.c (.t (.bool true))) (.s 48)⟩] [0, 1, 3, 0, 8, 24, 63, 127, 255, 511, 1023, 2047, 4095, 8191, 16383, 8191, 65535, 131071, 262143, 524287, 1048575, 2097151, 4194303, 8388607, 16777215, 33554431, 67108863, 134217727, 268435455, 536870911, 1073741823, 2147483647, 4294967295, 8589934591, 17179869183, 34359738367, 68719476735, 137438953471, 274877906943, 549755813887])
 (.cond (.s 49)
 (.seq (.reg [⟨(some 2), none, .mov (.c (.t (.bool false)))⟩])
 .ret)
 .skip))
 (.seq (.reg [⟨(some 50), none, .fa 4 (.s 1)⟩, ⟨(some 51), none, .ld .slc (.s 50)⟩, ⟨(some 52), none, .call false 75 .bool [(.s 51), (.f 76)]⟩, ⟨(some 53), none, .un .not (.s 52)⟩, ⟨(some 2), none, .mov (.s 53)⟩])
 .ret))))),
 [.slot 2]⟩
theorem ok51 : compF Try.prog 51 [] [] = some ir51 := by kernel_rfl

/-- tenet/simple.Shift$1 -/
def ir52 : FInfo := ⟨37,
 (.seq (.reg [⟨(some 4), none, .box (.agg [(.int .i64), (.int .i64), .str, .slc, .slc]) (.s 0)⟩, ⟨(some 6), none, .new (.agg [(.int .i64), (.int .i64), .str, .slc, .slc]) (.agg [(.t (.int .i64 0)), (.t (.int .i64 0)), (.t (.str [])), .nilS, .nilS])⟩])
 (.seq (.seq (.reg [⟨(some 7), none, .fa 1 (.s 4)⟩, ⟨(some 8), none, .ld (.int .i64) (.s 7)⟩, ⟨(some 9), none, .mov (.s 1)⟩, ⟨(some 10), none, .bin .sub (.s 8) (.s 9)⟩, ⟨(some 11), none, .ld (.int .i64) (.s 2)⟩, ⟨(some 12), none, .bin .geq (.s 10) (.s 11)⟩, ⟨(some 13), none, .mov (.s 12)⟩, ⟨(some 14), (some (13, true)), .fa 1 (.s 4)⟩, ⟨(some 15), (some (13, true)), .ld (.int .i64) (.s 14)⟩, ⟨(some 16), (some (13, true)), .mov (.s 1)⟩, ⟨(some 17), (some (13, true)), .bin .sub (.s 15) (.s 16)⟩, ⟨(some 18), (some (13, true)), .ld (.int .i64) (.s 3)⟩, ⟨(some 19), (some (13, true)), .bin .add (.s 17) (.s 18)⟩, ⟨(some 20), (some (13, true)), .ld (.int .i64) (.s 2)⟩, ⟨(some 21), (some (13, true)), .bin .geq (.s 19) (.s 20)⟩, ⟨(some 22), none, .pick (.s 13) (.s 21) (.c (.t (.bool false)))⟩, ⟨(some 23), none, .mov (.s 22)⟩, ⟨(some 24), (some (23, true)), .fa 1 (.s 4)⟩, ⟨(some 25), (some (23, true)), .ld (.int .i64) (.s 24)⟩, ⟨(some 26), (some (23, true)), .ld (.int .i64) (.s 3)⟩, ⟨(some 27), (some (23, true)), .bin .add (.s 25) (.s 26)⟩, ⟨(some 28), (some (23, true)), .bin .geq (.s 27) (.c (.t (.int .i64 0)))⟩, ⟨(some 29), none, .pick (.s 23) (.s 28) (.c (.t (.bool false)))⟩])
 (.cond (.s 29)
 (.reg [⟨(some 30), none, .fa 1 (.s 4)⟩, ⟨(some 31), none, .ld (.int .i64) (.s 30)⟩, ⟨(some 32), none, .ld (.int .i64) (.s 3)⟩, ⟨(some 33), none, .bin .add (.s 31) (.s 32)⟩, ⟨(some 34), none, .fa 1 (.s 4)⟩, ⟨none, none, .st (.int .i64) (.s 34) (.s 33)⟩])
 .skip))
 (.seq (.reg [⟨(some 35), none, .ld (.agg [(.int .i64), (.int .i64), .str, .slc, .slc]) (.s 4)⟩, ⟨(some 36), none, .call false 42 (.agg [(.int .i64), (.int .i64), .str, .slc, .slc]) [(.s 35)]⟩, ⟨none, none, .st (.agg [(.int .i64), (.int .i64), .str, .slc, .slc]) (.s 6) (.s 36)⟩])
 .ret))),
 [.cell 6 (.agg [(.int .i64), (.int .i64), .str, .slc, .slc])]⟩
theorem ok52 : compF Try.prog 52 [] [] = some ir52 := by kernel_rfl

/-- tenet/tenetref25.shift -/
def ir53 : FInfo := ⟨67,
 (.seq (.reg [⟨(some 3), none, .box (.agg [(.int .i64), (.int .i64), .str, .slc, .slc]) (.s 0)⟩, ⟨(some 6), none, .new (.agg [(.int .i64), (.int .i64), .str, .slc, .slc]) (.agg [(.t (.int .i64 0)), (.t (.int .i64 0)), (.t (.str [])), .nilS, .nilS])⟩])
 (.seq (.reg [⟨(some 9), none, .fa 0 (.s 3)⟩, ⟨(some 10), none, .ld (.int .i64) (.s 9)⟩, ⟨(some 11), none, .fa 1 (.s 3)⟩, ⟨(some 12), none, .ld (.int .i64) (.s 11)⟩, ⟨(some 13), none, .fa 2 (.s 3)⟩, ⟨(some 14), none, .ld (.agg [.str, .slc]) (.s 13)⟩, ⟨(some 15), none, .build [(.t (.int .i64 0)), (.t (.int .i64 0)), (.t (.str [])), .nilS, .nilS] [(0, (.int .i64), (.s 10)), (1, (.int .i64), (.s 12)), (2, (.agg [.str, .slc]), (.s 14))]⟩, ⟨(some 7), none, .new (.agg [(.int .i64), (.int .i64), .str, .slc, .slc]) (.agg [(.t (.int .i64 0)), (.t (.int .i64 0)), (.t (.str [])), .nilS, .nilS])⟩, ⟨none, none, .st (.agg [(.int .i64), (.int .i64), .str, .slc, .slc]) (.s 7) (.s 15)⟩])
 (.seq (.seq (.reg [⟨(some 16), none, .fa 0 (.s 3)⟩, ⟨(some 17), none, .ld (.int .i64) (.s 16)⟩, ⟨(some 18), none, .bin .eql (.s 17) (.c (.t (.int .i64 1)))⟩, ⟨(some 19), none, .mov (.s 18)⟩, ⟨(some 20), (some (19, true)), .fa 1 (.s 3)⟩, ⟨(some 21), (some (19, true)), .ld (.int .i64) (.s 20)⟩, ⟨(some 22), (some (19, true)), .bin .geq (.s 21) (.c (.t (.int .i64 0)))⟩, ⟨(some 23), none, .pick (.s 19) (.s 22) (.c (.t (.bool false)))⟩, ⟨(some 24), none, .mov (.s 23)⟩, ⟨(some 25), (some (24, true)), .fa 1 (.s 3)⟩, ⟨(some 26), (some (24, true)), .ld (.int .i64) (.s 25)⟩, ⟨(some 27), (some (24, true)), .mov (.s 2)⟩, ⟨(some 28), (some (24, true)), .bin .geq (.s 26) (.s 27)⟩, ⟨(some 29), none, .pick (.s 24) (.s 28) (.c (.t (.bool false)))⟩, ⟨(some 30), none, .mov (.s 29)⟩, ⟨(some 31), (some (30, true)), .fa 1 (.s 3)⟩, ⟨(some 32), (some (30, true)), .ld (.int .i64) (.s 31)⟩, ⟨(some 33), (some (30, true)), .mov (.s 1)⟩, ⟨(some 34), (some (30, true)), .bin .add (.s 32) (.s 33)⟩, ⟨(some 35), (some (30, true)), .mov (.s 2)⟩, ⟨(some 36), (some (30, true)), .bin .geq (.s 34) (.s 35)⟩, ⟨(some 37), none, .pick (.s 30) (.s 36) (.c (.t (.bool false)))⟩])
 (.cond (.s 37)
 (.reg [⟨(some 38), none, .fa 1 (.s 3)⟩, ⟨(some 39), none, .ld (.int .i64) (.s 38)⟩, ⟨(some 40), none, .mov (.s 1)⟩, ⟨(some 41), none, .bin .add (.s 39) (.s 40)⟩, ⟨(some 42), none, .fa 1 (.s 7)⟩, ⟨none, none, .st (.int .i64) (.s 42) (.s 41)⟩])
 .skip))
 (.seq (.seq (.reg [⟨(some 8), none, .mov (.c (.t (.int .i64 0)))⟩])
 (.block 0 (.loop [1, 2, 3, 6, 7, 8] (.seq (.seq (.reg [⟨(some 43), none, .mov (.s 8)⟩, ⟨(some 44), none, .fa 4 (.s 3)⟩, ⟨(some 45), none, .ld .slc (.s 44)⟩, ⟨(some 46), none, .len (.s 45)⟩, ⟨(some 47), none, .bin .lss (.s 43) (.s 46)⟩])
 (.cond (.s 47)
 .skip
 (.exit 0)))
 (.seq (.block 1 (.dreg [⟨(some 50), none, .fa 4 (.s 7)⟩, ⟨(some 51), none, .ld .slc (.s 50)⟩, ⟨(some 52), none, .fa 4 (.s 3)⟩, ⟨(some 53), none, .ld .slc (.s 52)⟩, ⟨(some 54), none, .mov (.s 8)⟩, ⟨(some 55), none, .ia (.agg [(.int .i64), (.int .i64), .str, .slc, .slc]) (.s 53) (.s 54)⟩, ⟨(some 56), none, .ld (.agg [(.int .i64), (.int .i64), .str, .slc, .slc]) (.s 55)⟩, ⟨(some 57), none, .mov (.s 1)⟩, ⟨(some 58), none, .mov (.s 2)⟩, ⟨(some 59), none, .ld (.agg [(.int .i64), (.int .i64), .str, .slc, .slc]) (.s 3)⟩, ⟨(some 60), none, .call false 77 (.int .i64) [(.s 59)]⟩, ⟨(some 61), none, .bin .add (.s 58) (.s 60)⟩, ⟨(some 62), none, .call false 53 (.agg [(.int .i64), (.int .i64), .str, .slc, .slc]) [(.s 56), (.s 57), (.s 61)]⟩, ⟨(some 63), none, .bsl (.agg [(.int .i64), (.int .i64), .str, .slc, .slc]) (.agg [(.t (.int .i64 0)), (.t (.int .i64 0)), (.t (.str [])), .nilS, .nilS]) 1 [(0, (.s 62))]⟩, ⟨(some 64), none, .app (.agg [(.int .i64), (.int .i64), .str, .slc, .slc]) 80 (.s 51) (.s 63)⟩, ⟨(some 65), none, .fa 4 (.s 7)⟩, ⟨none, none, .st .slc (.s 65) (.s 64)⟩] [0, 1, 0, 4, 0, 28, 60, 0, 0, 0, 512, 1792, 4092, 8188, 16383, 32767, 65535]))
 (.reg [⟨(some 48), none, .mov (.s 8)⟩, ⟨(some 49), none, .bin .add (.s 48) (.c (.t (.int .i64 1)))⟩, ⟨(some 8), none, .mov (.s 49)⟩]))))))
 (.seq (.reg [⟨(some 66), none, .ld (.agg [(.int .i64), (.int .i64), .str, .slc, .slc]) (.s 7)⟩, ⟨none, none, .st (.agg [(.int .i64), (.int .i64), .str, .slc, .slc]) (.s 6) (.s 66)⟩])
 .ret))))),
 [.cell 6 (.agg [(.int .i64), (.int .i64), .str, .slc, .slc])]⟩
theorem ok53 : compF Try.prog 53 [[1, 2, 3, 6, 7, 8]] [] = some ir53 := by kernel_rfl

/-- tenet/tenetref25.subst -/
def ir54 : FInfo := ⟨72,
 (.seq (.reg [⟨(some 4), none, .box (.agg [(.int .i64), (.int .i64), .str, .slc, .slc]) (.s 0)⟩, ⟨(some 6), none, .box (.agg [(.int .i64), (.int .i64), .str, .slc, .slc]) (.s 2)⟩, ⟨(some 8), none, .new (.agg [(.int .i64), (.int .i64), .str, .slc, .slc]) (.agg [(.t (.int .i64 0)), (.t (.int .i64 0)), (.t (.str [])), .nilS, .nilS])⟩])
 (.seq (.seq (.reg [⟨(some 11), none, .fa 0 (.s 4)⟩, ⟨(some 12), none, .ld (.int .i64) (.s 11)⟩, ⟨(some 13), none, .bin .eql (.s 12) (.c (.t (.int .i64 1)))⟩, ⟨(some 14), none, .mov (.s 13)⟩, ⟨(some 15), (some (14, true)), .fa 1 (.s 4)⟩, ⟨(some 16), (some (14, true)), .ld (.int .i64) (.s 15)⟩, ⟨(some 17), (some (14, true)), .mov (.s 1)⟩, ⟨(some 18), (some (14, true)), .mov (.s 3)⟩, ⟨(some 19), (some (14, true)), .bin .add (.s 17) (.s 18)⟩, ⟨(some 20), (some (14, true)), .bin .eql (.s 16) (.s 19)⟩, ⟨(some 21), none, .pick (.s 14) (.s 20) (.c (.t (.bool false)))⟩])
 (.cond (.s 21)
 (.seq (.reg [⟨(some 22), none, .ld (.agg [(.int .i64), (.int .i64), .str, .slc, .slc]) (.s 6)⟩, ⟨(some 23), none, .mov (.s 3)⟩, ⟨(some 24), none, .call false 32 (.agg [(.int .i64), (.int .i64), .str, .slc, .slc]) [(.s 22), (.s 23), (.c (.t (.int .i64 0)))]⟩, ⟨none, none, .st (.agg [(.int .i64), (.int .i64), .str, .slc, .slc]) (.s 8) (.s 24)⟩])
 .ret)
 .skip))
 (.seq (.reg [⟨(some 25), none, .fa 0 (.s 4)⟩, ⟨(some 26), none, .ld (.int .i64) (.s 25)⟩, ⟨(some 27), none, .fa 1 (.s 4)⟩, ⟨(some 28), none, .ld (.int .i64) (.s 27)⟩, ⟨(some 29), none, .fa 2 (.s 4)⟩, ⟨(some 30), none, .ld (.agg [.str, .slc]) (.s 29)⟩, ⟨(some 31), none, .build [(.t (.int .i64 0)), (.t (.int .i64 0)), (.t (.str [])), .nilS, .nilS] [(0, (.int .i64), (.s 26)), (1, (.int .i64), (.s 28)), (2, (.agg [.str, .slc]), (.s 30))]⟩, ⟨(some 9), none, .new (.agg [(.int .i64), (.int .i64), .str, .slc, .slc]) (.agg [(.t (.int .i64 0)), (.t (.int .i64 0)), (.t (.str [])), .nilS, .nilS])⟩, ⟨none, none, .st (.agg [(.int .i64), (.int .i64), .str, .slc, .slc]) (.s 9) (.s 31)⟩])
 (.seq (.seq (.reg [⟨(some 32), none, .fa 0 (.s 4)⟩, ⟨(some 33), none, .ld (.int .i64) (.s 32)⟩, ⟨(some 34), none, .bin .eql (.s 33) (.c (.t (.int .i64 1)))⟩, ⟨(some 35), none, .mov (.s 34)⟩, ⟨(some 36), (some (35, true)), .fa 1 (.s 4)⟩, ⟨(some 37), (some (35, true)), .ld (.int .i64) (.s 36)⟩, ⟨(some 38), (some (35, true)), .mov (.s 1)⟩, ⟨(some 39), (some (35, true)), .mov (.s 3)⟩, ⟨(some 40), (some (35, true)), .bin .add (.s 38) (.s 39)⟩, ⟨(some 41), (some (35, true)), .bin .gtr (.s 37) (.s 40)⟩, ⟨(some 42), none, .pick (.s 35) (.s 41) (.c (.t (.bool false)))⟩])
 (.cond (.s 42)
 (.reg [⟨(some 43), none, .fa 1 (.s 4)⟩, ⟨(some 44), none, .ld (.int .i64) (.s 43)⟩, ⟨(some 45), none, .bin .sub (.s 44) (.c (.t (.int .i64 1)))⟩, ⟨(some 46), none, .fa 1 (.s 9)⟩, ⟨none, none, .st (.int .i64) (.s 46) (.s 45)⟩])
 .skip))
 (.seq (.seq (.reg [⟨(some 10), none, .mov (.c (.t (.int .i64 0)))⟩])
 (.block 0 (.loop [1, 3, 4, 6, 8, 9, 10] (.seq (.seq (.reg [⟨(some 47), none, .mov (.s 10)⟩, ⟨(some 48), none, .fa 4 (.s 4)⟩, ⟨(some 49), none, .ld .slc (.s 48)⟩, ⟨(some 50), none, .len (.s 49)⟩, ⟨(some 51), none, .bin .lss (.s 47) (.s 50)⟩])
 (.cond (.s 51)
 .skip
 (.exit 0)))
 (.seq (.block 1 (.dreg [⟨(some 54), none, .fa 4 (.s 9)⟩, ⟨(some 55), none, .ld .slc (.s 54)⟩, ⟨(some 56), none, .fa 4 (.s 4)⟩, ⟨(some 57), none, .ld .slc (.s 56)⟩, ⟨(some 58), none, .mov (.s 10)⟩, ⟨(some 59), none, .ia (.agg [(.int .i64), (.int .i64), .str, .slc, .slc]) (.s 57) (.s 58)⟩, ⟨(some 60), none, .ld (.agg [(.int .i64), (.int .i64), .str, .slc, .slc]) (.s 59)⟩, ⟨(some 61), none, .mov (.s 1)⟩, ⟨(some 62), none, .ld (.agg [(.int .i64), (.int .i64), .str, .slc, .slc]) (.s 6)⟩, ⟨(some 63), none, .mov (.s 3)⟩, ⟨(some 64), none, .ld (.agg [(.int .i64), (.int .i64), .str, .slc, .slc]) (.s 4)⟩, ⟨(some 65), none, .call false 77 (.int .i64) [(.s 64)]⟩, ⟨(some 66), none, .bin .add (.s 63) (.s 65)⟩, ⟨(some 67), none, .call false 54 (.agg [(.int .i64), (.int .i64), .str, .slc, .slc]) [(.s 60), (.s 61), (.s 62), (.s 66)]⟩, ⟨(some 68), none, .bsl (.agg [(.int .i64), (.int .i64), .str, .slc, .slc]) (.agg [(.t (.int .i64 0)), (.t (.int .i64 0)), (.t (.str [])), .nilS, .nilS]) 1 [(0, (.s 67))]⟩, ⟨(some 69), none, .app (.agg [(.int .i64), (.int .i64), .str, .slc, .slc]) 80 (.s 55) (.s 68)⟩, ⟨(some 70), none, .fa 4 (.s 9)⟩, ⟨none, none, .st .slc (.s 70) (.s 69)⟩] [0, 1, 0, 4, 0, 28, 60, 0, 0, 0, 0, 1024, 3584, 8188, 16380, 32767, 65535, 131071]))
 (.reg [⟨(some 52), none, .mov (.s 10)⟩, ⟨(some 53), none, .bin .add (.s 52) (.c (.t (.int .i64 1)))⟩, ⟨(some 10), none, .mov (.s 53)⟩]))))))
 (.seq (.reg [⟨(some 71), none, .ld (.agg [(.int .i64), (.int .i64), .str, .slc, .slc]) (.s 9)⟩, ⟨none, none, .st (.agg [(.int .i64), (.int .i64), .str, .slc, .slc]) (.s 8) (.s 71)⟩])
 .ret)))))),
 [.cell 8 (.agg [(.int .i64), (.int .i64), .str, .slc, .slc])]⟩
theorem ok54 : compF Try.prog 54 [[1, 3, 4, 6, 8, 9, 10]] [] = some ir54 := by kernel_rfl

/-- tenet/simple.sameType -/
def ir56 : FInfo := ⟨17,
 (.seq (.reg [⟨(some 2), none, .box (.agg [.str, .slc]) (.s 0)⟩, ⟨(some 3), none, .box (.agg [.str, .slc]) (.s 1)⟩, ⟨(some 4), none, .mov (.c (.t (.bool false)))⟩])
 (.seq (.reg [⟨(some 5), none, .fa 0 (.s 2)⟩, ⟨(some 6), none, .ld .str (.s 5)⟩, ⟨(some 7), none, .fa 0 (.s 3)⟩, ⟨(some 8), none, .ld .str (.s 7)⟩, ⟨(some 9), none, .bin .eql (.s 6) (.s 8)⟩, ⟨(some 10), none, .mov (.s 9)⟩, ⟨(some 11), (some (10, true)), .fa 1 (.s 2)⟩, ⟨(some 12), (some (10, true)), .ld .slc (.s 11)⟩, ⟨(some 13), (some (10, true)), .fa 1 (.s 3)⟩, ⟨(some 14), (some (10, true)), .ld .slc (.s 13)⟩, ⟨(some 15), (some (10, true)), .call false 78 .bool [(.s 12), (.s 14), (.f 56)]⟩, ⟨(some 16), none, .pick (.s 10) (.s 15) (.c (.t (.bool false)))⟩, ⟨(some 4), none, .mov (.s 16)⟩])
 .ret)),
 [.slot 4]⟩
theorem ok56 : compF Try.prog 56 [] [] = some ir56 := by kernel_rfl

/-- slices.EqualFunc[[]tenet/api.Lam,[]tenet/api.Lam,tenet/api.Lam,tenet/api.Lam] -/
def ir57 : FInfo := ⟨32,
 (.seq (.reg [⟨(some 6), none, .mov (.c (.t (.bool false)))⟩])
 (.seq (.seq (.reg [⟨(some 10), none, .mov (.s 0)⟩, ⟨(some 11), none, .len (.s 10)⟩, ⟨(some 12), none, .mov (.s 1)⟩, ⟨(some 13), none, .len (.s 12)⟩, ⟨(some 14), none, .bin .neq (.s 11) (.s 13)⟩])
 (.cond (.s 14)
 (.seq (.reg [⟨(some 6), none, .mov (.c (.t (.bool false)))⟩])
 .ret)
 .skip))
 (.seq (.seq (.reg [⟨(some 15), none, .mov (.s 0)⟩, ⟨(some 16), none, .len (.s 15)⟩, ⟨(some 17), none, .mov (.c (.t (.int .i64 0)))⟩])
 (.block 0 (.loop [1, 2, 15, 16, 17] (.seq (.reg [⟨(some 18), none, .bin .lss (.s 17) (.s 16)⟩])
 (.seq (.cond (.s 18)
 .skip
 (.exit 0))
 (.seq (.block 1 (.seq (.reg [⟨(some 19), none, .mov (.s 17)⟩, ⟨(some 20), none, .ia (.agg [(.int .i64), (.int .i64), .str, .slc, .slc]) (.s 15) (.s 17)⟩, ⟨(some 21), none, .ld (.agg [(.int .i64), (.int .i64), .str, .slc, .slc]) (.s 20)⟩, ⟨(some 8), none, .new (.agg [(.int .i64), (.int .i64), .str, .slc, .slc]) (.agg [(.t (.int .i64 0)), (.t (.int .i64 0)), (.t (.str [])), .nilS, .nilS])⟩, ⟨(some 7), none, .mov (.s 19)⟩, ⟨none, none, .st (.agg [(.int .i64), (.int .i64), .str, .slc, .slc]) (.s 8) (.s 21)⟩])
 (.seq (.reg [⟨(some 22), none, .mov (.s 1)⟩, ⟨(some 23), none, .mov (.s 7)⟩, ⟨(some 24), none, .ia (.agg [(.int .i64), (.int .i64), .str, .slc, .slc]) (.s 22) (.s 23)⟩, ⟨(some 25), none, .ld (.agg [(.int .i64), (.int .i64), .str, .slc, .slc]) (.s 24)⟩, ⟨(some 9), none, .new (.agg [(.int .i64), (.int .i64), .str, .slc, .slc]) (.agg [(.t (.int .i64 0)), (.t (.int .i64 0)), (.t (.str [])), .nilS, .nilS])⟩, ⟨none, none, .st (.agg [(.int .i64), (.int .i64), .str, .slc, .slc]) (.s 9) (.s 25)⟩])
 (.seq (.reg [⟨(some 26), none, .mov (.s 2)⟩, ⟨(some 27), none, .ld (.agg [(.int .i64), (.int .i64), .str, .slc, .slc]) (.s 8)⟩, ⟨(some 28), none, .ld (.agg [(.int .i64), (.int .i64), .str, .slc, .slc]) (.s 9)⟩, ⟨(some 29), none, .callv (.s 26) .bool [(.s 27), (.s 28)]⟩, ⟨(some 30), none, .un .not (.s 29)⟩])
 (.cond (.s 30)
 (.seq (.reg [⟨(some 6), none, .mov (.c (.t (.bool false)))⟩])
 .ret)
 .skip)))))
 (.reg [⟨(some 31), none, .bin .add (.s 17) (.c (.t (.int .i64 1)))⟩, ⟨(some 17), none, .mov (.s 31)⟩])))))))
 (.seq (.reg [⟨(some 6), none, .mov (.c (.t (.bool true)))⟩])
 .ret)))),
 [.slot 6]⟩
theorem ok57 : compF Try.prog 57 [[1, 2, 15, 16, 17]] [] = some ir57 := by kernel_rfl

/-- slices.ContainsFunc[[]tenet/api.Ty,tenet/api.Ty] -/
def ir58 : FInfo := ⟨9,
 (.seq (.reg [⟨(some 4), none, .mov (.c (.t (.bool false)))⟩])
 (.seq (.reg [⟨(some 5), none, .mov (.s 0)⟩, ⟨(some 6), none, .mov (.s 1)⟩, ⟨(some 7), none, .call false 79 (.int .i64) [(.s 5), (.s 6)]⟩, ⟨(some 8), none, .bin .geq (.s 7) (.c (.t (.int .i64 0)))⟩, ⟨(some 4), none, .mov (.s 8)⟩])
 .ret)),
 [.slot 4]⟩
theorem ok58 : compF Try.prog 58 [] [] = some ir58 := by kernel_rfl

/-- tenet/simple.given$1 -/
def ir59 : FInfo := ⟨6,
 (.seq (.reg [⟨(some 1), none, .box (.agg [.str, .slc]) (.s 0)⟩, ⟨(some 2), none, .mov (.c (.t (.bool false)))⟩])
 (.seq (.reg [⟨(some 3), none, .ld (.agg [.str, .slc]) (.s 1)⟩, ⟨(some 4), none, .call false 60 .bool [(.s 3)]⟩, ⟨(some 5), none, .un .not (.s 4)⟩, ⟨(some 2), none, .mov (.s 5)⟩])
 .ret)),
 [.slot 2]⟩
theorem ok59 : compF Try.prog 59 [] [] = some ir59 := by kernel_rfl

/-- tenet/simple.isType -/
def ir60 : FInfo := ⟨20,
 (.seq (.reg [⟨(some 1), none, .box (.agg [.str, .slc]) (.s 0)⟩, ⟨(some 2), none, .mov (.c (.t (.bool false)))⟩])
 (.seq (.reg [⟨(some 6), none, .ld (.agg [.str, .slc]) (.s 1)⟩, ⟨(some 7), none, .call false 80 (.tup [(.int .i64), (.int .i64)]) [(.s 6)]⟩, ⟨(some 5), none, .mov (.s 7)⟩, ⟨(some 8), none, .ext 0 (.s 5)⟩, ⟨(some 9), none, .ext 1 (.s 5)⟩, ⟨(some 3), none, .mov (.s 8)⟩, ⟨(some 4), none, .mov (.s 9)⟩])
 (.seq (.reg [⟨(some 10), none, .mov (.s 3)⟩, ⟨(some 11), none, .bin .leq (.s 10) (.c (.t (.int .i64 60)))⟩, ⟨(some 12), none, .mov (.s 11)⟩, ⟨(some 13), (some (12, true)), .mov (.s 4)⟩, ⟨(some 14), (some (12, true)), .bin .leq (.s 13) (.c (.t (.int .i64 12)))⟩, ⟨(some 15), none, .pick (.s 12) (.s 14) (.c (.t (.bool false)))⟩, ⟨(some 16), none, .mov (.s 15)⟩, ⟨(some 17), (some (16, true)), .ld (.agg [.str, .slc]) (.s 1)⟩, ⟨(some 18), (some (16, true)), .call false 81 .bool [(.s 17)]⟩, ⟨(some 19), none, .pick (.s 16) (.s 18) (.c (.t (.bool false)))⟩, ⟨(some 2), none, .mov (.s 19)⟩])
 .ret))),
 [.slot 2]⟩
theorem ok60 : compF Try.prog 60 [] [] = some ir60 := by kernel_rfl

/-- slices.Clip[[]tenet/api.Ty,tenet/api.Ty] -/
def ir61 : FInfo := ⟨9,
 (.seq (.reg [⟨(some 2), none, .mov (.c .nilS)⟩])
 (.seq (.reg [⟨(some 3), none, .mov (.s 0)⟩, ⟨(some 4), none, .mov (.s 0)⟩, ⟨(some 5), none, .len (.s 4)⟩, ⟨(some 6), none, .mov (.s 0)⟩, ⟨(some 7), none, .len (.s 6)⟩, ⟨(some 8), none, .sub (.agg [.str, .slc]) (.s 3) none (some (.s 5)) (some (.s 7))⟩, ⟨(some 2), none, .mov (.s 8)⟩])
 .ret)),
 [.slot 2]⟩
theorem ok61 : compF Try.prog 61 [] [] = some ir61 := by kernel_rfl

/-- tenet/simple.rule -/
def ir62 : FInfo := ⟨115,
 (.seq (.reg [⟨(some 4), none, .box (.agg [(.int .i64), (.int .i64), .str, .slc, .slc]) (.s 1)⟩, ⟨(some 6), none, .new (.agg [.str, .slc]) (.agg [(.t (.str [])), .nilS])⟩, ⟨(some 7), none, .mov (.c (.t (.bool false)))⟩])
 (.seq (.seq (.reg [⟨(some 8), none, .fa 0 (.s 4)⟩, ⟨(some 9), none, .ld (.int .i64) (.s 8)⟩])
 (.block 0 (.seq (.reg [⟨(some 11), none, .bin .eql (.s 9) (.c (.t (.int .i64 1)))⟩, ⟨(some 10), none, .mov (.s 11)⟩])
 (.cond (.s 10)
 (.seq (.reg [⟨(some 12), none, .fa 1 (.s 4)⟩, ⟨(some 13), none, .ld (.int .i64) (.s 12)⟩, ⟨(some 14), none, .mov (.s 0)⟩, ⟨(some 15), none, .len (.s 14)⟩, ⟨(some 16), none, .bin .lss (.s 13) (.s 15)⟩])
 (.cond (.s 16)
 (.seq (.reg [⟨(some 17), none, .mov (.s 0)⟩, ⟨(some 18), none, .mov (.s 0)⟩, ⟨(some 19), none, .len (.s 18)⟩, ⟨(some 20), none, .bin .sub (.s 19) (.c (.t (.int .i64 1)))⟩, ⟨(some 21), none, .fa 1 (.s 4)⟩, ⟨(some 22), none, .ld (.int .i64) (.s 21)⟩, ⟨(some 23), none, .bin .sub (.s 20) (.s 22)⟩, ⟨(some 24), none, .ia (.agg [.str, .slc]) (.s 17) (.s 23)⟩, ⟨(some 25), none, .ld (.agg [.str, .slc]) (.s 24)⟩, ⟨none, none, .st (.agg [.str, .slc]) (.s 6) (.s 25)⟩, ⟨(some 7), none, .mov (.c (.t (.bool true)))⟩])
 .ret)
 .skip))
 (.seq (.reg [⟨(some 27), none, .bin .eql (.s 9) (.c (.t (.int .i64 2)))⟩, ⟨(some 26), none, .mov (.s 27)⟩])
 (.cond (.s 26)
 (.seq (.dreg [⟨(some 28), none, .fa 2 (.s 4)⟩, ⟨(some 29), none, .ld (.agg [.str, .slc]) (.s 28)⟩, ⟨(some 30), none, .mov (.s 2)⟩, ⟨(some 31), none, .ia (.agg [.str, .slc]) (.s 30) (.c (.t (.int .i64 0)))⟩, ⟨(some 32), none, .ld (.agg [.str, .slc]) (.s 31)⟩, ⟨(some 33), none, .call false 82 (.agg [.str, .slc]) [(.s 29), (.s 32)]⟩, ⟨none, none, .st (.agg [.str, .slc]) (.s 6) (.s 33)⟩, ⟨(some 7), none, .mov (.c (.t (.bool true)))⟩] [0, 1, 0, 4, 12, 31, 63, 127])
 .ret)
 (.seq (.reg [⟨(some 35), none, .bin .eql (.s 9) (.c (.t (.int .i64 3)))⟩, ⟨(some 34), none, .mov (.s 35)⟩])
 (.cond (.s 34)
 (.seq (.dreg [⟨(some 36), none, .mov (.s 2)⟩, ⟨(some 37), none, .ia (.agg [.str, .slc]) (.s 36) (.c (.t (.int .i64 0)))⟩, ⟨(some 38), none, .fa 0 (.s 37)⟩, ⟨(some 39), none, .ld .str (.s 38)⟩, ⟨(some 40), none, .bin .eql (.s 39) (.c (.t (.str [84, 111])))⟩, ⟨(some 41), none, .mov (.s 40)⟩, ⟨(some 42), (some (41, true)), .mov (.s 2)⟩, ⟨(some 43), (some (41, true)), .ia (.agg [.str, .slc]) (.s 42) (.c (.t (.int .i64 0)))⟩, ⟨(some 44), (some (41, true)), .fa 1 (.s 43)⟩, ⟨(some 45), (some (41, true)), .ld .slc (.s 44)⟩, ⟨(some 46), (some (41, true)), .ia (.agg [.str, .slc]) (.s 45) (.c (.t (.int .i64 0)))⟩, ⟨(some 47), (some (41, true)), .ld (.agg [.str, .slc]) (.s 46)⟩, ⟨(some 48), (some (41, true)), .mov (.s 2)⟩, ⟨(some 49), (some (41, true)), .ia (.agg [.str, .slc]) (.s 48) (.c (.t (.int .i64 1)))⟩, ⟨(some 50), (some (41, true)), .ld (.agg [.str, .slc]) (.s 49)⟩, ⟨(some 51), (some (41, true)), .call false 56 .bool [(.s 47), (.s 50)]⟩, ⟨(some 52), none, .pick (.s 41) (.s 51) (.c (.t (.bool false)))⟩] [0, 1, 3, 7, 15, 31, 63, 127, 255, 511, 1023, 2047, 63, 4159, 12351, 32767, 65535])
 (.cond (.s 52)
 (.seq (.reg [⟨(some 53), none, .mov (.s 2)⟩, ⟨(some 54), none, .ia (.agg [.str, .slc]) (.s 53) (.c (.t (.int .i64 0)))⟩, ⟨(some 55), none, .fa 1 (.s 54)⟩, ⟨(some 56), none, .ld .slc (.s 55)⟩, ⟨(some 57), none, .ia (.agg [.str, .slc]) (.s 56) (.c (.t (.int .i64 1)))⟩, ⟨(some 58), none, .ld (.agg [.str, .slc]) (.s 57)⟩, ⟨none, none, .st (.agg [.str, .slc]) (.s 6) (.s 58)⟩, ⟨(some 7), none, .mov (.c (.t (.bool true)))⟩])
 .ret)
 .skip))
 (.seq (.reg [⟨(some 60), none, .bin .eql (.s 9) (.c (.t (.int .i64 4)))⟩, ⟨(some 59), none, .mov (.s 60)⟩])
 (.cond (.s 59)
 (.seq (.reg [⟨(some 61), none, .call false 83 (.agg [.str, .slc]) []⟩, ⟨none, none, .st (.agg [.str, .slc]) (.s 6) (.s 61)⟩, ⟨(some 7), none, .mov (.c (.t (.bool true)))⟩])
 .ret)
 (.seq (.reg [⟨(some 63), none, .bin .eql (.s 9) (.c (.t (.int .i64 5)))⟩, ⟨(some 62), none, .mov (.s 63)⟩])
 (.cond (.s 62)
 (.seq (.dreg [⟨(some 64), none, .call false 83 (.agg [.str, .slc]) []⟩, ⟨(some 65), none, .mov (.s 2)⟩, ⟨(some 66), none, .ia (.agg [.str, .slc]) (.s 65) (.c (.t (.int .i64 0)))⟩, ⟨(some 67), none, .fa 0 (.s 66)⟩, ⟨(some 68), none, .ld .str (.s 67)⟩, ⟨(some 69), none, .bin .eql (.s 68) (.c (.t (.str [78, 97, 116])))⟩, ⟨none, none, .st (.agg [.str, .slc]) (.s 6) (.s 64)⟩, ⟨(some 7), none, .mov (.s 69)⟩] [0, 0, 2, 6, 14, 30, 1, 127])
 .ret)
 (.seq (.reg [⟨(some 71), none, .bin .eql (.s 9) (.c (.t (.int .i64 6)))⟩, ⟨(some 70), none, .mov (.s 71)⟩])
 (.cond (.s 70)
 (.seq (.dreg [⟨(some 72), none, .mov (.s 2)⟩, ⟨(some 73), none, .ia (.agg [.str, .slc]) (.s 72) (.c (.t (.int .i64 2)))⟩, ⟨(some 74), none, .ld (.agg [.str, .slc]) (.s 73)⟩, ⟨(some 75), none, .mov (.s 2)⟩, ⟨(some 76), none, .ia (.agg [.str, .slc]) (.s 75) (.c (.t (.int .i64 0)))⟩, ⟨(some 77), none, .fa 0 (.s 76)⟩, ⟨(some 78), none, .ld .str (.s 77)⟩, ⟨(some 79), none, .bin .eql (.s 78) (.c (.t (.str [78, 97, 116])))⟩, ⟨(some 80), none, .mov (.s 79)⟩, ⟨(some 81), (some (80, true)), .mov (.s 2)⟩, ⟨(some 82), (some (80, true)), .ia (.agg [.str, .slc]) (.s 81) (.c (.t (.int .i64 1)))⟩, ⟨(some 83), (some (80, true)), .ld (.agg [.str, .slc]) (.s 82)⟩, ⟨(some 84), (some (80, true)), .mov (.s 2)⟩, ⟨(some 85), (some (80, true)), .ia (.agg [.str, .slc]) (.s 84) (.c (.t (.int .i64 2)))⟩, ⟨(some 86), (some (80, true)), .ld (.agg [.str, .slc]) (.s 85)⟩, ⟨(some 87), (some (80, true)), .mov (.s 2)⟩, ⟨(some 88), (some (80, true)), .ia (.agg [.str, .slc]) (.s 87) (.c (.t (.int .i64 2)))⟩, ⟨(some 89), (some (80, true)), .ld (.agg [.str, .slc]) (.s 88)⟩, ⟨(some 90), (some (80, true)), .call false 82 (.agg [.str, .slc]) [(.s 86), (.s 89)]⟩, ⟨(some 91), (some (80, true)), .call false 56 .bool [(.s 83), (.s 90)]⟩, ⟨(some 92), none, .pick (.s 80) (.s 91) (.c (.t (.bool false)))⟩, ⟨none, none, .st (.agg [.str, .slc]) (.s 6) (.s 74)⟩, ⟨(some 7), none, .mov (.s 92)⟩] [0, 1, 3, 0, 8, 24, 56, 120, 248, 504, 1016, 2040, 504, 4600, 12792, 504, 33272, 98808, 258552, 524280, 1048568, 1048575, 4194303])
 .ret)
 (.seq (.reg [⟨(some 94), none, .bin .eql (.s 9) (.c (.t (.int .i64 7)))⟩, ⟨(some 93), none, .mov (.s 94)⟩])
 (.cond (.s 93)
 (.seq (.reg [⟨(some 95), none, .mov (.s 2)⟩, ⟨(some 96), none, .build [(.t (.str [])), .nilS] [(0, .str, (.c (.t (.str [80, 97, 105, 114])))), (1, .slc, (.s 95))]⟩, ⟨none, none, .st (.agg [.str, .slc]) (.s 6) (.s 96)⟩, ⟨(some 7), none, .mov (.c (.t (.bool true)))⟩])
 .ret)
 (.seq (.seq (.reg [⟨(some 98), none, .bin .eql (.s 9) (.c (.t (.int .i64 8)))⟩, ⟨(some 97), none, .mov (.s 98)⟩])
 (.cond (.s 97)
 .skip
 (.reg [⟨(some 99), none, .bin .eql (.s 9) (.c (.t (.int .i64 9)))⟩, ⟨(some 97), none, .mov (.s 99)⟩])))
 (.cond (.s 97)
 (.seq (.reg [⟨(some 100), none, .mov (.s 2)⟩, ⟨(some 101), none, .ia (.agg [.str, .slc]) (.s 100) (.c (.t (.int .i64 0)))⟩, ⟨(some 102), none, .fa 0 (.s 101)⟩, ⟨(some 103), none, .ld .str (.s 102)⟩, ⟨(some 104), none, .bin .eql (.s 103) (.c (.t (.str [80, 97, 105, 114])))⟩])
 (.cond (.s 104)
 (.seq (.dreg [⟨(some 105), none, .mov (.s 2)⟩, ⟨(some 106), none, .ia (.agg [.str, .slc]) (.s 105) (.c (.t (.int .i64 0)))⟩, ⟨(some 107), none, .fa 1 (.s 106)⟩, ⟨(some 108), none, .ld .slc (.s 107)⟩, ⟨(some 109), none, .fa 0 (.s 4)⟩, ⟨(some 110), none, .ld (.int .i64) (.s 109)⟩, ⟨(some 111), none, .bin .sub (.s 110) (.c (.t (.int .i64 8)))⟩, ⟨(some 112), none, .ia (.agg [.str, .slc]) (.s 108) (.s 111)⟩, ⟨(some 113), none, .ld (.agg [.str, .slc]) (.s 112)⟩, ⟨none, none, .st (.agg [.str, .slc]) (.s 6) (.s 113)⟩, ⟨(some 7), none, .mov (.c (.t (.bool true)))⟩] [0, 1, 3, 7, 0, 16, 48, 127, 255, 511, 1023])
 .ret)
 .skip))
 .skip))))))))))))))))))
 (.seq (.reg [⟨(some 114), none, .build [(.t (.str [])), .nilS] []⟩, ⟨none, none, .st (.agg [.str, .slc]) (.s 6) (.s 114)⟩, ⟨(some 7), none, .mov (.c (.t (.bool false)))⟩])
 .ret))),
 [.cell 6 (.agg [.str, .slc]), .slot 7]⟩
theorem ok62 : compF Try.prog 62 [] [] = some ir62 := by kernel_rfl

/-- tenet/simple.is -/
def ir64 : FInfo := ⟨17,
 (.seq (.reg [⟨(some 2), none, .box (.agg [(.int .i64), (.int .i64), .str, .slc, .slc]) (.s 0)⟩, ⟨(some 4), none, .mov (.c (.t (.bool false)))⟩])
 (.seq (.dreg [⟨(some 5), none, .fa 0 (.s 2)⟩, ⟨(some 6), none, .ld (.int .i64) (.s 5)⟩, ⟨(some 7), none, .mov (.s 1)⟩, ⟨(some 8), none, .bin .eql (.s 6) (.s 7)⟩, ⟨(some 9), none, .mov (.s 8)⟩, ⟨(some 10), (some (9, true)), .fa 4 (.s 2)⟩, ⟨(some 11), (some (9, true)), .ld .slc (.s 10)⟩, ⟨(some 12), (some (9, true)), .len (.s 11)⟩, ⟨(some 13), (some (9, true)), .mov (.s 1)⟩, ⟨(some 14), (some (9, true)), .call false 73 (.int .i64) [(.s 13)]⟩, ⟨(some 15), (some (9, true)), .bin .eql (.s 12) (.s 14)⟩, ⟨(some 16), none, .pick (.s 9) (.s 15) (.c (.t (.bool false)))⟩, ⟨(some 4), none, .mov (.s 16)⟩] [0, 1, 0, 7, 15, 31, 63, 127, 31, 287, 1023, 2047, 4095])
 .ret)),
 [.slot 4]⟩
theorem ok64 : compF Try.prog 64 [] [] = some ir64 := by kernel_rfl

/-- tenet/tenetref25.Parts -/
def ir65 : FInfo := ⟨17,
 (.seq (.reg [⟨(some 2), none, .mov (.c (.t (.int .i64 0)))⟩])
 (.seq (.seq (.reg [⟨(some 3), none, .mov (.s 0)⟩])
 (.block 0 (.seq (.seq (.reg [⟨(some 5), none, .bin .eql (.s 3) (.c (.t (.int .i64 1)))⟩, ⟨(some 4), none, .mov (.s 5)⟩])
 (.cond (.s 4)
 .skip
 (.reg [⟨(some 6), none, .bin .eql (.s 3) (.c (.t (.int .i64 4)))⟩, ⟨(some 4), none, .mov (.s 6)⟩])))
 (.cond (.s 4)
 (.seq (.reg [⟨(some 2), none, .mov (.c (.t (.int .i64 0)))⟩])
 .ret)
 (.seq (.seq (.reg [⟨(some 8), none, .bin .eql (.s 3) (.c (.t (.int .i64 2)))⟩, ⟨(some 7), none, .mov (.s 8)⟩])
 (.cond (.s 7)
 .skip
 (.seq (.reg [⟨(some 9), none, .bin .eql (.s 3) (.c (.t (.int .i64 5)))⟩, ⟨(some 7), none, .mov (.s 9)⟩])
 (.cond (.s 7)
 .skip
 (.seq (.reg [⟨(some 10), none, .bin .eql (.s 3) (.c (.t (.int .i64 8)))⟩, ⟨(some 7), none, .mov (.s 10)⟩])
 (.cond (.s 7)
 .skip
 (.reg [⟨(some 11), none, .bin .eql (.s 3) (.c (.t (.int .i64 9)))⟩, ⟨(some 7), none, .mov (.s 11)⟩])))))))
 (.cond (.s 7)
 (.seq (.reg [⟨(some 2), none, .mov (.c (.t (.int .i64 1)))⟩])
 .ret)
 (.seq (.seq (.reg [⟨(some 13), none, .bin .eql (.s 3) (.c (.t (.int .i64 3)))⟩, ⟨(some 12), none, .mov (.s 13)⟩])
 (.cond (.s 12)
 .skip
 (.reg [⟨(some 14), none, .bin .eql (.s 3) (.c (.t (.int .i64 7)))⟩, ⟨(some 12), none, .mov (.s 14)⟩])))
 (.cond (.s 12)
 (.seq (.reg [⟨(some 2), none, .mov (.c (.t (.int .i64 2)))⟩])
 .ret)
 (.seq (.reg [⟨(some 16), none, .bin .eql (.s 3) (.c (.t (.int .i64 6)))⟩, ⟨(some 15), none, .mov (.s 16)⟩])
 (.cond (.s 15)
 (.seq (.reg [⟨(some 2), none, .mov (.c (.t (.int .i64 3)))⟩])
 .ret)
 .skip))))))))))
 (.seq (.reg [⟨(some 2), none, .mov (.c (.t (.int .i64 (-1))))⟩])
 .ret))),
 [.slot 2]⟩
theorem ok65 : compF Try.prog 65 [] [] = some ir65 := by kernel_rfl

/-- tenet/tenetref25.TyValid -/
def ir66 : FInfo := ⟨20,
 (.seq (.reg [⟨(some 1), none, .box (.agg [.str, .slc]) (.s 0)⟩, ⟨(some 2), none, .mov (.c (.t (.bool false)))⟩])
 (.seq (.reg [⟨(some 6), none, .ld (.agg [.str, .slc]) (.s 1)⟩, ⟨(some 7), none, .call false 84 (.tup [(.int .i64), (.int .i64)]) [(.s 6)]⟩, ⟨(some 5), none, .mov (.s 7)⟩, ⟨(some 8), none, .ext 0 (.s 5)⟩, ⟨(some 9), none, .ext 1 (.s 5)⟩, ⟨(some 3), none, .mov (.s 8)⟩, ⟨(some 4), none, .mov (.s 9)⟩])
 (.seq (.reg [⟨(some 10), none, .mov (.s 3)⟩, ⟨(some 11), none, .bin .leq (.s 10) (.c (.t (.int .i64 60)))⟩, ⟨(some 12), none, .mov (.s 11)⟩, ⟨(some 13), (some (12, true)), .mov (.s 4)⟩, ⟨(some 14), (some (12, true)), .bin .leq (.s 13) (.c (.t (.int .i64 12)))⟩, ⟨(some 15), none, .pick (.s 12) (.s 14) (.c (.t (.bool false)))⟩, ⟨(some 16), none, .mov (.s 15)⟩, ⟨(some 17), (some (16, true)), .ld (.agg [.str, .slc]) (.s 1)⟩, ⟨(some 18), (some (16, true)), .call false 85 .bool [(.s 17)]⟩, ⟨(some 19), none, .pick (.s 16) (.s 18) (.c (.t (.bool false)))⟩, ⟨(some 2), none, .mov (.s 19)⟩])
 .ret))),
 [.slot 2]⟩
theorem ok66 : compF Try.prog 66 [] [] = some ir66 := by kernel_rfl

/-- tenet/simple.step -/
def ir67 : FInfo := ⟨112,
 (.seq (.reg [⟨(some 1), none, .box (.agg [(.int .i64), (.int .i64), .str, .slc, .slc]) (.s 0)⟩, ⟨(some 2), none, .new (.agg [(.int .i64), (.int .i64), .str, .slc, .slc]) (.agg [(.t (.int .i64 0)), (.t (.int .i64 0)), (.t (.str [])), .nilS, .nilS])⟩, ⟨(some 3), none, .mov (.c (.t (.bool false)))⟩])
 (.seq (.seq (.dreg [⟨(some 11), none, .fa 4 (.s 1)⟩, ⟨(some 12), none, .ld .slc (.s 11)⟩, ⟨(some 13), none, .len (.s 12)⟩, ⟨(some 14), none, .fa 0 (.s 1)⟩, ⟨(some 15), none, .ld (.int .i64) (.s 14)⟩, ⟨(some 16), none, .call false 73 (.int .i64) [(.s 15)]⟩, ⟨(some 17), none, .bin .neq (.s 13) (.s 16)⟩] [0, 1, 3, 0, 8, 24, 63])
 (.cond (.s 17)
 (.seq (.reg [⟨(some 18), none, .build [(.t (.int .i64 0)), (.t (.int .i64 0)), (.t (.str [])), .nilS, .nilS] []⟩, ⟨none, none, .st (.agg [(.int .i64), (.int .i64), .str, .slc, .slc]) (.s 2) (.s 18)⟩, ⟨(some 3), none, .mov (.c (.t (.bool false)))⟩])
 .ret)
 .skip))
 (.seq (.seq (.reg [⟨(some 19), none, .fa 0 (.s 1)⟩, ⟨(some 20), none, .ld (.int .i64) (.s 19)⟩])
 (.block 0 (.seq (.reg [⟨(some 22), none, .bin .eql (.s 20) (.c (.t (.int .i64 3)))⟩, ⟨(some 21), none, .mov (.s 22)⟩])
 (.cond (.s 21)
 (.seq (.reg [⟨(some 23), none, .fa 4 (.s 1)⟩, ⟨(some 24), none, .ld .slc (.s 23)⟩, ⟨(some 25), none, .ia (.agg [(.int .i64), (.int .i64), .str, .slc, .slc]) (.s 24) (.c (.t (.int .i64 0)))⟩, ⟨(some 26), none, .ld (.agg [(.int .i64), (.int .i64), .str, .slc, .slc]) (.s 25)⟩, ⟨(some 4), none, .new (.agg [(.int .i64), (.int .i64), .str, .slc, .slc]) (.agg [(.t (.int .i64 0)), (.t (.int .i64 0)), (.t (.str [])), .nilS, .nilS])⟩, ⟨none, none, .st (.agg [(.int .i64), (.int .i64), .str, .slc, .slc]) (.s 4) (.s 26)⟩])
 (.seq (.reg [⟨(some 27), none, .ld (.agg [(.int .i64), (.int .i64), .str, .slc, .slc]) (.s 4)⟩, ⟨(some 28), none, .call false 64 .bool [(.s 27), (.c (.t (.int .i64 2)))]⟩])
 (.cond (.s 28)
 (.seq (.dreg [⟨(some 29), none, .fa 4 (.s 4)⟩, ⟨(some 30), none, .ld .slc (.s 29)⟩, ⟨(some 31), none, .ia (.agg [(.int .i64), (.int .i64), .str, .slc, .slc]) (.s 30) (.c (.t (.int .i64 0)))⟩, ⟨(some 32), none, .ld (.agg [(.int .i64), (.int .i64), .str, .slc, .slc]) (.s 31)⟩, ⟨(some 33), none, .fa 4 (.s 1)⟩, ⟨(some 34), none, .ld .slc (.s 33)⟩, ⟨(some 35), none, .ia (.agg [(.int .i64), (.int .i64), .str, .slc, .slc]) (.s 34) (.c (.t (.int .i64 1)))⟩, ⟨(some 36), none, .ld (.agg [(.int .i64), (.int .i64), .str, .slc, .slc]) (.s 35)⟩, ⟨(some 37), none, .call false 17 (.agg [(.int .i64), (.int .i64), .str, .slc, .slc]) [(.s 32), (.c (.t (.int .i64 0))), (.s 36)]⟩, ⟨none, none, .st (.agg [(.int .i64), (.int .i64), .str, .slc, .slc]) (.s 2) (.s 37)⟩, ⟨(some 3), none, .mov (.c (.t (.bool true)))⟩] [0, 1, 3, 7, 0, 16, 48, 112, 255, 511, 1023])
 .ret)
 .skip)))
 (.seq (.reg [⟨(some 39), none, .bin .eql (.s 20) (.c (.t (.int .i64 5)))⟩, ⟨(some 38), none, .mov (.s 39)⟩])
 (.cond (.s 38)
 (.seq (.reg [⟨(some 40), none, .fa 4 (.s 1)⟩, ⟨(some 41), none, .ld .slc (.s 40)⟩, ⟨(some 42), none, .ia (.agg [(.int .i64), (.int .i64), .str, .slc, .slc]) (.s 41) (.c (.t (.int .i64 0)))⟩, ⟨(some 43), none, .ld (.agg [(.int .i64), (.int .i64), .str, .slc, .slc]) (.s 42)⟩, ⟨(some 5), none, .new (.agg [(.int .i64), (.int .i64), .str, .slc, .slc]) (.agg [(.t (.int .i64 0)), (.t (.int .i64 0)), (.t (.str [])), .nilS, .nilS])⟩, ⟨none, none, .st (.agg [(.int .i64), (.int .i64), .str, .slc, .slc]) (.s 5) (.s 43)⟩])
 (.seq (.reg [⟨(some 44), none, .ld (.agg [(.int .i64), (.int .i64), .str, .slc, .slc]) (.s 5)⟩, ⟨(some 45), none, .call false 64 .bool [(.s 44), (.c (.t (.int .i64 4)))]⟩, ⟨(some 46), none, .mov (.s 45)⟩, ⟨(some 47), (some (46, true)), .fa 1 (.s 5)⟩, ⟨(some 48), (some (46, true)), .ld (.int .i64) (.s 47)⟩, ⟨(some 49), (some (46, true)), .bin .geq (.s 48) (.c (.t (.int .i64 0)))⟩, ⟨(some 50), none, .pick (.s 46) (.s 49) (.c (.t (.bool false)))⟩, ⟨(some 51), none, .mov (.s 50)⟩, ⟨(some 52), (some (51, true)), .fa 1 (.s 5)⟩, ⟨(some 53), (some (51, true)), .ld (.int .i64) (.s 52)⟩, ⟨(some 54), (some (51, true)), .bin .leq (.s 53) (.c (.t (.int .i64 1099511627776)))⟩, ⟨(some 55), none, .pick (.s 51) (.s 54) (.c (.t (.bool false)))⟩])
 (.cond (.s 55)
 (.seq (.reg [⟨(some 56), none, .fa 1 (.s 5)⟩, ⟨(some 57), none, .ld (.int .i64) (.s 56)⟩, ⟨(some 58), none, .bin .add (.s 57) (.c (.t (.int .i64 1)))⟩, ⟨(some 59), none, .build [(.t (.int .i64 0)), (.t (.int .i64 0)), (.t (.str [])), .nilS, .nilS] [(0, (.int .i64), (.c (.t (.int .i64 4)))), (1, (.int .i64), (.s 58))]⟩, ⟨none, none, .st (.agg [(.int .i64), (.int .i64), .str, .slc, .slc]) (.s 2) (.s 59)⟩, ⟨(some 3), none, .mov (.c (.t (.bool true)))⟩])
 .ret)
 .skip)))
 (.seq (.reg [⟨(some 61), none, .bin .eql (.s 20) (.c (.t (.int .i64 6)))⟩, ⟨(some 60), none, .mov (.s 61)⟩])
 (.cond (.s 60)
 (.seq (.dreg [⟨(some 62), none, .fa 4 (.s 1)⟩, ⟨(some 63), none, .ld .slc (.s 62)⟩, ⟨(some 64), none, .ia (.agg [(.int .i64), (.int .i64), .str, .slc, .slc]) (.s 63) (.c (.t (.int .i64 0)))⟩, ⟨(some 65), none, .ld (.agg [(.int .i64), (.int .i64), .str, .slc, .slc]) (.s 64)⟩, ⟨(some 66), none, .fa 4 (.s 1)⟩, ⟨(some 67), none, .ld .slc (.s 66)⟩, ⟨(some 68), none, .ia (.agg [(.int .i64), (.int .i64), .str, .slc, .slc]) (.s 67) (.c (.t (.int .i64 1)))⟩, ⟨(some 69), none, .ld (.agg [(.int .i64), (.int .i64), .str, .slc, .slc]) (.s 68)⟩, ⟨(some 70), none, .fa 4 (.s 1)⟩, ⟨(some 71), none, .ld .slc (.s 70)⟩, ⟨(some 72), none, .ia (.agg [(.int .i64), (.int .i64), .str, .slc, .slc]) (.s 71) (.c (.t (.int .i64 2)))⟩, ⟨(some 73), none, .ld (.agg [(.int .i64), (.int .i64), .str, .slc, .slc]) (.s 72)⟩, ⟨(some 6), none, .new (.agg [(.int .i64), (.int .i64), .str, .slc, .slc]) (.agg [(.t (.int .i64 0)), (.t (.int .i64 0)), (.t (.str [])), .nilS, .nilS])⟩, ⟨(some 7), none, .new (.agg [(.int .i64), (.int .i64), .str, .slc, .slc]) (.agg [(.t (.int .i64 0)), (.t (.int .i64 0)), (.t (.str [])), .nilS, .nilS])⟩, ⟨(some 8), none, .new (.agg [(.int .i64), (.int .i64), .str, .slc, .slc]) (.agg [(.t (.int .i64 0)), (.t (.int .i64 0)), (.t (.str [])), .nilS, .nilS])⟩, ⟨none, none, .st (.agg [(.int .i64), (.int .i64), .str, .slc, .slc]) (.s 6) (.s 65)⟩, ⟨none, none, .st (.agg [(.int .i64), (.int .i64), .str, .slc, .slc]) (.s 7) (.s 69)⟩, ⟨none, none, .st (.agg [(.int .i64), (.int .i64), .str, .slc, .slc]) (.s 8) (.s 73)⟩] [0, 1, 3, 7, 0, 16, 48, 112, 0, 256, 768, 1792, 0, 0, 0, 28687, 61695, 131071])
 (.block 1 (.seq (.reg [⟨(some 87), none, .ld (.agg [(.int .i64), (.int .i64), .str, .slc, .slc]) (.s 6)⟩, ⟨(some 88), none, .call false 64 .bool [(.s 87), (.c (.t (.int .i64 4)))]⟩, ⟨(some 89), none, .un .not (.s 88)⟩, ⟨(some 86), none, .mov (.s 89)⟩])
 (.cond (.s 86)
 .skip
 (.seq (.reg [⟨(some 91), none, .fa 1 (.s 6)⟩, ⟨(some 92), none, .ld (.int .i64) (.s 91)⟩, ⟨(some 93), none, .bin .leq (.s 92) (.c (.t (.int .i64 0)))⟩, ⟨(some 90), none, .mov (.s 93)⟩])
 (.cond (.s 90)
 (.seq (.reg [⟨(some 94), none, .ld (.agg [(.int .i64), (.int .i64), .str, .slc, .slc]) (.s 8)⟩, ⟨none, none, .st (.agg [(.int .i64), (.int .i64), .str, .slc, .slc]) (.s 2) (.s 94)⟩, ⟨(some 3), none, .mov (.c (.t (.bool true)))⟩])
 .ret)
 (.seq (.reg [⟨(some 74), none, .fa 1 (.s 6)⟩, ⟨(some 75), none, .ld (.int .i64) (.s 74)⟩, ⟨(some 76), none, .bin .sub (.s 75) (.c (.t (.int .i64 1)))⟩, ⟨(some 77), none, .build [(.t (.int .i64 0)), (.t (.int .i64 0)), (.t (.str [])), .nilS, .nilS] [(0, (.int .i64), (.c (.t (.int .i64 4)))), (1, (.int .i64), (.s 76))]⟩, ⟨(some 78), none, .ld (.agg [(.int .i64), (.int .i64), .str, .slc, .slc]) (.s 7)⟩, ⟨(some 79), none, .ld (.agg [(.int .i64), (.int .i64), .str, .slc, .slc]) (.s 8)⟩, ⟨(some 80), none, .bsl (.agg [(.int .i64), (.int .i64), .str, .slc, .slc]) (.agg [(.t (.int .i64 0)), (.t (.int .i64 0)), (.t (.str [])), .nilS, .nilS]) 3 [(0, (.s 77)), (1, (.s 78)), (2, (.s 79))]⟩, ⟨(some 81), none, .build [(.t (.int .i64 0)), (.t (.int .i64 0)), (.t (.str [])), .nilS, .nilS] [(0, (.int .i64), (.c (.t (.int .i64 6)))), (4, .slc, (.s 80))]⟩, ⟨(some 9), none, .new (.agg [(.int .i64), (.int .i64), .str, .slc, .slc]) (.agg [(.t (.int .i64 0)), (.t (.int .i64 0)), (.t (.str [])), .nilS, .nilS])⟩, ⟨none, none, .st (.agg [(.int .i64), (.int .i64), .str, .slc, .slc]) (.s 9) (.s 81)⟩])
 (.seq (.reg [⟨(some 82), none, .ld (.agg [(.int .i64), (.int .i64), .str, .slc, .slc]) (.s 7)⟩, ⟨(some 83), none, .ld (.agg [(.int .i64), (.int .i64), .str, .slc, .slc]) (.s 9)⟩, ⟨(some 84), none, .bsl (.agg [(.int .i64), (.int .i64), .str, .slc, .slc]) (.agg [(.t (.int .i64 0)), (.t (.int .i64 0)), (.t (.str [])), .nilS, .nilS]) 2 [(0, (.s 82)), (1, (.s 83))]⟩, ⟨(some 85), none, .build [(.t (.int .i64 0)), (.t (.int .i64 0)), (.t (.str [])), .nilS, .nilS] [(0, (.int .i64), (.c (.t (.int .i64 3)))), (4, .slc, (.s 84))]⟩, ⟨none, none, .st (.agg [(.int .i64), (.int .i64), .str, .slc, .slc]) (.s 2) (.s 85)⟩, ⟨(some 3), none, .mov (.c (.t (.bool true)))⟩])
 .ret))))))))
 (.seq (.seq (.reg [⟨(some 96), none, .bin .eql (.s 20) (.c (.t (.int .i64 8)))⟩, ⟨(some 95), none, .mov (.s 96)⟩])
 (.cond (.s 95)
 .skip
 (.reg [⟨(some 97), none, .bin .eql (.s 20) (.c (.t (.int .i64 9)))⟩, ⟨(some 95), none, .mov (.s 97)⟩])))
 (.cond (.s 95)
 (.seq (.reg [⟨(some 98), none, .fa 4 (.s 1)⟩, ⟨(some 99), none, .ld .slc (.s 98)⟩, ⟨(some 100), none, .ia (.agg [(.int .i64), (.int .i64), .str, .slc, .slc]) (.s 99) (.c (.t (.int .i64 0)))⟩, ⟨(some 101), none, .ld (.agg [(.int .i64), (.int .i64), .str, .slc, .slc]) (.s 100)⟩, ⟨(some 10), none, .new (.agg [(.int .i64), (.int .i64), .str, .slc, .slc]) (.agg [(.t (.int .i64 0)), (.t (.int .i64 0)), (.t (.str [])), .nilS, .nilS])⟩, ⟨none, none, .st (.agg [(.int .i64), (.int .i64), .str, .slc, .slc]) (.s 10) (.s 101)⟩])
 (.seq (.reg [⟨(some 102), none, .ld (.agg [(.int .i64), (.int .i64), .str, .slc, .slc]) (.s 10)⟩, ⟨(some 103), none, .call false 64 .bool [(.s 102), (.c (.t (.int .i64 7)))]⟩])
 (.cond (.s 103)
 (.seq (.reg [⟨(some 104), none, .fa 4 (.s 10)⟩, ⟨(some 105), none, .ld .slc (.s 104)⟩, ⟨(some 106), none, .fa 0 (.s 1)⟩, ⟨(some 107), none, .ld (.int .i64) (.s 106)⟩, ⟨(some 108), none, .bin .sub (.s 107) (.c (.t (.int .i64 8)))⟩, ⟨(some 109), none, .ia (.agg [(.int .i64), (.int .i64), .str, .slc, .slc]) (.s 105) (.s 108)⟩, ⟨(some 110), none, .ld (.agg [(.int .i64), (.int .i64), .str, .slc, .slc]) (.s 109)⟩, ⟨none, none, .st (.agg [(.int .i64), (.int .i64), .str, .slc, .slc]) (.s 2) (.s 110)⟩, ⟨(some 3), none, .mov (.c (.t (.bool true)))⟩])
 .ret)
 .skip)))
 .skip))))))))))
 (.seq (.reg [⟨(some 111), none, .build [(.t (.int .i64 0)), (.t (.int .i64 0)), (.t (.str [])), .nilS, .nilS] []⟩, ⟨none, none, .st (.agg [(.int .i64), (.int .i64), .str, .slc, .slc]) (.s 2) (.s 111)⟩, ⟨(some 3), none, .mov (.c (.t (.bool false)))⟩])
 .ret)))),
 [.cell 2 (.agg [(.int .i64), (.int .i64), .str, .slc, .slc]), .slot 3]⟩
theorem ok67 : compF Try.prog 67 [] [] = some ir67 := by kernel_rfl

/-- tenet/tenetref25.whole -/
def ir68 : FInfo := ⟨10,
 (.seq (.reg [⟨(some 1), none, .box (.agg [(.int .i64), (.int .i64), .str, .slc, .slc]) (.s 0)⟩, ⟨(some 2), none, .mov (.c (.t (.bool false)))⟩])
 (.seq (.dreg [⟨(some 3), none, .fa 0 (.s 1)⟩, ⟨(some 4), none, .ld (.int .i64) (.s 3)⟩, ⟨(some 5), none, .call false 65 (.int .i64) [(.s 4)]⟩, ⟨(some 6), none, .fa 4 (.s 1)⟩, ⟨(some 7), none, .ld .slc (.s 6)⟩, ⟨(some 8), none, .len (.s 7)⟩, ⟨(some 9), none, .bin .eql (.s 5) (.s 8)⟩, ⟨(some 2), none, .mov (.s 9)⟩] [0, 1, 3, 0, 8, 24, 63, 127])
 .ret)),
 [.slot 2]⟩
theorem ok68 : compF Try.prog 68 [] [] = some ir68 := by kernel_rfl

/-- tenet/tenetref25.number -/
def ir69 : FInfo := ⟨10,
 (.seq (.reg [⟨(some 1), none, .box (.agg [(.int .i64), (.int .i64), .str, .slc, .slc]) (.s 0)⟩, ⟨(some 2), none, .mov (.c (.t (.bool false)))⟩])
 (.seq (.reg [⟨(some 3), none, .fa 0 (.s 1)⟩, ⟨(some 4), none, .ld (.int .i64) (.s 3)⟩, ⟨(some 5), none, .bin .eql (.s 4) (.c (.t (.int .i64 4)))⟩, ⟨(some 6), none, .mov (.s 5)⟩, ⟨(some 7), (some (6, true)), .ld (.agg [(.int .i64), (.int .i64), .str, .slc, .slc]) (.s 1)⟩, ⟨(some 8), (some (6, true)), .call false 68 .bool [(.s 7)]⟩, ⟨(some 9), none, .pick (.s 6) (.s 8) (.c (.t (.bool false)))⟩, ⟨(some 2), none, .mov (.s 9)⟩])
 .ret)),
 [.slot 2]⟩
theorem ok69 : compF Try.prog 69 [] [] = some ir69 := by kernel_rfl

/-- tenet/tenetref25.deeper -/
def ir70 : FInfo := ⟨11,
 (.seq (.reg [⟨(some 4), none, .mov (.c .nilS)⟩])
 (.seq (.reg [⟨(some 5), none, .bsl (.int .i64) (.t (.int .i64 0)) 0 []⟩, ⟨(some 6), none, .mov (.s 0)⟩, ⟨(some 7), none, .app (.int .i64) 8 (.s 5) (.s 6)⟩, ⟨(some 8), none, .mov (.s 1)⟩, ⟨(some 9), none, .bsl (.int .i64) (.t (.int .i64 0)) 1 [(0, (.s 8))]⟩, ⟨(some 10), none, .app (.int .i64) 8 (.s 7) (.s 9)⟩, ⟨(some 4), none, .mov (.s 10)⟩])
 .ret)),
 [.slot 4]⟩
theorem ok70 : compF Try.prog 70 [] [] = some ir70 := by kernel_rfl

/-- tenet/tenetref25.two -/
def ir71 : FInfo := ⟨12,
 (.seq (.reg [⟨(some 4), none, .box (.agg [.str, .slc]) (.s 1)⟩, ⟨(some 5), none, .box (.agg [.str, .slc]) (.s 2)⟩, ⟨(some 6), none, .new (.agg [.str, .slc]) (.agg [(.t (.str [])), .nilS])⟩])
 (.seq (.reg [⟨(some 7), none, .mov (.s 0)⟩, ⟨(some 8), none, .ld (.agg [.str, .slc]) (.s 4)⟩, ⟨(some 9), none, .ld (.agg [.str, .slc]) (.s 5)⟩, ⟨(some 10), none, .bsl (.agg [.str, .slc]) (.agg [(.t (.str [])), .nilS]) 2 [(0, (.s 8)), (1, (.s 9))]⟩, ⟨(some 11), none, .build [(.t (.str [])), .nilS] [(0, .str, (.s 7)), (1, .slc, (.s 10))]⟩, ⟨none, none, .st (.agg [.str, .slc]) (.s 6) (.s 11)⟩])
 .ret)),
 [.cell 6 (.agg [.str, .slc])]⟩
theorem ok71 : compF Try.prog 71 [] [] = some ir71 := by kernel_rfl

/-- tenet/tenetref25.nat -/
def ir72 : FInfo := ⟨2,
 (.seq (.reg [⟨(some 0), none, .new (.agg [.str, .slc]) (.agg [(.t (.str [])), .nilS])⟩])
 (.seq (.reg [⟨(some 1), none, .build [(.t (.str [])), .nilS] [(0, .str, (.c (.t (.str [78, 97, 116]))))]⟩, ⟨none, none, .st (.agg [.str, .slc]) (.s 0) (.s 1)⟩])
 .ret)),
 [.cell 0 (.agg [.str, .slc])]⟩
theorem ok72 : compF Try.prog 72 [] [] = some ir72 := by kernel_rfl

/-- tenet/simple.parts -/
def ir73 : FInfo := ⟨17,
 (.seq (.reg [⟨(some 2), none, .mov (.c (.t (.int .i64 0)))⟩])
 (.seq (.seq (.reg [⟨(some 3), none, .mov (.s 0)⟩])
 (.block 0 (.seq (.seq (.reg [⟨(some 5), none, .bin .eql (.s 3) (.c (.t (.int .i64 1)))⟩, ⟨(some 4), none, .mov (.s 5)⟩])
 (.cond (.s 4)
 .skip
 (.reg [⟨(some 6), none, .bin .eql (.s 3) (.c (.t (.int .i64 4)))⟩, ⟨(some 4), none, .mov (.s 6)⟩])))
 (.cond (.s 4)
 (.seq (.reg [⟨(some 2), none, .mov (.c (.t (.int .i64 0)))⟩])
 .ret)
 (.seq (.seq (.reg [⟨(some 8), none, .bin .eql (.s 3) (.c (.t (.int .i64 2)))⟩, ⟨(some 7), none, .mov (.s 8)⟩])
 (.cond (.s 7)
 .skip
 (.seq (.reg [⟨(some 9), none, .bin .eql (.s 3) (.c (.t (.int .i64 5)))⟩, ⟨(some 7), none, .mov (.s 9)⟩])
 (.cond (.s 7)
 .skip
 (.seq (.reg [⟨(some 10), none, .bin .eql (.s 3) (.c (.t (.int .i64 8)))⟩, ⟨(some 7), none, .mov (.s 10)⟩])
 (.cond (.s 7)
 .skip
 (.reg [⟨(some 11), none, .bin .eql (.s 3) (.c (.t (.int .i64 9)))⟩, ⟨(some 7), none, .mov (.s 11)⟩])))))))
 (.cond (.s 7)
 (.seq (.reg [⟨(some 2), none, .mov (.c (.t (.int .i64 1)))⟩])
 .ret)
 (.seq (.seq (.reg [⟨(some 13), none, .bin .eql (.s 3) (.c (.t (.int .i64 3)))⟩, ⟨(some 12), none, .mov (.s 13)⟩])
 (.cond (.s 12)
 .skip
 (.reg [⟨(some 14), none, .bin .eql (.s 3) (.c (.t (.int .i64 7)))⟩, ⟨(some 12), none, .mov (.s 14)⟩])))
 (.cond (.s 12)
 (.seq (.reg [⟨(some 2), none, .mov (.c (.t (.int .i64 2)))⟩])
 .ret)
 (.seq (.reg [⟨(some 16), none, .bin .eql (.s 3) (.c (.t (.int .i64 6)))⟩, ⟨(some 15), none, .mov (.s 16)⟩])
 (.cond (.s 15)
 (.seq (.reg [⟨(some 2), none, .mov (.c (.t (.int .i64 3)))⟩])
 .ret)
 .skip))))))))))
 (.seq (.reg [⟨(some 2), none, .mov (.c (.t (.int .i64 (-1))))⟩])
 .ret))),
 [.slot 2]⟩
theorem ok73 : compF Try.prog 73 [] [] = some ir73 := by kernel_rfl

/-- tenet/simple.zero -/
def ir74 : FInfo := ⟨12,
 (.seq (.reg [⟨(some 1), none, .box (.agg [.str, .slc]) (.s 0)⟩, ⟨(some 2), none, .mov (.c (.t (.bool false)))⟩])
 (.seq (.reg [⟨(some 3), none, .fa 0 (.s 1)⟩, ⟨(some 4), none, .ld .str (.s 3)⟩, ⟨(some 5), none, .bin .eql (.s 4) (.c (.t (.str [])))⟩, ⟨(some 6), none, .mov (.s 5)⟩, ⟨(some 7), (some (6, true)), .fa 1 (.s 1)⟩, ⟨(some 8), (some (6, true)), .ld .slc (.s 7)⟩, ⟨(some 9), (some (6, true)), .len (.s 8)⟩, ⟨(some 10), (some (6, true)), .bin .eql (.s 9) (.c (.t (.int .i64 0)))⟩, ⟨(some 11), none, .pick (.s 6) (.s 10) (.c (.t (.bool false)))⟩, ⟨(some 2), none, .mov (.s 11)⟩])
 .ret)),
 [.slot 2]⟩
theorem ok74 : compF Try.prog 74 [] [] = some ir74 := by kernel_rfl

/-- slices.ContainsFunc[[]tenet/api.Lam,tenet/api.Lam] -/
def ir75 : FInfo := ⟨9,
 (.seq (.reg [⟨(some 4), none, .mov (.c (.t (.bool false)))⟩])
 (.seq (.reg [⟨(some 5), none, .mov (.s 0)⟩, ⟨(some 6), none, .mov (.s 1)⟩, ⟨(some 7), none, .call false 86 (.int .i64) [(.s 5), (.s 6)]⟩, ⟨(some 8), none, .bin .geq (.s 7) (.c (.t (.int .i64 0)))⟩, ⟨(some 4), none, .mov (.s 8)⟩])
 .ret)),
 [.slot 4]⟩
theorem ok75 : compF Try.prog 75 [] [] = some ir75 := by kernel_rfl

/-- tenet/simple.shaped$1 -/
def ir76 : FInfo := ⟨6,
 (.seq (.reg [⟨(some 1), none, .box (.agg [(.int .i64), (.int .i64), .str, .slc, .slc]) (.s 0)⟩, ⟨(some 2), none, .mov (.c (.t (.bool false)))⟩])
 (.seq (.reg [⟨(some 3), none, .ld (.agg [(.int .i64), (.int .i64), .str, .slc, .slc]) (.s 1)⟩, ⟨(some 4), none, .call false 51 .bool [(.s 3)]⟩, ⟨(some 5), none, .un .not (.s 4)⟩, ⟨(some 2), none, .mov (.s 5)⟩])
 .ret)),
 [.slot 2]⟩
theorem ok76 : compF Try.prog 76 [] [] = some ir76 := by kernel_rfl


end Go.Proofs.Aw.Sa
