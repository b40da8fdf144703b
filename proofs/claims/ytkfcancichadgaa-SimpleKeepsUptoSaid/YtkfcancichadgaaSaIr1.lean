/-
  THE RECKONED CODE, part 1: printed by program.
-/
import Derived.Test.YtkfcancichadgaaRows
import Derived.Test.YtkfcancichadgaaAw4
set_option linter.unusedSimpArgs false
set_option linter.unusedVariables false
set_option maxRecDepth 100000
namespace Go.Proofs.Aw.Sa
open Go.Proofs

/-- tenet/tenetlaw25.SimpleValues -/
def ir3 : FInfo := ⟨53,
 (.seq (.reg [⟨(some 2), none, .box (.agg [(.int .i64), (.int .i64), .str, .slc, .slc]) (.s 0)⟩, ⟨(some 4), none, .mov (.c (.t (.bool false)))⟩])
 (.seq (.seq (.reg [⟨(some 9), none, .ld (.agg [(.int .i64), (.int .i64), .str, .slc, .slc]) (.s 2)⟩, ⟨(some 10), none, .bsl (.agg [(.int .i64), (.int .i64), .str, .slc, .slc]) (.agg [(.t (.int .i64 0)), (.t (.int .i64 0)), (.t (.str [])), .nilS, .nilS]) 1 [(0, (.s 9))]⟩, ⟨(some 11), none, .call false 10 .bool [(.s 10)]⟩, ⟨(some 12), none, .mov (.s 11)⟩, ⟨(some 13), (some (12, false)), .mov (.s 1)⟩, ⟨(some 14), (some (12, false)), .bin .gtr (.s 13) (.c (.t (.int .i64 200)))⟩, ⟨(some 15), none, .pick (.s 12) (.c (.t (.bool true))) (.s 14)⟩])
 (.cond (.s 15)
 (.seq (.reg [⟨(some 4), none, .mov (.c (.t (.bool true)))⟩])
 .ret)
 .skip))
 (.seq (.reg [⟨(some 17), none, .ld (.agg [(.int .i64), (.int .i64), .str, .slc, .slc]) (.s 2)⟩, ⟨(some 18), none, .mov (.s 1)⟩, ⟨(some 19), none, .call false 11 (.tup [(.int .i64), (.int .i64)]) [(.s 17), (.s 18)]⟩, ⟨(some 16), none, .mov (.s 19)⟩, ⟨(some 20), none, .ext 0 (.s 16)⟩, ⟨(some 21), none, .ext 1 (.s 16)⟩, ⟨(some 5), none, .mov (.s 20)⟩, ⟨(some 6), none, .mov (.s 21)⟩])
 (.seq (.reg [⟨(some 23), none, .ld (.agg [(.int .i64), (.int .i64), .str, .slc, .slc]) (.s 2)⟩, ⟨(some 24), none, .mov (.s 1)⟩, ⟨(some 25), none, .call false 12 (.tup [(.int .i64), (.int .i64)]) [(.s 23), (.s 24)]⟩, ⟨(some 22), none, .mov (.s 25)⟩, ⟨(some 26), none, .ext 0 (.s 22)⟩, ⟨(some 27), none, .ext 1 (.s 22)⟩, ⟨(some 7), none, .mov (.s 26)⟩, ⟨(some 8), none, .mov (.s 27)⟩])
 (.seq (.seq (.reg [⟨(some 28), none, .mov (.s 8)⟩, ⟨(some 29), none, .bin .eql (.s 28) (.c (.t (.int .i64 5)))⟩, ⟨(some 30), none, .mov (.s 29)⟩, ⟨(some 31), (some (30, true)), .mov (.s 6)⟩, ⟨(some 32), (some (30, true)), .bin .neq (.s 31) (.c (.t (.int .i64 5)))⟩, ⟨(some 33), none, .pick (.s 30) (.s 32) (.c (.t (.bool false)))⟩])
 (.cond (.s 33)
 (.seq (.reg [⟨(some 35), none, .ld (.agg [(.int .i64), (.int .i64), .str, .slc, .slc]) (.s 2)⟩, ⟨(some 36), none, .call false 12 (.tup [(.int .i64), (.int .i64)]) [(.s 35), (.c (.t (.int .i64 2000)))]⟩, ⟨(some 34), none, .mov (.s 36)⟩, ⟨(some 37), none, .ext 0 (.s 34)⟩, ⟨(some 38), none, .ext 1 (.s 34)⟩, ⟨(some 7), none, .mov (.s 37)⟩, ⟨(some 8), none, .mov (.s 38)⟩])
 (.seq (.reg [⟨(some 39), none, .mov (.s 8)⟩, ⟨(some 40), none, .bin .eql (.s 39) (.c (.t (.int .i64 5)))⟩])
 (.cond (.s 40)
 (.seq (.reg [⟨(some 41), none, .call false 13 .bool []⟩, ⟨(some 4), none, .mov (.s 41)⟩])
 .ret)
 .skip)))
 .skip))
 (.seq (.reg [⟨(some 42), none, .mov (.s 5)⟩, ⟨(some 43), none, .mov (.s 7)⟩, ⟨(some 44), none, .bin .eql (.s 42) (.s 43)⟩, ⟨(some 45), none, .mov (.s 44)⟩, ⟨(some 46), (some (45, true)), .mov (.s 6)⟩, ⟨(some 47), (some (45, true)), .mov (.s 8)⟩, ⟨(some 48), (some (45, true)), .bin .eql (.s 46) (.s 47)⟩, ⟨(some 49), none, .pick (.s 45) (.s 48) (.c (.t (.bool false)))⟩, ⟨(some 50), none, .mov (.s 49)⟩, ⟨(some 51), (some (50, true)), .call false 13 .bool []⟩, ⟨(some 52), none, .pick (.s 50) (.s 51) (.c (.t (.bool false)))⟩, ⟨(some 4), none, .mov (.s 52)⟩])
 .ret)))))),
 [.slot 4]⟩
theorem ok3 : compF Try.prog 3 [] [] = some ir3 := by kernel_rfl

/-- tenet/tenetlaw25.SimpleSubsts -/
def ir4 : FInfo := ⟨97,
 (.seq (.reg [⟨(some 4), none, .box (.agg [(.int .i64), (.int .i64), .str, .slc, .slc]) (.s 1)⟩, ⟨(some 5), none, .box (.agg [(.int .i64), (.int .i64), .str, .slc, .slc]) (.s 2)⟩, ⟨(some 6), none, .mov (.c (.t (.bool false)))⟩])
 (.seq (.seq (.reg [⟨(some 15), none, .ld (.agg [(.int .i64), (.int .i64), .str, .slc, .slc]) (.s 4)⟩, ⟨(some 16), none, .ld (.agg [(.int .i64), (.int .i64), .str, .slc, .slc]) (.s 5)⟩, ⟨(some 17), none, .bsl (.agg [(.int .i64), (.int .i64), .str, .slc, .slc]) (.agg [(.t (.int .i64 0)), (.t (.int .i64 0)), (.t (.str [])), .nilS, .nilS]) 2 [(0, (.s 15)), (1, (.s 16))]⟩, ⟨(some 18), none, .call false 10 .bool [(.s 17)]⟩, ⟨(some 19), none, .mov (.s 18)⟩, ⟨(some 20), (some (19, false)), .mov (.s 0)⟩, ⟨(some 21), (some (19, false)), .len (.s 20)⟩, ⟨(some 22), (some (19, false)), .bin .eql (.s 21) (.c (.t (.int .i64 0)))⟩, ⟨(some 23), none, .pick (.s 19) (.c (.t (.bool true))) (.s 22)⟩, ⟨(some 24), none, .mov (.s 23)⟩, ⟨(some 25), (some (24, false)), .mov (.s 0)⟩, ⟨(some 26), (some (24, false)), .len (.s 25)⟩, ⟨(some 27), (some (24, false)), .bin .gtr (.s 26) (.c (.t (.int .i64 20)))⟩, ⟨(some 28), none, .pick (.s 24) (.c (.t (.bool true))) (.s 27)⟩, ⟨(some 29), none, .mov (.s 28)⟩, ⟨(some 30), (some (29, false)), .mov (.s 0)⟩, ⟨(some 31), (some (29, false)), .call false 14 (.int .i64) [(.s 30), (.c (.t (.int .i64 300)))]⟩, ⟨(some 32), (some (29, false)), .bin .gtr (.s 31) (.c (.t (.int .i64 300)))⟩, ⟨(some 33), none, .pick (.s 29) (.c (.t (.bool true))) (.s 32)⟩])
 (.cond (.s 33)
 (.seq (.reg [⟨(some 6), none, .mov (.c (.t (.bool true)))⟩])
 .ret)
 .skip))
 (.seq (.reg [⟨(some 34), none, .mov (.s 0)⟩, ⟨(some 35), none, .mov (.s 0)⟩, ⟨(some 36), none, .len (.s 35)⟩, ⟨(some 37), none, .bin .sub (.s 36) (.c (.t (.int .i64 1)))⟩, ⟨(some 38), none, .sub (.agg [.str, .slc]) (.s 34) none (some (.s 37)) none⟩, ⟨(some 7), none, .mov (.s 38)⟩])
 (.seq (.reg [⟨(some 40), none, .mov (.s 0)⟩, ⟨(some 41), none, .ld (.agg [(.int .i64), (.int .i64), .str, .slc, .slc]) (.s 4)⟩, ⟨(some 42), none, .call false 15 (.tup [(.agg [.str, .slc]), (.int .i64)]) [(.s 40), (.s 41)]⟩, ⟨(some 39), none, .mov (.s 42)⟩, ⟨(some 43), none, .ext 0 (.s 39)⟩, ⟨(some 44), none, .ext 1 (.s 39)⟩, ⟨(some 8), none, .new (.agg [.str, .slc]) (.agg [(.t (.str [])), .nilS])⟩, ⟨none, none, .st (.agg [.str, .slc]) (.s 8) (.s 43)⟩, ⟨(some 9), none, .mov (.s 44)⟩])
 (.seq (.reg [⟨(some 46), none, .mov (.s 7)⟩, ⟨(some 47), none, .ld (.agg [(.int .i64), (.int .i64), .str, .slc, .slc]) (.s 5)⟩, ⟨(some 48), none, .call false 15 (.tup [(.agg [.str, .slc]), (.int .i64)]) [(.s 46), (.s 47)]⟩, ⟨(some 45), none, .mov (.s 48)⟩, ⟨(some 49), none, .ext 0 (.s 45)⟩, ⟨(some 50), none, .ext 1 (.s 45)⟩, ⟨(some 10), none, .new (.agg [.str, .slc]) (.agg [(.t (.str [])), .nilS])⟩, ⟨none, none, .st (.agg [.str, .slc]) (.s 10) (.s 49)⟩, ⟨(some 11), none, .mov (.s 50)⟩])
 (.seq (.seq (.dreg [⟨(some 51), none, .mov (.s 9)⟩, ⟨(some 52), none, .bin .neq (.s 51) (.c (.t (.int .i64 0)))⟩, ⟨(some 53), none, .mov (.s 52)⟩, ⟨(some 54), (some (53, false)), .mov (.s 11)⟩, ⟨(some 55), (some (53, false)), .bin .neq (.s 54) (.c (.t (.int .i64 0)))⟩, ⟨(some 56), none, .pick (.s 53) (.c (.t (.bool true))) (.s 55)⟩, ⟨(some 57), none, .mov (.s 56)⟩, ⟨(some 58), (some (57, false)), .ld (.agg [.str, .slc]) (.s 10)⟩, ⟨(some 59), (some (57, false)), .mov (.s 0)⟩, ⟨(some 60), (some (57, false)), .mov (.s 0)⟩, ⟨(some 61), (some (57, false)), .len (.s 60)⟩, ⟨(some 62), (some (57, false)), .bin .sub (.s 61) (.c (.t (.int .i64 1)))⟩, ⟨(some 63), (some (57, false)), .ia (.agg [.str, .slc]) (.s 59) (.s 62)⟩, ⟨(some 64), (some (57, false)), .ld (.agg [.str, .slc]) (.s 63)⟩, ⟨(some 65), (some (57, false)), .call false 16 .bool [(.s 58), (.s 64)]⟩, ⟨(some 66), (some (57, false)), .un .not (.s 65)⟩, ⟨(some 67), none, .pick (.s 57) (.c (.t (.bool true))) (.s 66)⟩] [0, 1, 3, 7, 15, 31, 63, 127, 127, 127, 639, 1663, 3967, 8063, 16383, 32767, 65535])
 (.cond (.s 67)
 (.seq (.reg [⟨(some 68), none, .call false 13 .bool []⟩, ⟨(some 6), none, .mov (.s 68)⟩])
 .ret)
 .skip))
 (.seq (.reg [⟨(some 69), none, .ld (.agg [(.int .i64), (.int .i64), .str, .slc, .slc]) (.s 4)⟩, ⟨(some 70), none, .ld (.agg [(.int .i64), (.int .i64), .str, .slc, .slc]) (.s 5)⟩, ⟨(some 71), none, .call false 17 (.agg [(.int .i64), (.int .i64), .str, .slc, .slc]) [(.s 69), (.c (.t (.int .i64 0))), (.s 70)]⟩, ⟨(some 12), none, .new (.agg [(.int .i64), (.int .i64), .str, .slc, .slc]) (.agg [(.t (.int .i64 0)), (.t (.int .i64 0)), (.t (.str [])), .nilS, .nilS])⟩, ⟨none, none, .st (.agg [(.int .i64), (.int .i64), .str, .slc, .slc]) (.s 12) (.s 71)⟩])
 (.seq (.reg [⟨(some 73), none, .mov (.s 7)⟩, ⟨(some 74), none, .ld (.agg [(.int .i64), (.int .i64), .str, .slc, .slc]) (.s 12)⟩, ⟨(some 75), none, .call false 15 (.tup [(.agg [.str, .slc]), (.int .i64)]) [(.s 73), (.s 74)]⟩, ⟨(some 72), none, .mov (.s 75)⟩, ⟨(some 76), none, .ext 0 (.s 72)⟩, ⟨(some 77), none, .ext 1 (.s 72)⟩, ⟨(some 13), none, .new (.agg [.str, .slc]) (.agg [(.t (.str [])), .nilS])⟩, ⟨none, none, .st (.agg [.str, .slc]) (.s 13) (.s 76)⟩, ⟨(some 14), none, .mov (.s 77)⟩])
 (.seq (.reg [⟨(some 78), none, .mov (.s 14)⟩, ⟨(some 79), none, .bin .eql (.s 78) (.c (.t (.int .i64 4)))⟩, ⟨(some 80), none, .mov (.s 79)⟩, ⟨(some 81), (some (80, true)), .ld (.agg [(.int .i64), (.int .i64), .str, .slc, .slc]) (.s 12)⟩, ⟨(some 82), (some (80, true)), .call false 18 .bool [(.s 81)]⟩, ⟨(some 83), (some (80, true)), .un .not (.s 82)⟩, ⟨(some 84), none, .pick (.s 80) (.s 83) (.c (.t (.bool false)))⟩, ⟨(some 85), none, .mov (.s 84)⟩, ⟨(some 86), (some (85, false)), .mov (.s 14)⟩, ⟨(some 87), (some (85, false)), .bin .eql (.s 86) (.c (.t (.int .i64 0)))⟩, ⟨(some 88), (some (85, false)), .mov (.s 87)⟩, ⟨(some 89), (some (88, true)), .ld (.agg [.str, .slc]) (.s 8)⟩, ⟨(some 90), (some (88, true)), .ld (.agg [.str, .slc]) (.s 13)⟩, ⟨(some 91), (some (88, true)), .call false 16 .bool [(.s 89), (.s 90)]⟩, ⟨(some 92), (some (85, false)), .pick (.s 88) (.s 91) (.c (.t (.bool false)))⟩, ⟨(some 93), none, .pick (.s 85) (.c (.t (.bool true))) (.s 92)⟩, ⟨(some 94), none, .mov (.s 93)⟩, ⟨(some 95), (some (94, true)), .call false 13 .bool []⟩, ⟨(some 96), none, .pick (.s 94) (.s 95) (.c (.t (.bool false)))⟩, ⟨(some 6), none, .mov (.s 96)⟩])
 .ret))))))))),
 [.slot 6]⟩
theorem ok4 : compF Try.prog 4 [] [] = some ir4 := by kernel_rfl

/-- tenet/tenetlaw25.SimpleSteps -/
def ir5 : FInfo := ⟨86,
 (.seq (.reg [⟨(some 2), none, .box (.agg [(.int .i64), (.int .i64), .str, .slc, .slc]) (.s 0)⟩, ⟨(some 4), none, .mov (.c (.t (.bool false)))⟩])
 (.seq (.seq (.reg [⟨(some 17), none, .ld (.agg [(.int .i64), (.int .i64), .str, .slc, .slc]) (.s 2)⟩, ⟨(some 18), none, .bsl (.agg [(.int .i64), (.int .i64), .str, .slc, .slc]) (.agg [(.t (.int .i64 0)), (.t (.int .i64 0)), (.t (.str [])), .nilS, .nilS]) 1 [(0, (.s 17))]⟩, ⟨(some 19), none, .call false 10 .bool [(.s 18)]⟩, ⟨(some 20), none, .mov (.s 19)⟩, ⟨(some 21), (some (20, false)), .ld (.agg [(.int .i64), (.int .i64), .str, .slc, .slc]) (.s 2)⟩, ⟨(some 22), (some (20, false)), .call false 19 .bool [(.s 21)]⟩, ⟨(some 23), (some (20, false)), .un .not (.s 22)⟩, ⟨(some 24), none, .pick (.s 20) (.c (.t (.bool true))) (.s 23)⟩, ⟨(some 25), none, .mov (.s 24)⟩, ⟨(some 26), (some (25, false)), .mov (.s 1)⟩, ⟨(some 27), (some (25, false)), .bin .gtr (.s 26) (.c (.t (.int .i64 200)))⟩, ⟨(some 28), none, .pick (.s 25) (.c (.t (.bool true))) (.s 27)⟩])
 (.cond (.s 28)
 (.seq (.reg [⟨(some 4), none, .mov (.c (.t (.bool true)))⟩])
 .ret)
 .skip))
 (.seq (.reg [⟨(some 30), none, .ld (.agg [(.int .i64), (.int .i64), .str, .slc, .slc]) (.s 2)⟩, ⟨(some 31), none, .call false 20 (.tup [(.agg [(.int .i64), (.int .i64), .str, .slc, .slc]), .slc, .bool]) [(.s 30)]⟩, ⟨(some 29), none, .mov (.s 31)⟩, ⟨(some 32), none, .ext 0 (.s 29)⟩, ⟨(some 33), none, .ext 1 (.s 29)⟩, ⟨(some 34), none, .ext 2 (.s 29)⟩, ⟨(some 5), none, .new (.agg [(.int .i64), (.int .i64), .str, .slc, .slc]) (.agg [(.t (.int .i64 0)), (.t (.int .i64 0)), (.t (.str [])), .nilS, .nilS])⟩, ⟨none, none, .st (.agg [(.int .i64), (.int .i64), .str, .slc, .slc]) (.s 5) (.s 32)⟩, ⟨(some 6), none, .mov (.s 33)⟩, ⟨(some 7), none, .mov (.s 34)⟩])
 (.seq (.reg [⟨(some 36), none, .ld (.agg [(.int .i64), (.int .i64), .str, .slc, .slc]) (.s 2)⟩, ⟨(some 37), none, .call false 21 (.tup [(.agg [(.int .i64), (.int .i64), .str, .slc, .slc]), .slc, .bool]) [(.s 36)]⟩, ⟨(some 35), none, .mov (.s 37)⟩, ⟨(some 38), none, .ext 0 (.s 35)⟩, ⟨(some 39), none, .ext 1 (.s 35)⟩, ⟨(some 40), none, .ext 2 (.s 35)⟩, ⟨(some 8), none, .new (.agg [(.int .i64), (.int .i64), .str, .slc, .slc]) (.agg [(.t (.int .i64 0)), (.t (.int .i64 0)), (.t (.str [])), .nilS, .nilS])⟩, ⟨none, none, .st (.agg [(.int .i64), (.int .i64), .str, .slc, .slc]) (.s 8) (.s 38)⟩, ⟨(some 9), none, .mov (.s 39)⟩, ⟨(some 10), none, .mov (.s 40)⟩])
 (.seq (.seq (.reg [⟨(some 41), none, .mov (.s 7)⟩, ⟨(some 42), none, .mov (.s 10)⟩, ⟨(some 43), none, .eqs true .bool (.s 41) (.s 42)⟩, ⟨(some 44), none, .mov (.s 43)⟩, ⟨(some 45), (some (44, false)), .ld (.agg [(.int .i64), (.int .i64), .str, .slc, .slc]) (.s 5)⟩, ⟨(some 46), (some (44, false)), .ld (.agg [(.int .i64), (.int .i64), .str, .slc, .slc]) (.s 8)⟩, ⟨(some 47), (some (44, false)), .call false 22 .bool [(.s 45), (.s 46)]⟩, ⟨(some 48), (some (44, false)), .un .not (.s 47)⟩, ⟨(some 49), none, .pick (.s 44) (.c (.t (.bool true))) (.s 48)⟩, ⟨(some 50), none, .mov (.s 49)⟩, ⟨(some 51), (some (50, false)), .mov (.s 6)⟩, ⟨(some 52), (some (50, false)), .mov (.s 9)⟩, ⟨(some 53), (some (50, false)), .call false 23 .bool [(.s 51), (.s 52)]⟩, ⟨(some 54), (some (50, false)), .un .not (.s 53)⟩, ⟨(some 55), none, .pick (.s 50) (.c (.t (.bool true))) (.s 54)⟩])
 (.cond (.s 55)
 (.seq (.reg [⟨(some 4), none, .mov (.c (.t (.bool false)))⟩])
 .ret)
 .skip))
 (.seq (.reg [⟨(some 57), none, .ld (.agg [(.int .i64), (.int .i64), .str, .slc, .slc]) (.s 2)⟩, ⟨(some 58), none, .mov (.s 1)⟩, ⟨(some 59), none, .call false 24 (.tup [(.agg [(.int .i64), (.int .i64), .str, .slc, .slc]), (.int .i64), (.int .i64)]) [(.s 57), (.s 58)]⟩, ⟨(some 56), none, .mov (.s 59)⟩, ⟨(some 60), none, .ext 0 (.s 56)⟩, ⟨(some 61), none, .ext 1 (.s 56)⟩, ⟨(some 62), none, .ext 2 (.s 56)⟩, ⟨(some 11), none, .new (.agg [(.int .i64), (.int .i64), .str, .slc, .slc]) (.agg [(.t (.int .i64 0)), (.t (.int .i64 0)), (.t (.str [])), .nilS, .nilS])⟩, ⟨none, none, .st (.agg [(.int .i64), (.int .i64), .str, .slc, .slc]) (.s 11) (.s 60)⟩, ⟨(some 12), none, .mov (.s 61)⟩, ⟨(some 13), none, .mov (.s 62)⟩])
 (.seq (.reg [⟨(some 64), none, .ld (.agg [(.int .i64), (.int .i64), .str, .slc, .slc]) (.s 2)⟩, ⟨(some 65), none, .mov (.s 1)⟩, ⟨(some 66), none, .call false 25 (.tup [(.agg [(.int .i64), (.int .i64), .str, .slc, .slc]), (.int .i64), (.int .i64)]) [(.s 64), (.s 65)]⟩, ⟨(some 63), none, .mov (.s 66)⟩, ⟨(some 67), none, .ext 0 (.s 63)⟩, ⟨(some 68), none, .ext 1 (.s 63)⟩, ⟨(some 69), none, .ext 2 (.s 63)⟩, ⟨(some 14), none, .new (.agg [(.int .i64), (.int .i64), .str, .slc, .slc]) (.agg [(.t (.int .i64 0)), (.t (.int .i64 0)), (.t (.str [])), .nilS, .nilS])⟩, ⟨none, none, .st (.agg [(.int .i64), (.int .i64), .str, .slc, .slc]) (.s 14) (.s 67)⟩, ⟨(some 15), none, .mov (.s 68)⟩, ⟨(some 16), none, .mov (.s 69)⟩])
 (.seq (.reg [⟨(some 70), none, .mov (.s 13)⟩, ⟨(some 71), none, .mov (.s 16)⟩, ⟨(some 72), none, .bin .eql (.s 70) (.s 71)⟩, ⟨(some 73), none, .mov (.s 72)⟩, ⟨(some 74), (some (73, true)), .mov (.s 12)⟩, ⟨(some 75), (some (73, true)), .mov (.s 15)⟩, ⟨(some 76), (some (73, true)), .bin .eql (.s 74) (.s 75)⟩, ⟨(some 77), none, .pick (.s 73) (.s 76) (.c (.t (.bool false)))⟩, ⟨(some 78), none, .mov (.s 77)⟩, ⟨(some 79), (some (78, true)), .ld (.agg [(.int .i64), (.int .i64), .str, .slc, .slc]) (.s 11)⟩, ⟨(some 80), (some (78, true)), .ld (.agg [(.int .i64), (.int .i64), .str, .slc, .slc]) (.s 14)⟩, ⟨(some 81), (some (78, true)), .call false 22 .bool [(.s 79), (.s 80)]⟩, ⟨(some 82), none, .pick (.s 78) (.s 81) (.c (.t (.bool false)))⟩, ⟨(some 83), none, .mov (.s 82)⟩, ⟨(some 84), (some (83, true)), .call false 13 .bool []⟩, ⟨(some 85), none, .pick (.s 83) (.s 84) (.c (.t (.bool false)))⟩, ⟨(some 4), none, .mov (.s 85)⟩])
 .ret)))))))),
 [.slot 4]⟩
theorem ok5 : compF Try.prog 5 [] [] = some ir5 := by kernel_rfl

/-- tenet/tenetlaw25.SimpleKeeps -/
def ir6 : FInfo := ⟨79,
 (.seq (.reg [⟨(some 3), none, .box (.agg [(.int .i64), (.int .i64), .str, .slc, .slc]) (.s 1)⟩, ⟨(some 4), none, .mov (.c (.t (.bool false)))⟩])
 (.seq (.seq (.reg [⟨(some 12), none, .ld (.agg [(.int .i64), (.int .i64), .str, .slc, .slc]) (.s 3)⟩, ⟨(some 13), none, .bsl (.agg [(.int .i64), (.int .i64), .str, .slc, .slc]) (.agg [(.t (.int .i64 0)), (.t (.int .i64 0)), (.t (.str [])), .nilS, .nilS]) 1 [(0, (.s 12))]⟩, ⟨(some 14), none, .call false 10 .bool [(.s 13)]⟩, ⟨(some 15), none, .mov (.s 14)⟩, ⟨(some 16), (some (15, false)), .mov (.s 0)⟩, ⟨(some 17), (some (15, false)), .len (.s 16)⟩, ⟨(some 18), (some (15, false)), .bin .gtr (.s 17) (.c (.t (.int .i64 20)))⟩, ⟨(some 19), none, .pick (.s 15) (.c (.t (.bool true))) (.s 18)⟩, ⟨(some 20), none, .mov (.s 19)⟩, ⟨(some 21), (some (20, false)), .mov (.s 0)⟩, ⟨(some 22), (some (20, false)), .call false 14 (.int .i64) [(.s 21), (.c (.t (.int .i64 300)))]⟩, ⟨(some 23), (some (20, false)), .bin .gtr (.s 22) (.c (.t (.int .i64 300)))⟩, ⟨(some 24), none, .pick (.s 20) (.c (.t (.bool true))) (.s 23)⟩])
 (.cond (.s 24)
 (.seq (.reg [⟨(some 4), none, .mov (.c (.t (.bool true)))⟩])
 .ret)
 .skip))
 (.seq (.reg [⟨(some 26), none, .mov (.s 0)⟩, ⟨(some 27), none, .ld (.agg [(.int .i64), (.int .i64), .str, .slc, .slc]) (.s 3)⟩, ⟨(some 28), none, .call false 15 (.tup [(.agg [.str, .slc]), (.int .i64)]) [(.s 26), (.s 27)]⟩, ⟨(some 25), none, .mov (.s 28)⟩, ⟨(some 29), none, .ext 0 (.s 25)⟩, ⟨(some 30), none, .ext 1 (.s 25)⟩, ⟨(some 5), none, .new (.agg [.str, .slc]) (.agg [(.t (.str [])), .nilS])⟩, ⟨none, none, .st (.agg [.str, .slc]) (.s 5) (.s 29)⟩, ⟨(some 6), none, .mov (.s 30)⟩])
 (.seq (.seq (.reg [⟨(some 31), none, .mov (.s 6)⟩, ⟨(some 32), none, .bin .neq (.s 31) (.c (.t (.int .i64 0)))⟩])
 (.cond (.s 32)
 (.seq (.reg [⟨(some 33), none, .call false 13 .bool []⟩, ⟨(some 4), none, .mov (.s 33)⟩])
 .ret)
 .skip))
 (.seq (.reg [⟨(some 35), none, .ld (.agg [(.int .i64), (.int .i64), .str, .slc, .slc]) (.s 3)⟩, ⟨(some 36), none, .call false 20 (.tup [(.agg [(.int .i64), (.int .i64), .str, .slc, .slc]), .slc, .bool]) [(.s 35)]⟩, ⟨(some 34), none, .mov (.s 36)⟩, ⟨(some 37), none, .ext 0 (.s 34)⟩, ⟨(some 38), none, .ext 1 (.s 34)⟩, ⟨(some 39), none, .ext 2 (.s 34)⟩, ⟨(some 7), none, .new (.agg [(.int .i64), (.int .i64), .str, .slc, .slc]) (.agg [(.t (.int .i64 0)), (.t (.int .i64 0)), (.t (.str [])), .nilS, .nilS])⟩, ⟨none, none, .st (.agg [(.int .i64), (.int .i64), .str, .slc, .slc]) (.s 7) (.s 37)⟩, ⟨(some 8), none, .mov (.s 38)⟩, ⟨(some 9), none, .mov (.s 39)⟩])
 (.seq (.seq (.reg [⟨(some 40), none, .mov (.s 9)⟩])
 (.cond (.s 40)
 (.seq (.reg [⟨(some 42), none, .mov (.s 0)⟩, ⟨(some 43), none, .ld (.agg [(.int .i64), (.int .i64), .str, .slc, .slc]) (.s 7)⟩, ⟨(some 44), none, .call false 15 (.tup [(.agg [.str, .slc]), (.int .i64)]) [(.s 42), (.s 43)]⟩, ⟨(some 41), none, .mov (.s 44)⟩, ⟨(some 45), none, .ext 0 (.s 41)⟩, ⟨(some 46), none, .ext 1 (.s 41)⟩, ⟨(some 10), none, .new (.agg [.str, .slc]) (.agg [(.t (.str [])), .nilS])⟩, ⟨none, none, .st (.agg [.str, .slc]) (.s 10) (.s 45)⟩, ⟨(some 11), none, .mov (.s 46)⟩])
 (.seq (.reg [⟨(some 47), none, .mov (.s 11)⟩, ⟨(some 48), none, .bin .eql (.s 47) (.c (.t (.int .i64 4)))⟩, ⟨(some 49), none, .mov (.s 48)⟩, ⟨(some 50), (some (49, true)), .ld (.agg [(.int .i64), (.int .i64), .str, .slc, .slc]) (.s 7)⟩, ⟨(some 51), (some (49, true)), .call false 18 .bool [(.s 50)]⟩, ⟨(some 52), (some (49, true)), .un .not (.s 51)⟩, ⟨(some 53), none, .pick (.s 49) (.s 52) (.c (.t (.bool false)))⟩, ⟨(some 54), none, .mov (.s 53)⟩, ⟨(some 55), (some (54, false)), .mov (.s 11)⟩, ⟨(some 56), (some (54, false)), .bin .eql (.s 55) (.c (.t (.int .i64 0)))⟩, ⟨(some 57), (some (54, false)), .mov (.s 56)⟩, ⟨(some 58), (some (57, true)), .ld (.agg [.str, .slc]) (.s 5)⟩, ⟨(some 59), (some (57, true)), .ld (.agg [.str, .slc]) (.s 10)⟩, ⟨(some 60), (some (57, true)), .call false 16 .bool [(.s 58), (.s 59)]⟩, ⟨(some 61), (some (54, false)), .pick (.s 57) (.s 60) (.c (.t (.bool false)))⟩, ⟨(some 62), none, .pick (.s 54) (.c (.t (.bool true))) (.s 61)⟩, ⟨(some 63), none, .mov (.s 62)⟩, ⟨(some 64), (some (63, true)), .call false 13 .bool []⟩, ⟨(some 65), none, .pick (.s 63) (.s 64) (.c (.t (.bool false)))⟩, ⟨(some 4), none, .mov (.s 65)⟩])
 .ret))
 .skip))
 (.seq (.seq (.reg [⟨(some 66), none, .mov (.s 0)⟩, ⟨(some 67), none, .len (.s 66)⟩, ⟨(some 68), none, .bin .gtr (.s 67) (.c (.t (.int .i64 0)))⟩])
 (.cond (.s 68)
 (.seq (.reg [⟨(some 69), none, .call false 13 .bool []⟩, ⟨(some 4), none, .mov (.s 69)⟩])
 .ret)
 .skip))
 (.seq (.dreg [⟨(some 70), none, .fa 0 (.s 3)⟩, ⟨(some 71), none, .ld (.int .i64) (.s 70)⟩, ⟨(some 72), none, .fa 0 (.s 5)⟩, ⟨(some 73), none, .ld .str (.s 72)⟩, ⟨(some 74), none, .call false 26 (.int .i64) [(.s 73)]⟩, ⟨(some 75), none, .bin .eql (.s 71) (.s 74)⟩, ⟨(some 76), none, .mov (.s 75)⟩, ⟨(some 77), (some (76, true)), .call false 13 .bool []⟩, ⟨(some 78), none, .pick (.s 76) (.s 77) (.c (.t (.bool false)))⟩, ⟨(some 4), none, .mov (.s 78)⟩] [0, 1, 0, 4, 12, 31, 63, 127, 255, 511])
 .ret)))))))),
 [.slot 4]⟩
theorem ok6 : compF Try.prog 6 [] [] = some ir6 := by kernel_rfl

/-- tenet/tenetlaw25.SimpleEnds -/
def ir7 : FInfo := ⟨102,
 (.seq (.reg [⟨(some 2), none, .box (.agg [(.int .i64), (.int .i64), .str, .slc, .slc]) (.s 0)⟩, ⟨(some 4), none, .mov (.c (.t (.bool false)))⟩])
 (.seq (.seq (.reg [⟨(some 19), none, .ld (.agg [(.int .i64), (.int .i64), .str, .slc, .slc]) (.s 2)⟩, ⟨(some 20), none, .bsl (.agg [(.int .i64), (.int .i64), .str, .slc, .slc]) (.agg [(.t (.int .i64 0)), (.t (.int .i64 0)), (.t (.str [])), .nilS, .nilS]) 1 [(0, (.s 19))]⟩, ⟨(some 21), none, .call false 10 .bool [(.s 20)]⟩])
 (.cond (.s 21)
 (.seq (.reg [⟨(some 4), none, .mov (.c (.t (.bool true)))⟩])
 .ret)
 .skip))
 (.seq (.reg [⟨(some 23), none, .ld (.agg [(.int .i64), (.int .i64), .str, .slc, .slc]) (.s 2)⟩, ⟨(some 24), none, .call false 15 (.tup [(.agg [.str, .slc]), (.int .i64)]) [(.c .nilS), (.s 23)]⟩, ⟨(some 22), none, .mov (.s 24)⟩, ⟨(some 25), none, .ext 0 (.s 22)⟩, ⟨(some 26), none, .ext 1 (.s 22)⟩, ⟨(some 5), none, .new (.agg [.str, .slc]) (.agg [(.t (.str [])), .nilS])⟩, ⟨none, none, .st (.agg [.str, .slc]) (.s 5) (.s 25)⟩, ⟨(some 6), none, .mov (.s 26)⟩])
 (.seq (.seq (.reg [⟨(some 27), none, .mov (.s 6)⟩, ⟨(some 28), none, .bin .neq (.s 27) (.c (.t (.int .i64 0)))⟩])
 (.cond (.s 28)
 (.seq (.reg [⟨(some 29), none, .call false 13 .bool []⟩, ⟨(some 4), none, .mov (.s 29)⟩])
 .ret)
 .skip))
 (.seq (.reg [⟨(some 30), none, .mov (.s 1)⟩, ⟨(some 31), none, .conv .i64 (.s 30)⟩, ⟨(some 32), none, .mn (.s 31) (.c (.t (.int .i64 200)))⟩, ⟨(some 7), none, .mov (.s 32)⟩])
 (.seq (.reg [⟨(some 34), none, .ld (.agg [(.int .i64), (.int .i64), .str, .slc, .slc]) (.s 2)⟩, ⟨(some 35), none, .mov (.s 7)⟩, ⟨(some 36), none, .call false 24 (.tup [(.agg [(.int .i64), (.int .i64), .str, .slc, .slc]), (.int .i64), (.int .i64)]) [(.s 34), (.s 35)]⟩, ⟨(some 33), none, .mov (.s 36)⟩, ⟨(some 37), none, .ext 0 (.s 33)⟩, ⟨(some 38), none, .ext 1 (.s 33)⟩, ⟨(some 39), none, .ext 2 (.s 33)⟩, ⟨(some 8), none, .new (.agg [(.int .i64), (.int .i64), .str, .slc, .slc]) (.agg [(.t (.int .i64 0)), (.t (.int .i64 0)), (.t (.str [])), .nilS, .nilS])⟩, ⟨none, none, .st (.agg [(.int .i64), (.int .i64), .str, .slc, .slc]) (.s 8) (.s 37)⟩, ⟨(some 9), none, .mov (.s 38)⟩, ⟨(some 10), none, .mov (.s 39)⟩])
 (.seq (.seq (.reg [⟨(some 40), none, .mov (.s 10)⟩, ⟨(some 41), none, .bin .neq (.s 40) (.c (.t (.int .i64 0)))⟩])
 (.cond (.s 41)
 (.seq (.reg [⟨(some 42), none, .mov (.s 10)⟩, ⟨(some 43), none, .bin .eql (.s 42) (.c (.t (.int .i64 5)))⟩, ⟨(some 44), none, .mov (.s 43)⟩, ⟨(some 45), (some (44, true)), .call false 13 .bool []⟩, ⟨(some 46), none, .pick (.s 44) (.s 45) (.c (.t (.bool false)))⟩, ⟨(some 4), none, .mov (.s 46)⟩])
 .ret)
 .skip))
 (.seq (.reg [⟨(some 48), none, .ld (.agg [(.int .i64), (.int .i64), .str, .slc, .slc]) (.s 2)⟩, ⟨(some 49), none, .mov (.s 7)⟩, ⟨(some 50), none, .bin .mul (.c (.t (.int .i64 2))) (.s 49)⟩, ⟨(some 51), none, .bin .add (.s 50) (.c (.t (.int .i64 5)))⟩, ⟨(some 52), none, .call false 24 (.tup [(.agg [(.int .i64), (.int .i64), .str, .slc, .slc]), (.int .i64), (.int .i64)]) [(.s 48), (.s 51)]⟩, ⟨(some 47), none, .mov (.s 52)⟩, ⟨(some 53), none, .ext 0 (.s 47)⟩, ⟨(some 54), none, .ext 1 (.s 47)⟩, ⟨(some 55), none, .ext 2 (.s 47)⟩, ⟨(some 11), none, .new (.agg [(.int .i64), (.int .i64), .str, .slc, .slc]) (.agg [(.t (.int .i64 0)), (.t (.int .i64 0)), (.t (.str [])), .nilS, .nilS])⟩, ⟨none, none, .st (.agg [(.int .i64), (.int .i64), .str, .slc, .slc]) (.s 11) (.s 53)⟩, ⟨(some 12), none, .mov (.s 54)⟩, ⟨(some 13), none, .mov (.s 55)⟩])
 (.seq (.reg [⟨(some 57), none, .ld (.agg [(.int .i64), (.int .i64), .str, .slc, .slc]) (.s 8)⟩, ⟨(some 58), none, .call false 20 (.tup [(.agg [(.int .i64), (.int .i64), .str, .slc, .slc]), .slc, .bool]) [(.s 57)]⟩, ⟨(some 56), none, .mov (.s 58)⟩, ⟨(some 59), none, .ext 0 (.s 56)⟩, ⟨(some 60), none, .ext 1 (.s 56)⟩, ⟨(some 61), none, .ext 2 (.s 56)⟩, ⟨(some 14), none, .new (.agg [(.int .i64), (.int .i64), .str, .slc, .slc]) (.agg [(.t (.int .i64 0)), (.t (.int .i64 0)), (.t (.str [])), .nilS, .nilS])⟩, ⟨none, none, .st (.agg [(.int .i64), (.int .i64), .str, .slc, .slc]) (.s 14) (.s 59)⟩, ⟨(some 15), none, .mov (.s 60)⟩, ⟨(some 16), none, .mov (.s 61)⟩])
 (.seq (.seq (.reg [⟨(some 62), none, .mov (.s 13)⟩, ⟨(some 63), none, .bin .neq (.s 62) (.c (.t (.int .i64 0)))⟩, ⟨(some 64), none, .mov (.s 63)⟩, ⟨(some 65), (some (64, false)), .mov (.s 9)⟩, ⟨(some 66), (some (64, false)), .mov (.s 12)⟩, ⟨(some 67), (some (64, false)), .bin .neq (.s 65) (.s 66)⟩, ⟨(some 68), none, .pick (.s 64) (.c (.t (.bool true))) (.s 67)⟩, ⟨(some 69), none, .mov (.s 68)⟩, ⟨(some 70), (some (69, false)), .mov (.s 16)⟩, ⟨(some 71), none, .pick (.s 69) (.c (.t (.bool true))) (.s 70)⟩, ⟨(some 72), none, .mov (.s 71)⟩, ⟨(some 73), (some (72, false)), .ld (.agg [(.int .i64), (.int .i64), .str, .slc, .slc]) (.s 8)⟩, ⟨(some 74), (some (72, false)), .ld (.agg [(.int .i64), (.int .i64), .str, .slc, .slc]) (.s 11)⟩, ⟨(some 75), (some (72, false)), .call false 22 .bool [(.s 73), (.s 74)]⟩, ⟨(some 76), (some (72, false)), .un .not (.s 75)⟩, ⟨(some 77), none, .pick (.s 72) (.c (.t (.bool true))) (.s 76)⟩])
 (.cond (.s 77)
 (.seq (.reg [⟨(some 4), none, .mov (.c (.t (.bool false)))⟩])
 .ret)
 .skip))
 (.seq (.reg [⟨(some 79), none, .ld (.agg [(.int .i64), (.int .i64), .str, .slc, .slc]) (.s 8)⟩, ⟨(some 80), none, .call false 15 (.tup [(.agg [.str, .slc]), (.int .i64)]) [(.c .nilS), (.s 79)]⟩, ⟨(some 78), none, .mov (.s 80)⟩, ⟨(some 81), none, .ext 0 (.s 78)⟩, ⟨(some 82), none, .ext 1 (.s 78)⟩, ⟨(some 17), none, .new (.agg [.str, .slc]) (.agg [(.t (.str [])), .nilS])⟩, ⟨none, none, .st (.agg [.str, .slc]) (.s 17) (.s 81)⟩, ⟨(some 18), none, .mov (.s 82)⟩])
 (.seq (.reg [⟨(some 83), none, .mov (.s 18)⟩, ⟨(some 84), none, .bin .eql (.s 83) (.c (.t (.int .i64 4)))⟩, ⟨(some 85), none, .mov (.s 84)⟩, ⟨(some 86), (some (85, true)), .ld (.agg [(.int .i64), (.int .i64), .str, .slc, .slc]) (.s 8)⟩, ⟨(some 87), (some (85, true)), .call false 18 .bool [(.s 86)]⟩, ⟨(some 88), (some (85, true)), .un .not (.s 87)⟩, ⟨(some 89), none, .pick (.s 85) (.s 88) (.c (.t (.bool false)))⟩, ⟨(some 90), none, .mov (.s 89)⟩, ⟨(some 91), (some (90, false)), .mov (.s 18)⟩, ⟨(some 92), (some (90, false)), .bin .eql (.s 91) (.c (.t (.int .i64 0)))⟩, ⟨(some 93), (some (90, false)), .mov (.s 92)⟩, ⟨(some 94), (some (93, true)), .ld (.agg [.str, .slc]) (.s 5)⟩, ⟨(some 95), (some (93, true)), .ld (.agg [.str, .slc]) (.s 17)⟩, ⟨(some 96), (some (93, true)), .call false 16 .bool [(.s 94), (.s 95)]⟩, ⟨(some 97), (some (90, false)), .pick (.s 93) (.s 96) (.c (.t (.bool false)))⟩, ⟨(some 98), none, .pick (.s 90) (.c (.t (.bool true))) (.s 97)⟩, ⟨(some 99), none, .mov (.s 98)⟩, ⟨(some 100), (some (99, true)), .call false 13 .bool []⟩, ⟨(some 101), none, .pick (.s 99) (.s 100) (.c (.t (.bool false)))⟩, ⟨(some 4), none, .mov (.s 101)⟩])
 .ret)))))))))))),
 [.slot 4]⟩
theorem ok7 : compF Try.prog 7 [] [] = some ir7 := by kernel_rfl

/-- tenet/tenetlaw25.SimpleTypes -/
def ir8 : FInfo := ⟨78,
 (.seq (.reg [⟨(some 3), none, .box (.agg [(.int .i64), (.int .i64), .str, .slc, .slc]) (.s 1)⟩, ⟨(some 4), none, .mov (.c (.t (.bool false)))⟩])
 (.seq (.seq (.reg [⟨(some 13), none, .ld (.agg [(.int .i64), (.int .i64), .str, .slc, .slc]) (.s 3)⟩, ⟨(some 14), none, .bsl (.agg [(.int .i64), (.int .i64), .str, .slc, .slc]) (.agg [(.t (.int .i64 0)), (.t (.int .i64 0)), (.t (.str [])), .nilS, .nilS]) 1 [(0, (.s 13))]⟩, ⟨(some 15), none, .call false 10 .bool [(.s 14)]⟩, ⟨(some 16), none, .mov (.s 15)⟩, ⟨(some 17), (some (16, false)), .mov (.s 0)⟩, ⟨(some 18), (some (16, false)), .len (.s 17)⟩, ⟨(some 19), (some (16, false)), .bin .gtr (.s 18) (.c (.t (.int .i64 110)))⟩, ⟨(some 20), none, .pick (.s 16) (.c (.t (.bool true))) (.s 19)⟩, ⟨(some 21), none, .mov (.s 20)⟩, ⟨(some 22), (some (21, false)), .mov (.s 0)⟩, ⟨(some 23), (some (21, false)), .call false 14 (.int .i64) [(.s 22), (.c (.t (.int .i64 500)))]⟩, ⟨(some 24), (some (21, false)), .bin .gtr (.s 23) (.c (.t (.int .i64 500)))⟩, ⟨(some 25), none, .pick (.s 21) (.c (.t (.bool true))) (.s 24)⟩])
 (.cond (.s 25)
 (.seq (.reg [⟨(some 4), none, .mov (.c (.t (.bool true)))⟩])
 .ret)
 .skip))
 (.seq (.reg [⟨(some 27), none, .mov (.s 0)⟩, ⟨(some 28), none, .ld (.agg [(.int .i64), (.int .i64), .str, .slc, .slc]) (.s 3)⟩, ⟨(some 29), none, .call false 15 (.tup [(.agg [.str, .slc]), (.int .i64)]) [(.s 27), (.s 28)]⟩, ⟨(some 26), none, .mov (.s 29)⟩, ⟨(some 30), none, .ext 0 (.s 26)⟩, ⟨(some 31), none, .ext 1 (.s 26)⟩, ⟨(some 5), none, .new (.agg [.str, .slc]) (.agg [(.t (.str [])), .nilS])⟩, ⟨none, none, .st (.agg [.str, .slc]) (.s 5) (.s 30)⟩, ⟨(some 6), none, .mov (.s 31)⟩])
 (.seq (.reg [⟨(some 33), none, .mov (.s 0)⟩, ⟨(some 34), none, .ld (.agg [(.int .i64), (.int .i64), .str, .slc, .slc]) (.s 3)⟩, ⟨(some 35), none, .call false 27 (.tup [(.agg [.str, .slc]), (.int .i64)]) [(.s 33), (.s 34)]⟩, ⟨(some 32), none, .mov (.s 35)⟩, ⟨(some 36), none, .ext 0 (.s 32)⟩, ⟨(some 37), none, .ext 1 (.s 32)⟩, ⟨(some 7), none, .new (.agg [.str, .slc]) (.agg [(.t (.str [])), .nilS])⟩, ⟨none, none, .st (.agg [.str, .slc]) (.s 7) (.s 36)⟩, ⟨(some 8), none, .mov (.s 37)⟩])
 (.seq (.reg [⟨(some 39), none, .mov (.s 0)⟩, ⟨(some 40), none, .ld (.agg [(.int .i64), (.int .i64), .str, .slc, .slc]) (.s 3)⟩, ⟨(some 41), none, .call false 28 (.tup [.slc, (.int .i64)]) [(.s 39), (.s 40)]⟩, ⟨(some 38), none, .mov (.s 41)⟩, ⟨(some 42), none, .ext 0 (.s 38)⟩, ⟨(some 43), none, .ext 1 (.s 38)⟩, ⟨(some 9), none, .mov (.s 42)⟩, ⟨(some 10), none, .mov (.s 43)⟩])
 (.seq (.reg [⟨(some 45), none, .mov (.s 0)⟩, ⟨(some 46), none, .ld (.agg [(.int .i64), (.int .i64), .str, .slc, .slc]) (.s 3)⟩, ⟨(some 47), none, .call false 29 (.tup [.slc, (.int .i64)]) [(.s 45), (.s 46)]⟩, ⟨(some 44), none, .mov (.s 47)⟩, ⟨(some 48), none, .ext 0 (.s 44)⟩, ⟨(some 49), none, .ext 1 (.s 44)⟩, ⟨(some 11), none, .mov (.s 48)⟩, ⟨(some 12), none, .mov (.s 49)⟩])
 (.seq (.dreg [⟨(some 50), none, .ld (.agg [(.int .i64), (.int .i64), .str, .slc, .slc]) (.s 3)⟩, ⟨(some 51), none, .call false 30 .bool [(.s 50)]⟩, ⟨(some 52), none, .ld (.agg [(.int .i64), (.int .i64), .str, .slc, .slc]) (.s 3)⟩, ⟨(some 53), none, .call false 18 .bool [(.s 52)]⟩, ⟨(some 54), none, .eqs false .bool (.s 51) (.s 53)⟩, ⟨(some 55), none, .mov (.s 54)⟩, ⟨(some 56), (some (55, true)), .mov (.s 6)⟩, ⟨(some 57), (some (55, true)), .mov (.s 8)⟩, ⟨(some 58), (some (55, true)), .bin .eql (.s 56) (.s 57)⟩, ⟨(some 59), none, .pick (.s 55) (.s 58) (.c (.t (.bool false)))⟩, ⟨(some 60), none, .mov (.s 59)⟩, ⟨(some 61), (some (60, true)), .ld (.agg [.str, .slc]) (.s 5)⟩, ⟨(some 62), (some (60, true)), .ld (.agg [.str, .slc]) (.s 7)⟩, ⟨(some 63), (some (60, true)), .call false 16 .bool [(.s 61), (.s 62)]⟩, ⟨(some 64), none, .pick (.s 60) (.s 63) (.c (.t (.bool false)))⟩, ⟨(some 65), none, .mov (.s 64)⟩, ⟨(some 66), (some (65, true)), .mov (.s 10)⟩, ⟨(some 67), (some (65, true)), .mov (.s 12)⟩, ⟨(some 68), (some (65, true)), .bin .eql (.s 66) (.s 67)⟩, ⟨(some 69), none, .pick (.s 65) (.s 68) (.c (.t (.bool false)))⟩, ⟨(some 70), none, .mov (.s 69)⟩, ⟨(some 71), (some (70, true)), .mov (.s 9)⟩, ⟨(some 72), (some (70, true)), .mov (.s 11)⟩, ⟨(some 73), (some (70, true)), .call false 23 .bool [(.s 71), (.s 72)]⟩, ⟨(some 74), none, .pick (.s 70) (.s 73) (.c (.t (.bool false)))⟩, ⟨(some 75), none, .mov (.s 74)⟩, ⟨(some 76), (some (75, true)), .call false 13 .bool []⟩, ⟨(some 77), none, .pick (.s 75) (.s 76) (.c (.t (.bool false)))⟩, ⟨(some 4), none, .mov (.s 77)⟩] [0, 1, 0, 7, 15, 31, 63, 63, 255, 511, 1023, 2047, 2047, 8191, 16383, 32767, 65535, 65535, 262143, 524287, 1048575, 2097151, 2097151, 8388607, 16777215, 33554431, 67108863, 134217727, 268435455])
 .ret))))))),
 [.slot 4]⟩
theorem ok8 : compF Try.prog 8 [] [] = some ir8 := by kernel_rfl

/-- tenet/tenetlaw25.SimplePuts -/
def ir9 : FInfo := ⟨78,
 (.seq (.reg [⟨(some 4), none, .box (.agg [(.int .i64), (.int .i64), .str, .slc, .slc]) (.s 0)⟩, ⟨(some 5), none, .box (.agg [(.int .i64), (.int .i64), .str, .slc, .slc]) (.s 1)⟩, ⟨(some 8), none, .mov (.c (.t (.bool false)))⟩])
 (.seq (.seq (.reg [⟨(some 9), none, .ld (.agg [(.int .i64), (.int .i64), .str, .slc, .slc]) (.s 4)⟩, ⟨(some 10), none, .ld (.agg [(.int .i64), (.int .i64), .str, .slc, .slc]) (.s 5)⟩, ⟨(some 11), none, .bsl (.agg [(.int .i64), (.int .i64), .str, .slc, .slc]) (.agg [(.t (.int .i64 0)), (.t (.int .i64 0)), (.t (.str [])), .nilS, .nilS]) 2 [(0, (.s 9)), (1, (.s 10))]⟩, ⟨(some 12), none, .call false 10 .bool [(.s 11)]⟩, ⟨(some 13), none, .mov (.s 12)⟩, ⟨(some 14), (some (13, false)), .ld (.agg [(.int .i64), (.int .i64), .str, .slc, .slc]) (.s 4)⟩, ⟨(some 15), (some (13, false)), .call false 19 .bool [(.s 14)]⟩, ⟨(some 16), (some (13, false)), .un .not (.s 15)⟩, ⟨(some 17), none, .pick (.s 13) (.c (.t (.bool true))) (.s 16)⟩, ⟨(some 18), none, .mov (.s 17)⟩, ⟨(some 19), (some (18, false)), .ld (.agg [(.int .i64), (.int .i64), .str, .slc, .slc]) (.s 5)⟩, ⟨(some 20), (some (18, false)), .call false 19 .bool [(.s 19)]⟩, ⟨(some 21), (some (18, false)), .un .not (.s 20)⟩, ⟨(some 22), none, .pick (.s 18) (.c (.t (.bool true))) (.s 21)⟩, ⟨(some 23), none, .mov (.s 22)⟩, ⟨(some 24), (some (23, false)), .mov (.s 3)⟩, ⟨(some 25), (some (23, false)), .bin .lss (.s 24) (.c (.t (.int .i64 (-1000000))))⟩, ⟨(some 26), none, .pick (.s 23) (.c (.t (.bool true))) (.s 25)⟩, ⟨(some 27), none, .mov (.s 26)⟩, ⟨(some 28), (some (27, false)), .mov (.s 3)⟩, ⟨(some 29), (some (27, false)), .bin .gtr (.s 28) (.c (.t (.int .i64 1000000)))⟩, ⟨(some 30), none, .pick (.s 27) (.c (.t (.bool true))) (.s 29)⟩, ⟨(some 31), none, .mov (.s 30)⟩, ⟨(some 32), (some (31, false)), .mov (.s 2)⟩, ⟨(some 33), (some (31, false)), .bin .lss (.s 32) (.c (.t (.int .i64 (-4611686018427387904))))⟩, ⟨(some 34), none, .pick (.s 31) (.c (.t (.bool true))) (.s 33)⟩, ⟨(some 35), none, .mov (.s 34)⟩, ⟨(some 36), (some (35, false)), .mov (.s 2)⟩, ⟨(some 37), (some (35, false)), .bin .gtr (.s 36) (.c (.t (.int .i64 4611686018427387904)))⟩, ⟨(some 38), none, .pick (.s 35) (.c (.t (.bool true))) (.s 37)⟩])
 (.cond (.s 38)
 (.seq (.reg [⟨(some 8), none, .mov (.c (.t (.bool true)))⟩])
 .ret)
 .skip))
 (.seq (.dreg [⟨(some 39), none, .ld (.agg [(.int .i64), (.int .i64), .str, .slc, .slc]) (.s 4)⟩, ⟨(some 40), none, .mov (.s 3)⟩, ⟨(some 41), none, .mov (.s 2)⟩, ⟨(some 42), none, .call false 31 (.agg [(.int .i64), (.int .i64), .str, .slc, .slc]) [(.s 39), (.s 40), (.s 41)]⟩, ⟨(some 43), none, .ld (.agg [(.int .i64), (.int .i64), .str, .slc, .slc]) (.s 4)⟩, ⟨(some 44), none, .mov (.s 3)⟩, ⟨(some 45), none, .mov (.s 2)⟩, ⟨(some 46), none, .call false 32 (.agg [(.int .i64), (.int .i64), .str, .slc, .slc]) [(.s 43), (.s 44), (.s 45)]⟩, ⟨(some 47), none, .call false 22 .bool [(.s 42), (.s 46)]⟩, ⟨(some 48), none, .mov (.s 47)⟩, ⟨(some 49), (some (48, true)), .ld (.agg [(.int .i64), (.int .i64), .str, .slc, .slc]) (.s 4)⟩, ⟨(some 50), (some (48, true)), .mov (.s 2)⟩, ⟨(some 51), (some (48, true)), .ld (.agg [(.int .i64), (.int .i64), .str, .slc, .slc]) (.s 5)⟩, ⟨(some 52), (some (48, true)), .call false 17 (.agg [(.int .i64), (.int .i64), .str, .slc, .slc]) [(.s 49), (.s 50), (.s 51)]⟩, ⟨(some 53), (some (48, true)), .ld (.agg [(.int .i64), (.int .i64), .str, .slc, .slc]) (.s 4)⟩, ⟨(some 54), (some (48, true)), .mov (.s 2)⟩, ⟨(some 55), (some (48, true)), .ld (.agg [(.int .i64), (.int .i64), .str, .slc, .slc]) (.s 5)⟩, ⟨(some 56), (some (48, true)), .call false 33 (.agg [(.int .i64), (.int .i64), .str, .slc, .slc]) [(.s 53), (.s 54), (.s 55)]⟩, ⟨(some 57), (some (48, true)), .call false 22 .bool [(.s 52), (.s 56)]⟩, ⟨(some 58), none, .pick (.s 48) (.s 57) (.c (.t (.bool false)))⟩, ⟨(some 59), none, .mov (.s 58)⟩, ⟨(some 60), (some (59, true)), .ld (.agg [(.int .i64), (.int .i64), .str, .slc, .slc]) (.s 4)⟩, ⟨(some 61), (some (59, true)), .call false 34 (.agg [(.int .i64), (.int .i64), .str, .slc, .slc]) [(.s 60)]⟩, ⟨(some 62), (some (59, true)), .ld (.agg [(.int .i64), (.int .i64), .str, .slc, .slc]) (.s 4)⟩, ⟨(some 63), (some (59, true)), .call false 35 (.agg [(.int .i64), (.int .i64), .str, .slc, .slc]) [(.s 62)]⟩, ⟨(some 64), (some (59, true)), .call false 22 .bool [(.s 61), (.s 63)]⟩, ⟨(some 65), none, .pick (.s 59) (.s 64) (.c (.t (.bool false)))⟩, ⟨(some 66), none, .mov (.s 65)⟩, ⟨(some 67), (some (66, true)), .ld (.agg [(.int .i64), (.int .i64), .str, .slc, .slc]) (.s 4)⟩, ⟨(some 68), (some (66, true)), .ld (.agg [(.int .i64), (.int .i64), .str, .slc, .slc]) (.s 5)⟩, ⟨(some 69), (some (66, true)), .call false 36 .bool [(.s 67), (.s 68)]⟩, ⟨(some 70), (some (66, true)), .ld (.agg [(.int .i64), (.int .i64), .str, .slc, .slc]) (.s 4)⟩, ⟨(some 71), (some (66, true)), .ld (.agg [(.int .i64), (.int .i64), .str, .slc, .slc]) (.s 5)⟩, ⟨(some 72), (some (66, true)), .call false 22 .bool [(.s 70), (.s 71)]⟩, ⟨(some 73), (some (66, true)), .eqs false .bool (.s 69) (.s 72)⟩, ⟨(some 74), none, .pick (.s 66) (.s 73) (.c (.t (.bool false)))⟩, ⟨(some 75), none, .mov (.s 74)⟩, ⟨(some 76), (some (75, true)), .call false 13 .bool []⟩, ⟨(some 77), none, .pick (.s 75) (.s 76) (.c (.t (.bool false)))⟩, ⟨(some 8), none, .mov (.s 77)⟩] [0, 0, 0, 7, 0, 0, 0, 127, 255, 511, 1023, 1023, 1023, 8191, 1023, 1023, 1023, 131071, 262143, 524287, 1048575, 2097151, 4194303, 2097151, 16777215, 33554431, 67108863, 134217727, 268435455, 268435455, 1073741823, 268435455, 268435455, 8589934591, 17179869183, 34359738367, 68719476735, 137438953471, 274877906943, 549755813887])
 .ret))),
 [.slot 8]⟩
theorem ok9 : compF Try.prog 9 [] [] = some ir9 := by kernel_rfl

/-- tenet/tenetlaw25.heavy -/
def ir10 : FInfo := ⟨29,
 (.seq (.reg [⟨(some 2), none, .mov (.c (.t (.bool false)))⟩])
 (.seq (.seq (.reg [⟨(some 3), none, .mov (.c (.t (.int .i64 0)))⟩])
 (.block 0 (.loop [0, 3] (.seq (.seq (.reg [⟨(some 6), none, .mov (.s 3)⟩, ⟨(some 7), none, .mov (.s 0)⟩, ⟨(some 8), none, .len (.s 7)⟩, ⟨(some 9), none, .bin .lss (.s 6) (.s 8)⟩])
 (.cond (.s 9)
 .skip
 (.exit 0)))
 (.seq (.block 1 (.seq (.seq (.reg [⟨(some 12), none, .mov (.s 0)⟩, ⟨(some 13), none, .mov (.s 3)⟩, ⟨(some 14), none, .mov (.s 3)⟩, ⟨(some 15), none, .bin .add (.s 14) (.c (.t (.int .i64 1)))⟩, ⟨(some 16), none, .sub (.agg [(.int .i64), (.int .i64), .str, .slc, .slc]) (.s 12) (some (.s 13)) (some (.s 15)) none⟩, ⟨(some 17), none, .call false 37 (.int .i64) [(.s 16), (.c (.t (.int .i64 720)))]⟩, ⟨(some 18), none, .bin .gtr (.s 17) (.c (.t (.int .i64 720)))⟩])
 (.cond (.s 18)
 (.seq (.reg [⟨(some 2), none, .mov (.c (.t (.bool true)))⟩])
 .ret)
 .skip))
 (.seq (.reg [⟨(some 20), none, .mov (.s 0)⟩, ⟨(some 21), none, .mov (.s 3)⟩, ⟨(some 22), none, .ia (.agg [(.int .i64), (.int .i64), .str, .slc, .slc]) (.s 20) (.s 21)⟩, ⟨(some 23), none, .ld (.agg [(.int .i64), (.int .i64), .str, .slc, .slc]) (.s 22)⟩, ⟨(some 24), none, .call false 38 (.tup [(.int .i64), (.int .i64)]) [(.s 23)]⟩, ⟨(some 19), none, .mov (.s 24)⟩, ⟨(some 25), none, .ext 0 (.s 19)⟩, ⟨(some 26), none, .ext 1 (.s 19)⟩, ⟨(some 4), none, .mov (.s 25)⟩, ⟨(some 5), none, .mov (.s 26)⟩])
 (.seq (.reg [⟨(some 27), none, .mov (.s 4)⟩, ⟨(some 28), none, .bin .gtr (.s 27) (.c (.t (.int .i64 120)))⟩])
 (.cond (.s 28)
 (.seq (.reg [⟨(some 2), none, .mov (.c (.t (.bool true)))⟩])
 .ret)
 .skip)))))
 (.reg [⟨(some 10), none, .mov (.s 3)⟩, ⟨(some 11), none, .bin .add (.s 10) (.c (.t (.int .i64 1)))⟩, ⟨(some 3), none, .mov (.s 11)⟩]))))))
 (.seq (.reg [⟨(some 2), none, .mov (.c (.t (.bool false)))⟩])
 .ret))),
 [.slot 2]⟩
theorem ok10 : compF Try.prog 10 [[0, 3]] [] = some ir10 := by kernel_rfl

/-- tenet/simple.Value -/
def ir11 : FInfo := ⟨40,
 (.seq (.reg [⟨(some 2), none, .box (.agg [(.int .i64), (.int .i64), .str, .slc, .slc]) (.s 0)⟩, ⟨(some 4), none, .mov (.c (.t (.int .i64 0)))⟩, ⟨(some 5), none, .mov (.c (.t (.int .i64 0)))⟩])
 (.seq (.reg [⟨(some 11), none, .ld (.agg [(.int .i64), (.int .i64), .str, .slc, .slc]) (.s 2)⟩, ⟨(some 12), none, .call false 15 (.tup [(.agg [.str, .slc]), (.int .i64)]) [(.c .nilS), (.s 11)]⟩, ⟨(some 10), none, .mov (.s 12)⟩, ⟨(some 13), none, .ext 0 (.s 10)⟩, ⟨(some 14), none, .ext 1 (.s 10)⟩, ⟨(some 6), none, .new (.agg [.str, .slc]) (.agg [(.t (.str [])), .nilS])⟩, ⟨none, none, .st (.agg [.str, .slc]) (.s 6) (.s 13)⟩, ⟨(some 7), none, .mov (.s 14)⟩])
 (.seq (.block 0 (.seq (.reg [⟨(some 16), none, .mov (.s 7)⟩, ⟨(some 17), none, .bin .neq (.s 16) (.c (.t (.int .i64 0)))⟩, ⟨(some 15), none, .mov (.s 17)⟩])
 (.cond (.s 15)
 (.seq (.reg [⟨(some 18), none, .mov (.s 7)⟩, ⟨(some 4), none, .mov (.c (.t (.int .i64 0)))⟩, ⟨(some 5), none, .mov (.s 18)⟩])
 .ret)
 (.seq (.reg [⟨(some 20), none, .fa 0 (.s 6)⟩, ⟨(some 21), none, .ld .str (.s 20)⟩, ⟨(some 22), none, .bin .neq (.s 21) (.c (.t (.str [78, 97, 116])))⟩, ⟨(some 19), none, .mov (.s 22)⟩])
 (.cond (.s 19)
 (.seq (.reg [⟨(some 4), none, .mov (.c (.t (.int .i64 0)))⟩, ⟨(some 5), none, .mov (.c (.t (.int .i64 250)))⟩])
 .ret)
 .skip)))))
 (.seq (.reg [⟨(some 24), none, .ld (.agg [(.int .i64), (.int .i64), .str, .slc, .slc]) (.s 2)⟩, ⟨(some 25), none, .mov (.s 1)⟩, ⟨(some 26), none, .call false 24 (.tup [(.agg [(.int .i64), (.int .i64), .str, .slc, .slc]), (.int .i64), (.int .i64)]) [(.s 24), (.s 25)]⟩, ⟨(some 23), none, .mov (.s 26)⟩, ⟨(some 27), none, .ext 0 (.s 23)⟩, ⟨(some 28), none, .ext 1 (.s 23)⟩, ⟨(some 29), none, .ext 2 (.s 23)⟩, ⟨(some 8), none, .new (.agg [(.int .i64), (.int .i64), .str, .slc, .slc]) (.agg [(.t (.int .i64 0)), (.t (.int .i64 0)), (.t (.str [])), .nilS, .nilS])⟩, ⟨none, none, .st (.agg [(.int .i64), (.int .i64), .str, .slc, .slc]) (.s 8) (.s 27)⟩, ⟨(some 9), none, .mov (.s 28)⟩, ⟨(some 7), none, .mov (.s 29)⟩])
 (.seq (.block 1 (.seq (.reg [⟨(some 31), none, .mov (.s 7)⟩, ⟨(some 32), none, .bin .neq (.s 31) (.c (.t (.int .i64 0)))⟩, ⟨(some 30), none, .mov (.s 32)⟩])
 (.cond (.s 30)
 (.seq (.reg [⟨(some 33), none, .mov (.s 7)⟩, ⟨(some 4), none, .mov (.c (.t (.int .i64 0)))⟩, ⟨(some 5), none, .mov (.s 33)⟩])
 .ret)
 (.seq (.reg [⟨(some 35), none, .fa 1 (.s 8)⟩, ⟨(some 36), none, .ld (.int .i64) (.s 35)⟩, ⟨(some 37), none, .bin .gtr (.s 36) (.c (.t (.int .i64 1000000)))⟩, ⟨(some 34), none, .mov (.s 37)⟩])
 (.cond (.s 34)
 (.seq (.reg [⟨(some 4), none, .mov (.c (.t (.int .i64 0)))⟩, ⟨(some 5), none, .mov (.c (.t (.int .i64 2)))⟩])
 .ret)
 .skip)))))
 (.seq (.reg [⟨(some 38), none, .fa 1 (.s 8)⟩, ⟨(some 39), none, .ld (.int .i64) (.s 38)⟩, ⟨(some 4), none, .mov (.s 39)⟩, ⟨(some 5), none, .mov (.c (.t (.int .i64 0)))⟩])
 .ret)))))),
 [.slot 4, .slot 5]⟩
theorem ok11 : compF Try.prog 11 [] [] = some ir11 := by kernel_rfl

/-- tenet/tenetref25.Value -/
def ir12 : FInfo := ⟨36,
 (.seq (.reg [⟨(some 2), none, .box (.agg [(.int .i64), (.int .i64), .str, .slc, .slc]) (.s 0)⟩, ⟨(some 4), none, .mov (.c (.t (.int .i64 0)))⟩, ⟨(some 5), none, .mov (.c (.t (.int .i64 0)))⟩])
 (.seq (.reg [⟨(some 11), none, .ld (.agg [(.int .i64), (.int .i64), .str, .slc, .slc]) (.s 2)⟩, ⟨(some 12), none, .call false 27 (.tup [(.agg [.str, .slc]), (.int .i64)]) [(.c .nilS), (.s 11)]⟩, ⟨(some 10), none, .mov (.s 12)⟩, ⟨(some 13), none, .ext 0 (.s 10)⟩, ⟨(some 14), none, .ext 1 (.s 10)⟩, ⟨(some 6), none, .new (.agg [.str, .slc]) (.agg [(.t (.str [])), .nilS])⟩, ⟨none, none, .st (.agg [.str, .slc]) (.s 6) (.s 13)⟩, ⟨(some 7), none, .mov (.s 14)⟩])
 (.seq (.seq (.reg [⟨(some 15), none, .mov (.s 7)⟩, ⟨(some 16), none, .bin .neq (.s 15) (.c (.t (.int .i64 0)))⟩])
 (.cond (.s 16)
 (.seq (.reg [⟨(some 17), none, .mov (.s 7)⟩, ⟨(some 4), none, .mov (.c (.t (.int .i64 0)))⟩, ⟨(some 5), none, .mov (.s 17)⟩])
 .ret)
 .skip))
 (.seq (.seq (.reg [⟨(some 18), none, .fa 0 (.s 6)⟩, ⟨(some 19), none, .ld .str (.s 18)⟩, ⟨(some 20), none, .bin .neq (.s 19) (.c (.t (.str [78, 97, 116])))⟩])
 (.cond (.s 20)
 (.seq (.reg [⟨(some 4), none, .mov (.c (.t (.int .i64 0)))⟩, ⟨(some 5), none, .mov (.c (.t (.int .i64 250)))⟩])
 .ret)
 .skip))
 (.seq (.reg [⟨(some 22), none, .ld (.agg [(.int .i64), (.int .i64), .str, .slc, .slc]) (.s 2)⟩, ⟨(some 23), none, .mov (.s 1)⟩, ⟨(some 24), none, .call false 25 (.tup [(.agg [(.int .i64), (.int .i64), .str, .slc, .slc]), (.int .i64), (.int .i64)]) [(.s 22), (.s 23)]⟩, ⟨(some 21), none, .mov (.s 24)⟩, ⟨(some 25), none, .ext 0 (.s 21)⟩, ⟨(some 26), none, .ext 1 (.s 21)⟩, ⟨(some 27), none, .ext 2 (.s 21)⟩, ⟨(some 8), none, .new (.agg [(.int .i64), (.int .i64), .str, .slc, .slc]) (.agg [(.t (.int .i64 0)), (.t (.int .i64 0)), (.t (.str [])), .nilS, .nilS])⟩, ⟨none, none, .st (.agg [(.int .i64), (.int .i64), .str, .slc, .slc]) (.s 8) (.s 25)⟩, ⟨(some 9), none, .mov (.s 26)⟩, ⟨(some 7), none, .mov (.s 27)⟩])
 (.seq (.seq (.reg [⟨(some 28), none, .mov (.s 7)⟩, ⟨(some 29), none, .bin .neq (.s 28) (.c (.t (.int .i64 0)))⟩])
 (.cond (.s 29)
 (.seq (.reg [⟨(some 30), none, .mov (.s 7)⟩, ⟨(some 4), none, .mov (.c (.t (.int .i64 0)))⟩, ⟨(some 5), none, .mov (.s 30)⟩])
 .ret)
 .skip))
 (.seq (.seq (.reg [⟨(some 31), none, .fa 1 (.s 8)⟩, ⟨(some 32), none, .ld (.int .i64) (.s 31)⟩, ⟨(some 33), none, .bin .gtr (.s 32) (.c (.t (.int .i64 1000000)))⟩])
 (.cond (.s 33)
 (.seq (.reg [⟨(some 4), none, .mov (.c (.t (.int .i64 0)))⟩, ⟨(some 5), none, .mov (.c (.t (.int .i64 2)))⟩])
 .ret)
 .skip))
 (.seq (.reg [⟨(some 34), none, .fa 1 (.s 8)⟩, ⟨(some 35), none, .ld (.int .i64) (.s 34)⟩, ⟨(some 4), none, .mov (.s 35)⟩, ⟨(some 5), none, .mov (.c (.t (.int .i64 0)))⟩])
 .ret)))))))),
 [.slot 4, .slot 5]⟩
theorem ok12 : compF Try.prog 12 [] [] = some ir12 := by kernel_rfl

/-- tenet/tenetlaw25.awake -/
def ir13 : FInfo := ⟨27,
 (.seq (.reg [⟨(some 0), none, .mov (.c (.t (.bool false)))⟩])
 (.seq (.reg [⟨(some 5), none, .build [(.t (.int .i64 0)), (.t (.int .i64 0)), (.t (.str [])), .nilS, .nilS] [(0, (.int .i64), (.c (.t (.int .i64 1))))]⟩, ⟨(some 1), none, .new (.agg [(.int .i64), (.int .i64), .str, .slc, .slc]) (.agg [(.t (.int .i64 0)), (.t (.int .i64 0)), (.t (.str [])), .nilS, .nilS])⟩, ⟨none, none, .st (.agg [(.int .i64), (.int .i64), .str, .slc, .slc]) (.s 1) (.s 5)⟩])
 (.seq (.reg [⟨(some 6), none, .build [(.t (.str [])), .nilS] [(0, .str, (.c (.t (.str [78, 97, 116]))))]⟩, ⟨(some 7), none, .ld (.agg [(.int .i64), (.int .i64), .str, .slc, .slc]) (.s 1)⟩, ⟨(some 8), none, .bsl (.agg [(.int .i64), (.int .i64), .str, .slc, .slc]) (.agg [(.t (.int .i64 0)), (.t (.int .i64 0)), (.t (.str [])), .nilS, .nilS]) 1 [(0, (.s 7))]⟩, ⟨(some 9), none, .build [(.t (.int .i64 0)), (.t (.int .i64 0)), (.t (.str [])), .nilS, .nilS] [(0, (.int .i64), (.c (.t (.int .i64 5)))), (4, .slc, (.s 8))]⟩, ⟨(some 10), none, .bsl (.agg [(.int .i64), (.int .i64), .str, .slc, .slc]) (.agg [(.t (.int .i64 0)), (.t (.int .i64 0)), (.t (.str [])), .nilS, .nilS]) 1 [(0, (.s 9))]⟩, ⟨(some 11), none, .build [(.t (.int .i64 0)), (.t (.int .i64 0)), (.t (.str [])), .nilS, .nilS] [(0, (.int .i64), (.c (.t (.int .i64 2)))), (2, (.agg [.str, .slc]), (.s 6)), (4, .slc, (.s 10))]⟩, ⟨(some 2), none, .new (.agg [(.int .i64), (.int .i64), .str, .slc, .slc]) (.agg [(.t (.int .i64 0)), (.t (.int .i64 0)), (.t (.str [])), .nilS, .nilS])⟩, ⟨none, none, .st (.agg [(.int .i64), (.int .i64), .str, .slc, .slc]) (.s 2) (.s 11)⟩])
 (.seq (.reg [⟨(some 13), none, .build [(.t (.int .i64 0)), (.t (.int .i64 0)), (.t (.str [])), .nilS, .nilS] [(0, (.int .i64), (.c (.t (.int .i64 4)))), (1, (.int .i64), (.c (.t (.int .i64 3))))]⟩, ⟨(some 14), none, .ld (.agg [(.int .i64), (.int .i64), .str, .slc, .slc]) (.s 2)⟩, ⟨(some 15), none, .build [(.t (.int .i64 0)), (.t (.int .i64 0)), (.t (.str [])), .nilS, .nilS] [(0, (.int .i64), (.c (.t (.int .i64 4)))), (1, (.int .i64), (.c (.t (.int .i64 2))))]⟩, ⟨(some 16), none, .bsl (.agg [(.int .i64), (.int .i64), .str, .slc, .slc]) (.agg [(.t (.int .i64 0)), (.t (.int .i64 0)), (.t (.str [])), .nilS, .nilS]) 3 [(0, (.s 13)), (1, (.s 14)), (2, (.s 15))]⟩, ⟨(some 17), none, .build [(.t (.int .i64 0)), (.t (.int .i64 0)), (.t (.str [])), .nilS, .nilS] [(0, (.int .i64), (.c (.t (.int .i64 6)))), (4, .slc, (.s 16))]⟩, ⟨(some 18), none, .call false 11 (.tup [(.int .i64), (.int .i64)]) [(.s 17), (.c (.t (.int .i64 100)))]⟩, ⟨(some 12), none, .mov (.s 18)⟩, ⟨(some 19), none, .ext 0 (.s 12)⟩, ⟨(some 20), none, .ext 1 (.s 12)⟩, ⟨(some 3), none, .mov (.s 19)⟩, ⟨(some 4), none, .mov (.s 20)⟩])
 (.seq (.reg [⟨(some 21), none, .mov (.s 4)⟩, ⟨(some 22), none, .bin .eql (.s 21) (.c (.t (.int .i64 0)))⟩, ⟨(some 23), none, .mov (.s 22)⟩, ⟨(some 24), (some (23, true)), .mov (.s 3)⟩, ⟨(some 25), (some (23, true)), .bin .eql (.s 24) (.c (.t (.int .i64 5)))⟩, ⟨(some 26), none, .pick (.s 23) (.s 25) (.c (.t (.bool false)))⟩, ⟨(some 0), none, .mov (.s 26)⟩])
 .ret))))),
 [.slot 0]⟩
theorem ok13 : compF Try.prog 13 [] [] = some ir13 := by kernel_rfl

/-- tenet/tenetlaw25.tys -/
def ir14 : FInfo := ⟨40,
 (.seq (.reg [⟨(some 4), none, .mov (.c (.t (.int .i64 0)))⟩])
 (.seq (.reg [⟨(some 5), none, .mov (.c (.t (.int .i64 0)))⟩])
 (.seq (.seq (.reg [⟨(some 6), none, .mov (.c (.t (.int .i64 0)))⟩])
 (.block 0 (.loop [0, 1, 5, 6] (.seq (.seq (.reg [⟨(some 7), none, .mov (.s 6)⟩, ⟨(some 8), none, .mov (.s 0)⟩, ⟨(some 9), none, .len (.s 8)⟩, ⟨(some 10), none, .bin .lss (.s 7) (.s 9)⟩, ⟨(some 11), none, .mov (.s 10)⟩, ⟨(some 12), (some (11, true)), .mov (.s 5)⟩, ⟨(some 13), (some (11, true)), .mov (.s 1)⟩, ⟨(some 14), (some (11, true)), .bin .leq (.s 12) (.s 13)⟩, ⟨(some 15), none, .pick (.s 11) (.s 14) (.c (.t (.bool false)))⟩])
 (.cond (.s 15)
 .skip
 (.exit 0)))
 (.seq (.block 1 (.seq (.seq (.reg [⟨(some 18), none, .mov (.s 0)⟩, ⟨(some 19), none, .mov (.s 6)⟩, ⟨(some 20), none, .ia (.agg [.str, .slc]) (.s 18) (.s 19)⟩, ⟨(some 21), none, .fa 0 (.s 20)⟩, ⟨(some 22), none, .ld .str (.s 21)⟩, ⟨(some 23), none, .lens (.s 22)⟩, ⟨(some 24), none, .bin .gtr (.s 23) (.c (.t (.int .i64 100)))⟩])
 (.cond (.s 24)
 (.seq (.reg [⟨(some 25), none, .mov (.s 1)⟩, ⟨(some 26), none, .bin .add (.s 25) (.c (.t (.int .i64 1)))⟩, ⟨(some 4), none, .mov (.s 26)⟩])
 .ret)
 .skip))
 (.reg [⟨(some 27), none, .mov (.s 5)⟩, ⟨(some 28), none, .bin .add (.s 27) (.c (.t (.int .i64 1)))⟩, ⟨(some 29), none, .mov (.s 0)⟩, ⟨(some 30), none, .mov (.s 6)⟩, ⟨(some 31), none, .ia (.agg [.str, .slc]) (.s 29) (.s 30)⟩, ⟨(some 32), none, .fa 1 (.s 31)⟩, ⟨(some 33), none, .ld .slc (.s 32)⟩, ⟨(some 34), none, .mov (.s 1)⟩, ⟨(some 35), none, .mov (.s 5)⟩, ⟨(some 36), none, .bin .sub (.s 34) (.s 35)⟩, ⟨(some 37), none, .call false 14 (.int .i64) [(.s 33), (.s 36)]⟩, ⟨(some 38), none, .bin .add (.s 28) (.s 37)⟩, ⟨(some 5), none, .mov (.s 38)⟩])))
 (.reg [⟨(some 16), none, .mov (.s 6)⟩, ⟨(some 17), none, .bin .add (.s 16) (.c (.t (.int .i64 1)))⟩, ⟨(some 6), none, .mov (.s 17)⟩]))))))
 (.seq (.reg [⟨(some 39), none, .mov (.s 5)⟩, ⟨(some 4), none, .mov (.s 39)⟩])
 .ret)))),
 [.slot 4]⟩
theorem ok14 : compF Try.prog 14 [[0, 1, 5, 6]] [] = some ir14 := by kernel_rfl

/-- tenet/simple.Type -/
def ir15 : FInfo := ⟨26,
 (.seq (.reg [⟨(some 3), none, .box (.agg [(.int .i64), (.int .i64), .str, .slc, .slc]) (.s 1)⟩, ⟨(some 4), none, .new (.agg [.str, .slc]) (.agg [(.t (.str [])), .nilS])⟩, ⟨(some 5), none, .mov (.c (.t (.int .i64 0)))⟩])
 (.seq (.seq (.reg [⟨(some 9), none, .mov (.s 0)⟩, ⟨(some 10), none, .ld (.agg [(.int .i64), (.int .i64), .str, .slc, .slc]) (.s 3)⟩, ⟨(some 11), none, .call false 39 .bool [(.s 9), (.s 10)]⟩, ⟨(some 12), none, .un .not (.s 11)⟩])
 (.cond (.s 12)
 (.seq (.reg [⟨(some 13), none, .build [(.t (.str [])), .nilS] []⟩, ⟨none, none, .st (.agg [.str, .slc]) (.s 4) (.s 13)⟩, ⟨(some 5), none, .mov (.c (.t (.int .i64 4)))⟩])
 .ret)
 .skip))
 (.seq (.reg [⟨(some 15), none, .mov (.s 0)⟩, ⟨(some 16), none, .ld (.agg [(.int .i64), (.int .i64), .str, .slc, .slc]) (.s 3)⟩, ⟨(some 17), none, .call false 40 (.tup [(.agg [.str, .slc]), .slc, .bool]) [(.s 15), (.s 16)]⟩, ⟨(some 14), none, .mov (.s 17)⟩, ⟨(some 18), none, .ext 0 (.s 14)⟩, ⟨(some 19), none, .ext 1 (.s 14)⟩, ⟨(some 20), none, .ext 2 (.s 14)⟩, ⟨(some 6), none, .new (.agg [.str, .slc]) (.agg [(.t (.str [])), .nilS])⟩, ⟨none, none, .st (.agg [.str, .slc]) (.s 6) (.s 18)⟩, ⟨(some 7), none, .mov (.s 19)⟩, ⟨(some 8), none, .mov (.s 20)⟩])
 (.seq (.seq (.reg [⟨(some 21), none, .mov (.s 8)⟩, ⟨(some 22), none, .un .not (.s 21)⟩])
 (.cond (.s 22)
 (.seq (.reg [⟨(some 23), none, .build [(.t (.str [])), .nilS] []⟩, ⟨none, none, .st (.agg [.str, .slc]) (.s 4) (.s 23)⟩, ⟨(some 5), none, .mov (.c (.t (.int .i64 250)))⟩])
 .ret)
 .skip))
 (.seq (.reg [⟨(some 24), none, .ld (.agg [.str, .slc]) (.s 6)⟩, ⟨(some 25), none, .call false 41 (.agg [.str, .slc]) [(.s 24)]⟩, ⟨none, none, .st (.agg [.str, .slc]) (.s 4) (.s 25)⟩, ⟨(some 5), none, .mov (.c (.t (.int .i64 0)))⟩])
 .ret))))),
 [.cell 4 (.agg [.str, .slc]), .slot 5]⟩
theorem ok15 : compF Try.prog 15 [] [] = some ir15 := by kernel_rfl

/-- tenet/tenetref25.EqTy -/
def ir16 : FInfo := ⟨39,
 (.seq (.reg [⟨(some 2), none, .box (.agg [.str, .slc]) (.s 0)⟩, ⟨(some 3), none, .box (.agg [.str, .slc]) (.s 1)⟩, ⟨(some 4), none, .mov (.c (.t (.bool false)))⟩])
 (.seq (.seq (.reg [⟨(some 6), none, .fa 0 (.s 2)⟩, ⟨(some 7), none, .ld .str (.s 6)⟩, ⟨(some 8), none, .fa 0 (.s 3)⟩, ⟨(some 9), none, .ld .str (.s 8)⟩, ⟨(some 10), none, .bin .neq (.s 7) (.s 9)⟩, ⟨(some 11), none, .mov (.s 10)⟩, ⟨(some 12), (some (11, false)), .fa 1 (.s 2)⟩, ⟨(some 13), (some (11, false)), .ld .slc (.s 12)⟩, ⟨(some 14), (some (11, false)), .len (.s 13)⟩, ⟨(some 15), (some (11, false)), .fa 1 (.s 3)⟩, ⟨(some 16), (some (11, false)), .ld .slc (.s 15)⟩, ⟨(some 17), (some (11, false)), .len (.s 16)⟩, ⟨(some 18), (some (11, false)), .bin .neq (.s 14) (.s 17)⟩, ⟨(some 19), none, .pick (.s 11) (.c (.t (.bool true))) (.s 18)⟩])
 (.cond (.s 19)
 (.seq (.reg [⟨(some 4), none, .mov (.c (.t (.bool false)))⟩])
 .ret)
 .skip))
 (.seq (.seq (.reg [⟨(some 5), none, .mov (.c (.t (.int .i64 0)))⟩])
 (.block 0 (.loop [2, 3, 5] (.seq (.seq (.reg [⟨(some 20), none, .mov (.s 5)⟩, ⟨(some 21), none, .fa 1 (.s 2)⟩, ⟨(some 22), none, .ld .slc (.s 21)⟩, ⟨(some 23), none, .len (.s 22)⟩, ⟨(some 24), none, .bin .lss (.s 20) (.s 23)⟩])
 (.cond (.s 24)
 .skip
 (.exit 0)))
 (.seq (.block 1 (.seq (.dreg [⟨(some 27), none, .fa 1 (.s 2)⟩, ⟨(some 28), none, .ld .slc (.s 27)⟩, ⟨(some 29), none, .mov (.s 5)⟩, ⟨(some 30), none, .ia (.agg [.str, .slc]) (.s 28) (.s 29)⟩, ⟨(some 31), none, .ld (.agg [.str, .slc]) (.s 30)⟩, ⟨(some 32), none, .fa 1 (.s 3)⟩, ⟨(some 33), none, .ld .slc (.s 32)⟩, ⟨(some 34), none, .mov (.s 5)⟩, ⟨(some 35), none, .ia (.agg [.str, .slc]) (.s 33) (.s 34)⟩, ⟨(some 36), none, .ld (.agg [.str, .slc]) (.s 35)⟩, ⟨(some 37), none, .call false 16 .bool [(.s 31), (.s 36)]⟩, ⟨(some 38), none, .un .not (.s 37)⟩] [0, 1, 0, 7, 15, 0, 32, 0, 224, 480, 1023, 2047])
 (.cond (.s 38)
 (.seq (.reg [⟨(some 4), none, .mov (.c (.t (.bool false)))⟩])
 .ret)
 .skip)))
 (.reg [⟨(some 25), none, .mov (.s 5)⟩, ⟨(some 26), none, .bin .add (.s 25) (.c (.t (.int .i64 1)))⟩, ⟨(some 5), none, .mov (.s 26)⟩]))))))
 (.seq (.reg [⟨(some 4), none, .mov (.c (.t (.bool true)))⟩])
 .ret)))),
 [.slot 4]⟩
theorem ok16 : compF Try.prog 16 [[2, 3, 5]] [] = some ir16 := by kernel_rfl

/-- tenet/simple.Subst -/
def ir17 : FInfo := ⟨18,
 (.seq (.reg [⟨(some 3), none, .box (.agg [(.int .i64), (.int .i64), .str, .slc, .slc]) (.s 0)⟩, ⟨(some 4), none, .box (.int .i64) (.s 1)⟩, ⟨(some 5), none, .box (.agg [(.int .i64), (.int .i64), .str, .slc, .slc]) (.s 2)⟩, ⟨(some 6), none, .new (.agg [(.int .i64), (.int .i64), .str, .slc, .slc]) (.agg [(.t (.int .i64 0)), (.t (.int .i64 0)), (.t (.str [])), .nilS, .nilS])⟩])
 (.seq (.seq (.reg [⟨(some 7), none, .ld (.int .i64) (.s 4)⟩, ⟨(some 8), none, .bin .lss (.s 7) (.c (.t (.int .i64 0)))⟩, ⟨(some 9), none, .mov (.s 8)⟩, ⟨(some 10), (some (9, false)), .ld (.int .i64) (.s 4)⟩, ⟨(some 11), (some (9, false)), .bin .gtr (.s 10) (.c (.t (.int .i64 2147483648)))⟩, ⟨(some 12), none, .pick (.s 9) (.c (.t (.bool true))) (.s 11)⟩])
 (.cond (.s 12)
 (.seq (.reg [⟨(some 13), none, .ld (.agg [(.int .i64), (.int .i64), .str, .slc, .slc]) (.s 3)⟩, ⟨(some 14), none, .call false 42 (.agg [(.int .i64), (.int .i64), .str, .slc, .slc]) [(.s 13)]⟩, ⟨none, none, .st (.agg [(.int .i64), (.int .i64), .str, .slc, .slc]) (.s 6) (.s 14)⟩])
 .ret)
 .skip))
 (.seq (.reg [⟨(some 15), none, .ld (.agg [(.int .i64), (.int .i64), .str, .slc, .slc]) (.s 3)⟩, ⟨(some 16), none, .mkf 44 [] [(.s 4), (.s 5)]⟩, ⟨(some 17), none, .call false 43 (.agg [(.int .i64), (.int .i64), .str, .slc, .slc]) [(.s 15), (.c (.t (.int .i64 0))), (.s 16)]⟩, ⟨none, none, .st (.agg [(.int .i64), (.int .i64), .str, .slc, .slc]) (.s 6) (.s 17)⟩])
 .ret))),
 [.cell 6 (.agg [(.int .i64), (.int .i64), .str, .slc, .slc])]⟩
theorem ok17 : compF Try.prog 17 [] [] = some ir17 := by kernel_rfl

/-- tenet/tenetref25.Valid -/
def ir18 : FInfo := ⟨20,
 (.seq (.reg [⟨(some 1), none, .box (.agg [(.int .i64), (.int .i64), .str, .slc, .slc]) (.s 0)⟩, ⟨(some 2), none, .mov (.c (.t (.bool false)))⟩])
 (.seq (.reg [⟨(some 6), none, .ld (.agg [(.int .i64), (.int .i64), .str, .slc, .slc]) (.s 1)⟩, ⟨(some 7), none, .call false 38 (.tup [(.int .i64), (.int .i64)]) [(.s 6)]⟩, ⟨(some 5), none, .mov (.s 7)⟩, ⟨(some 8), none, .ext 0 (.s 5)⟩, ⟨(some 9), none, .ext 1 (.s 5)⟩, ⟨(some 3), none, .mov (.s 8)⟩, ⟨(some 4), none, .mov (.s 9)⟩])
 (.seq (.reg [⟨(some 10), none, .mov (.s 3)⟩, ⟨(some 11), none, .bin .leq (.s 10) (.c (.t (.int .i64 300)))⟩, ⟨(some 12), none, .mov (.s 11)⟩, ⟨(some 13), (some (12, true)), .mov (.s 4)⟩, ⟨(some 14), (some (12, true)), .bin .leq (.s 13) (.c (.t (.int .i64 60)))⟩, ⟨(some 15), none, .pick (.s 12) (.s 14) (.c (.t (.bool false)))⟩, ⟨(some 16), none, .mov (.s 15)⟩, ⟨(some 17), (some (16, true)), .ld (.agg [(.int .i64), (.int .i64), .str, .slc, .slc]) (.s 1)⟩, ⟨(some 18), (some (16, true)), .call false 45 .bool [(.s 17)]⟩, ⟨(some 19), none, .pick (.s 16) (.s 18) (.c (.t (.bool false)))⟩, ⟨(some 2), none, .mov (.s 19)⟩])
 .ret))),
 [.slot 2]⟩
theorem ok18 : compF Try.prog 18 [] [] = some ir18 := by kernel_rfl

/-- tenet/tenetlaw25.near -/
def ir19 : FInfo := ⟨26,
 (.seq (.reg [⟨(some 1), none, .box (.agg [(.int .i64), (.int .i64), .str, .slc, .slc]) (.s 0)⟩, ⟨(some 2), none, .mov (.c (.t (.bool false)))⟩])
 (.seq (.seq (.reg [⟨(some 4), none, .fa 0 (.s 1)⟩, ⟨(some 5), none, .ld (.int .i64) (.s 4)⟩, ⟨(some 6), none, .bin .eql (.s 5) (.c (.t (.int .i64 1)))⟩, ⟨(some 7), none, .mov (.s 6)⟩, ⟨(some 8), (some (7, true)), .fa 1 (.s 1)⟩, ⟨(some 9), (some (7, true)), .ld (.int .i64) (.s 8)⟩, ⟨(some 10), (some (7, true)), .bin .gtr (.s 9) (.c (.t (.int .i64 1000000)))⟩, ⟨(some 11), none, .pick (.s 7) (.s 10) (.c (.t (.bool false)))⟩])
 (.cond (.s 11)
 (.seq (.reg [⟨(some 2), none, .mov (.c (.t (.bool false)))⟩])
 .ret)
 .skip))
 (.seq (.seq (.reg [⟨(some 3), none, .mov (.c (.t (.int .i64 0)))⟩])
 (.block 0 (.loop [1, 3] (.seq (.seq (.reg [⟨(some 12), none, .mov (.s 3)⟩, ⟨(some 13), none, .fa 4 (.s 1)⟩, ⟨(some 14), none, .ld .slc (.s 13)⟩, ⟨(some 15), none, .len (.s 14)⟩, ⟨(some 16), none, .bin .lss (.s 12) (.s 15)⟩])
 (.cond (.s 16)
 .skip
 (.exit 0)))
 (.seq (.block 1 (.seq (.reg [⟨(some 19), none, .fa 4 (.s 1)⟩, ⟨(some 20), none, .ld .slc (.s 19)⟩, ⟨(some 21), none, .mov (.s 3)⟩, ⟨(some 22), none, .ia (.agg [(.int .i64), (.int .i64), .str, .slc, .slc]) (.s 20) (.s 21)⟩, ⟨(some 23), none, .ld (.agg [(.int .i64), (.int .i64), .str, .slc, .slc]) (.s 22)⟩, ⟨(some 24), none, .call false 19 .bool [(.s 23)]⟩, ⟨(some 25), none, .un .not (.s 24)⟩])
 (.cond (.s 25)
 (.seq (.reg [⟨(some 2), none, .mov (.c (.t (.bool false)))⟩])
 .ret)
 .skip)))
 (.reg [⟨(some 17), none, .mov (.s 3)⟩, ⟨(some 18), none, .bin .add (.s 17) (.c (.t (.int .i64 1)))⟩, ⟨(some 3), none, .mov (.s 18)⟩]))))))
 (.seq (.reg [⟨(some 2), none, .mov (.c (.t (.bool true)))⟩])
 .ret)))),
 [.slot 2]⟩
theorem ok19 : compF Try.prog 19 [[1, 3]] [] = some ir19 := by kernel_rfl

/-- tenet/simple.Step -/
def ir20 : FInfo := ⟨20,
 (.seq (.reg [⟨(some 1), none, .box (.agg [(.int .i64), (.int .i64), .str, .slc, .slc]) (.s 0)⟩, ⟨(some 2), none, .new (.agg [(.int .i64), (.int .i64), .str, .slc, .slc]) (.agg [(.t (.int .i64 0)), (.t (.int .i64 0)), (.t (.str [])), .nilS, .nilS])⟩, ⟨(some 3), none, .mov (.c .nilS)⟩, ⟨(some 4), none, .mov (.c (.t (.bool false)))⟩])
 (.seq (.reg [⟨(some 9), none, .ld (.agg [(.int .i64), (.int .i64), .str, .slc, .slc]) (.s 1)⟩, ⟨(some 10), none, .call false 46 (.tup [(.agg [(.int .i64), (.int .i64), .str, .slc, .slc]), .slc, .bool]) [(.s 9)]⟩, ⟨(some 8), none, .mov (.s 10)⟩, ⟨(some 11), none, .ext 0 (.s 8)⟩, ⟨(some 12), none, .ext 1 (.s 8)⟩, ⟨(some 13), none, .ext 2 (.s 8)⟩, ⟨(some 5), none, .new (.agg [(.int .i64), (.int .i64), .str, .slc, .slc]) (.agg [(.t (.int .i64 0)), (.t (.int .i64 0)), (.t (.str [])), .nilS, .nilS])⟩, ⟨none, none, .st (.agg [(.int .i64), (.int .i64), .str, .slc, .slc]) (.s 5) (.s 11)⟩, ⟨(some 6), none, .mov (.s 12)⟩, ⟨(some 7), none, .mov (.s 13)⟩])
 (.seq (.seq (.reg [⟨(some 14), none, .mov (.s 7)⟩, ⟨(some 15), none, .un .not (.s 14)⟩])
 (.cond (.s 15)
 (.seq (.reg [⟨(some 16), none, .build [(.t (.int .i64 0)), (.t (.int .i64 0)), (.t (.str [])), .nilS, .nilS] []⟩, ⟨none, none, .st (.agg [(.int .i64), (.int .i64), .str, .slc, .slc]) (.s 2) (.s 16)⟩, ⟨(some 3), none, .mov (.c .nilS)⟩, ⟨(some 4), none, .mov (.c (.t (.bool false)))⟩])
 .ret)
 .skip))
 (.seq (.reg [⟨(some 17), none, .ld (.agg [(.int .i64), (.int .i64), .str, .slc, .slc]) (.s 5)⟩, ⟨(some 18), none, .call false 42 (.agg [(.int .i64), (.int .i64), .str, .slc, .slc]) [(.s 17)]⟩, ⟨(some 19), none, .mov (.s 6)⟩, ⟨none, none, .st (.agg [(.int .i64), (.int .i64), .str, .slc, .slc]) (.s 2) (.s 18)⟩, ⟨(some 3), none, .mov (.s 19)⟩, ⟨(some 4), none, .mov (.c (.t (.bool true)))⟩])
 .ret)))),
 [.cell 2 (.agg [(.int .i64), (.int .i64), .str, .slc, .slc]), .slot 3, .slot 4]⟩
theorem ok20 : compF Try.prog 20 [] [] = some ir20 := by kernel_rfl

/-- tenet/tenetref25.Step -/
def ir21 : FInfo := ⟨51,
 (.seq (.reg [⟨(some 1), none, .box (.agg [(.int .i64), (.int .i64), .str, .slc, .slc]) (.s 0)⟩, ⟨(some 2), none, .new (.agg [(.int .i64), (.int .i64), .str, .slc, .slc]) (.agg [(.t (.int .i64 0)), (.t (.int .i64 0)), (.t (.str [])), .nilS, .nilS])⟩, ⟨(some 3), none, .mov (.c .nilS)⟩, ⟨(some 4), none, .mov (.c (.t (.bool false)))⟩])
 (.seq (.seq (.reg [⟨(some 13), none, .ld (.agg [(.int .i64), (.int .i64), .str, .slc, .slc]) (.s 1)⟩, ⟨(some 14), none, .call false 47 (.tup [(.agg [(.int .i64), (.int .i64), .str, .slc, .slc]), .bool]) [(.s 13)]⟩, ⟨(some 12), none, .mov (.s 14)⟩, ⟨(some 15), none, .ext 0 (.s 12)⟩, ⟨(some 16), none, .ext 1 (.s 12)⟩, ⟨(some 5), none, .new (.agg [(.int .i64), (.int .i64), .str, .slc, .slc]) (.agg [(.t (.int .i64 0)), (.t (.int .i64 0)), (.t (.str [])), .nilS, .nilS])⟩, ⟨none, none, .st (.agg [(.int .i64), (.int .i64), .str, .slc, .slc]) (.s 5) (.s 15)⟩, ⟨(some 6), none, .mov (.s 16)⟩])
 (.seq (.reg [⟨(some 17), none, .mov (.s 6)⟩])
 (.cond (.s 17)
 (.seq (.reg [⟨(some 18), none, .ld (.agg [(.int .i64), (.int .i64), .str, .slc, .slc]) (.s 5)⟩, ⟨(some 19), none, .call false 32 (.agg [(.int .i64), (.int .i64), .str, .slc, .slc]) [(.s 18), (.c (.t (.int .i64 0))), (.c (.t (.int .i64 0)))]⟩, ⟨none, none, .st (.agg [(.int .i64), (.int .i64), .str, .slc, .slc]) (.s 2) (.s 19)⟩, ⟨(some 3), none, .mov (.c .nilS)⟩, ⟨(some 4), none, .mov (.c (.t (.bool true)))⟩])
 .ret)
 .skip)))
 (.seq (.seq (.reg [⟨(some 7), none, .mov (.c (.t (.int .i64 0)))⟩])
 (.block 0 (.loop [1, 2, 7] (.seq (.seq (.reg [⟨(some 20), none, .mov (.s 7)⟩, ⟨(some 21), none, .fa 4 (.s 1)⟩, ⟨(some 22), none, .ld .slc (.s 21)⟩, ⟨(some 23), none, .len (.s 22)⟩, ⟨(some 24), none, .bin .lss (.s 20) (.s 23)⟩])
 (.cond (.s 24)
 .skip
 (.exit 0)))
 (.seq (.block 1 (.seq (.reg [⟨(some 28), none, .fa 4 (.s 1)⟩, ⟨(some 29), none, .ld .slc (.s 28)⟩, ⟨(some 30), none, .mov (.s 7)⟩, ⟨(some 31), none, .ia (.agg [(.int .i64), (.int .i64), .str, .slc, .slc]) (.s 29) (.s 30)⟩, ⟨(some 32), none, .ld (.agg [(.int .i64), (.int .i64), .str, .slc, .slc]) (.s 31)⟩, ⟨(some 33), none, .call false 21 (.tup [(.agg [(.int .i64), (.int .i64), .str, .slc, .slc]), .slc, .bool]) [(.s 32)]⟩, ⟨(some 27), none, .mov (.s 33)⟩, ⟨(some 34), none, .ext 0 (.s 27)⟩, ⟨(some 35), none, .ext 1 (.s 27)⟩, ⟨(some 36), none, .ext 2 (.s 27)⟩, ⟨(some 8), none, .new (.agg [(.int .i64), (.int .i64), .str, .slc, .slc]) (.agg [(.t (.int .i64 0)), (.t (.int .i64 0)), (.t (.str [])), .nilS, .nilS])⟩, ⟨none, none, .st (.agg [(.int .i64), (.int .i64), .str, .slc, .slc]) (.s 8) (.s 34)⟩, ⟨(some 9), none, .mov (.s 35)⟩, ⟨(some 10), none, .mov (.s 36)⟩])
 (.seq (.reg [⟨(some 37), none, .mov (.s 10)⟩])
 (.cond (.s 37)
 (.seq (.reg [⟨(some 38), none, .ld (.agg [(.int .i64), (.int .i64), .str, .slc, .slc]) (.s 1)⟩, ⟨(some 39), none, .call true 32 (.agg [(.int .i64), (.int .i64), .str, .slc, .slc]) [(.s 38), (.c (.t (.int .i64 0))), (.c (.t (.int .i64 0)))]⟩, ⟨(some 11), none, .new (.agg [(.int .i64), (.int .i64), .str, .slc, .slc]) (.agg [(.t (.int .i64 0)), (.t (.int .i64 0)), (.t (.str [])), .nilS, .nilS])⟩, ⟨none, none, .st (.agg [(.int .i64), (.int .i64), .str, .slc, .slc]) (.s 11) (.s 39)⟩])
 (.seq (.reg [⟨(some 40), none, .fa 4 (.s 11)⟩, ⟨(some 41), none, .ld .slc (.s 40)⟩, ⟨(some 42), none, .mov (.s 7)⟩, ⟨(some 43), none, .ld (.agg [(.int .i64), (.int .i64), .str, .slc, .slc]) (.s 8)⟩, ⟨(some 44), none, .ia (.agg [(.int .i64), (.int .i64), .str, .slc, .slc]) (.s 41) (.s 42)⟩, ⟨none, none, .st (.agg [(.int .i64), (.int .i64), .str, .slc, .slc]) (.s 44) (.s 43)⟩])
 (.seq (.dreg [⟨(some 45), none, .ld (.agg [(.int .i64), (.int .i64), .str, .slc, .slc]) (.s 11)⟩, ⟨(some 46), none, .mov (.s 7)⟩, ⟨(some 47), none, .bsl (.int .i64) (.t (.int .i64 0)) 1 [(0, (.s 46))]⟩, ⟨(some 48), none, .mov (.s 9)⟩, ⟨(some 49), none, .app (.int .i64) 8 (.s 47) (.s 48)⟩, ⟨none, none, .st (.agg [(.int .i64), (.int .i64), .str, .slc, .slc]) (.s 2) (.s 45)⟩, ⟨(some 3), none, .mov (.s 49)⟩, ⟨(some 4), none, .mov (.c (.t (.bool true)))⟩] [0, 0, 2, 0, 14, 31, 63, 127])
 .ret)))
 .skip))))
 (.reg [⟨(some 25), none, .mov (.s 7)⟩, ⟨(some 26), none, .bin .add (.s 25) (.c (.t (.int .i64 1)))⟩, ⟨(some 7), none, .mov (.s 26)⟩]))))))
 (.seq (.reg [⟨(some 50), none, .build [(.t (.int .i64 0)), (.t (.int .i64 0)), (.t (.str [])), .nilS, .nilS] []⟩, ⟨none, none, .st (.agg [(.int .i64), (.int .i64), .str, .slc, .slc]) (.s 2) (.s 50)⟩, ⟨(some 3), none, .mov (.c .nilS)⟩, ⟨(some 4), none, .mov (.c (.t (.bool false)))⟩])
 .ret)))),
 [.cell 2 (.agg [(.int .i64), (.int .i64), .str, .slc, .slc]), .slot 3, .slot 4]⟩
theorem ok21 : compF Try.prog 21 [[1, 2, 7]] [39] = some ir21 := by kernel_rfl

/-- tenet/tenetref25.Same -/
def ir22 : FInfo := ⟨54,
 (.seq (.reg [⟨(some 2), none, .box (.agg [(.int .i64), (.int .i64), .str, .slc, .slc]) (.s 0)⟩, ⟨(some 3), none, .box (.agg [(.int .i64), (.int .i64), .str, .slc, .slc]) (.s 1)⟩, ⟨(some 4), none, .mov (.c (.t (.bool false)))⟩])
 (.seq (.seq (.reg [⟨(some 6), none, .fa 0 (.s 2)⟩, ⟨(some 7), none, .ld (.int .i64) (.s 6)⟩, ⟨(some 8), none, .fa 0 (.s 3)⟩, ⟨(some 9), none, .ld (.int .i64) (.s 8)⟩, ⟨(some 10), none, .bin .neq (.s 7) (.s 9)⟩, ⟨(some 11), none, .mov (.s 10)⟩, ⟨(some 12), (some (11, false)), .fa 1 (.s 2)⟩, ⟨(some 13), (some (11, false)), .ld (.int .i64) (.s 12)⟩, ⟨(some 14), (some (11, false)), .fa 1 (.s 3)⟩, ⟨(some 15), (some (11, false)), .ld (.int .i64) (.s 14)⟩, ⟨(some 16), (some (11, false)), .bin .neq (.s 13) (.s 15)⟩, ⟨(some 17), none, .pick (.s 11) (.c (.t (.bool true))) (.s 16)⟩, ⟨(some 18), none, .mov (.s 17)⟩, ⟨(some 19), (some (18, false)), .fa 2 (.s 2)⟩, ⟨(some 20), (some (18, false)), .ld (.agg [.str, .slc]) (.s 19)⟩, ⟨(some 21), (some (18, false)), .fa 2 (.s 3)⟩, ⟨(some 22), (some (18, false)), .ld (.agg [.str, .slc]) (.s 21)⟩, ⟨(some 23), (some (18, false)), .call false 16 .bool [(.s 20), (.s 22)]⟩, ⟨(some 24), (some (18, false)), .un .not (.s 23)⟩, ⟨(some 25), none, .pick (.s 18) (.c (.t (.bool true))) (.s 24)⟩, ⟨(some 26), none, .mov (.s 25)⟩, ⟨(some 27), (some (26, false)), .fa 4 (.s 2)⟩, ⟨(some 28), (some (26, false)), .ld .slc (.s 27)⟩, ⟨(some 29), (some (26, false)), .len (.s 28)⟩, ⟨(some 30), (some (26, false)), .fa 4 (.s 3)⟩, ⟨(some 31), (some (26, false)), .ld .slc (.s 30)⟩, ⟨(some 32), (some (26, false)), .len (.s 31)⟩, ⟨(some 33), (some (26, false)), .bin .neq (.s 29) (.s 32)⟩, ⟨(some 34), none, .pick (.s 26) (.c (.t (.bool true))) (.s 33)⟩])
 (.cond (.s 34)
 (.seq (.reg [⟨(some 4), none, .mov (.c (.t (.bool false)))⟩])
 .ret)
 .skip))
 (.seq (.seq (.reg [⟨(some 5), none, .mov (.c (.t (.int .i64 0)))⟩])
 (.block 0 (.loop [2, 3, 5] (.seq (.seq (.reg [⟨(some 35), none, .mov (.s 5)⟩, ⟨(some 36), none, .fa 4 (.s 2)⟩, ⟨(some 37), none, .ld .slc (.s 36)⟩, ⟨(some 38), none, .len (.s 37)⟩, ⟨(some 39), none, .bin .lss (.s 35) (.s 38)⟩])
 (.cond (.s 39)
 .skip
 (.exit 0)))
 (.seq (.block 1 (.seq (.dreg [⟨(some 42), none, .fa 4 (.s 2)⟩, ⟨(some 43), none, .ld .slc (.s 42)⟩, ⟨(some 44), none, .mov (.s 5)⟩, ⟨(some 45), none, .ia (.agg [(.int .i64), (.int .i64), .str, .slc, .slc]) (.s 43) (.s 44)⟩, ⟨(some 46), none, .ld (.agg [(.int .i64), (.int .i64), .str, .slc, .slc]) (.s 45)⟩, ⟨(some 47), none, .fa 4 (.s 3)⟩, ⟨(some 48), none, .ld .slc (.s 47)⟩, ⟨(some 49), none, .mov (.s 5)⟩, ⟨(some 50), none, .ia (.agg [(.int .i64), (.int .i64), .str, .slc, .slc]) (.s 48) (.s 49)⟩, ⟨(some 51), none, .ld (.agg [(.int .i64), (.int .i64), .str, .slc, .slc]) (.s 50)⟩, ⟨(some 52), none, .call false 22 .bool [(.s 46), (.s 51)]⟩, ⟨(some 53), none, .un .not (.s 52)⟩] [0, 1, 0, 7, 15, 0, 32, 0, 224, 480, 1023, 2047])
 (.cond (.s 53)
 (.seq (.reg [⟨(some 4), none, .mov (.c (.t (.bool false)))⟩])
 .ret)
 .skip)))
 (.reg [⟨(some 40), none, .mov (.s 5)⟩, ⟨(some 41), none, .bin .add (.s 40) (.c (.t (.int .i64 1)))⟩, ⟨(some 5), none, .mov (.s 41)⟩]))))))
 (.seq (.reg [⟨(some 4), none, .mov (.c (.t (.bool true)))⟩])
 .ret)))),
 [.slot 4]⟩
theorem ok22 : compF Try.prog 22 [[2, 3, 5]] [] = some ir22 := by kernel_rfl

/-- tenet/tenetref00.EqInts -/
def ir23 : FInfo := ⟨26,
 (.seq (.reg [⟨(some 4), none, .mov (.c (.t (.bool false)))⟩])
 (.seq (.seq (.reg [⟨(some 6), none, .mov (.s 0)⟩, ⟨(some 7), none, .len (.s 6)⟩, ⟨(some 8), none, .mov (.s 1)⟩, ⟨(some 9), none, .len (.s 8)⟩, ⟨(some 10), none, .bin .neq (.s 7) (.s 9)⟩])
 (.cond (.s 10)
 (.seq (.reg [⟨(some 4), none, .mov (.c (.t (.bool false)))⟩])
 .ret)
 .skip))
 (.seq (.seq (.reg [⟨(some 5), none, .mov (.c (.t (.int .i64 0)))⟩])
 (.block 0 (.loop [0, 1, 5] (.seq (.seq (.reg [⟨(some 11), none, .mov (.s 5)⟩, ⟨(some 12), none, .mov (.s 0)⟩, ⟨(some 13), none, .len (.s 12)⟩, ⟨(some 14), none, .bin .lss (.s 11) (.s 13)⟩])
 (.cond (.s 14)
 .skip
 (.exit 0)))
 (.seq (.block 1 (.seq (.dreg [⟨(some 17), none, .mov (.s 0)⟩, ⟨(some 18), none, .mov (.s 5)⟩, ⟨(some 19), none, .ia (.int .i64) (.s 17) (.s 18)⟩, ⟨(some 20), none, .ld (.int .i64) (.s 19)⟩, ⟨(some 21), none, .mov (.s 1)⟩, ⟨(some 22), none, .mov (.s 5)⟩, ⟨(some 23), none, .ia (.int .i64) (.s 21) (.s 22)⟩, ⟨(some 24), none, .ld (.int .i64) (.s 23)⟩, ⟨(some 25), none, .bin .neq (.s 20) (.s 24)⟩] [0, 0, 3, 7, 0, 0, 48, 112, 255])
 (.cond (.s 25)
 (.seq (.reg [⟨(some 4), none, .mov (.c (.t (.bool false)))⟩])
 .ret)
 .skip)))
 (.reg [⟨(some 15), none, .mov (.s 5)⟩, ⟨(some 16), none, .bin .add (.s 15) (.c (.t (.int .i64 1)))⟩, ⟨(some 5), none, .mov (.s 16)⟩]))))))
 (.seq (.reg [⟨(some 4), none, .mov (.c (.t (.bool true)))⟩])
 .ret)))),
 [.slot 4]⟩
theorem ok23 : compF Try.prog 23 [[0, 1, 5]] [] = some ir23 := by kernel_rfl

/-- tenet/simple.Normal -/
def ir24 : FInfo := ⟨43,
 (.seq (.reg [⟨(some 2), none, .box (.agg [(.int .i64), (.int .i64), .str, .slc, .slc]) (.s 0)⟩, ⟨(some 4), none, .new (.agg [(.int .i64), (.int .i64), .str, .slc, .slc]) (.agg [(.t (.int .i64 0)), (.t (.int .i64 0)), (.t (.str [])), .nilS, .nilS])⟩, ⟨(some 5), none, .mov (.c (.t (.int .i64 0)))⟩, ⟨(some 6), none, .mov (.c (.t (.int .i64 0)))⟩])
 (.seq (.reg [⟨(some 13), none, .mov (.s 1)⟩, ⟨(some 14), none, .mx (.s 13) (.c (.t (.int .i64 0)))⟩, ⟨(some 15), none, .mn (.s 14) (.c (.t (.int .i64 20000)))⟩, ⟨(some 1), none, .mov (.s 15)⟩])
 (.seq (.reg [⟨(some 7), none, .mov (.c (.t (.int .i64 0)))⟩])
 (.block 0 (.loop [1, 2, 4, 7] (.seq (.block 1 (.seq (.reg [⟨(some 19), none, .ld (.agg [(.int .i64), (.int .i64), .str, .slc, .slc]) (.s 2)⟩, ⟨(some 20), none, .call false 46 (.tup [(.agg [(.int .i64), (.int .i64), .str, .slc, .slc]), .slc, .bool]) [(.s 19)]⟩, ⟨(some 18), none, .mov (.s 20)⟩, ⟨(some 21), none, .ext 0 (.s 18)⟩, ⟨(some 22), none, .ext 1 (.s 18)⟩, ⟨(some 23), none, .ext 2 (.s 18)⟩, ⟨(some 8), none, .new (.agg [(.int .i64), (.int .i64), .str, .slc, .slc]) (.agg [(.t (.int .i64 0)), (.t (.int .i64 0)), (.t (.str [])), .nilS, .nilS])⟩, ⟨none, none, .st (.agg [(.int .i64), (.int .i64), .str, .slc, .slc]) (.s 8) (.s 21)⟩, ⟨(some 9), none, .mov (.s 22)⟩, ⟨(some 10), none, .mov (.s 23)⟩])
 (.seq (.seq (.reg [⟨(some 24), none, .mov (.s 10)⟩, ⟨(some 25), none, .un .not (.s 24)⟩])
 (.cond (.s 25)
 (.seq (.reg [⟨(some 26), none, .ld (.agg [(.int .i64), (.int .i64), .str, .slc, .slc]) (.s 2)⟩, ⟨(some 27), none, .call false 42 (.agg [(.int .i64), (.int .i64), .str, .slc, .slc]) [(.s 26)]⟩, ⟨(some 28), none, .mov (.s 7)⟩, ⟨none, none, .st (.agg [(.int .i64), (.int .i64), .str, .slc, .slc]) (.s 4) (.s 27)⟩, ⟨(some 5), none, .mov (.s 28)⟩, ⟨(some 6), none, .mov (.c (.t (.int .i64 0)))⟩])
 .ret)
 .skip))
 (.seq (.seq (.reg [⟨(some 30), none, .ld (.agg [(.int .i64), (.int .i64), .str, .slc, .slc]) (.s 8)⟩, ⟨(some 31), none, .call false 48 (.tup [(.int .i64), (.int .i64)]) [(.s 30)]⟩, ⟨(some 29), none, .mov (.s 31)⟩, ⟨(some 32), none, .ext 0 (.s 29)⟩, ⟨(some 33), none, .ext 1 (.s 29)⟩, ⟨(some 11), none, .mov (.s 32)⟩, ⟨(some 12), none, .mov (.s 33)⟩])
 (.seq (.reg [⟨(some 34), none, .mov (.s 7)⟩, ⟨(some 35), none, .mov (.s 1)⟩, ⟨(some 36), none, .bin .eql (.s 34) (.s 35)⟩, ⟨(some 37), none, .mov (.s 36)⟩, ⟨(some 38), (some (37, false)), .mov (.s 11)⟩, ⟨(some 39), (some (37, false)), .bin .gtr (.s 38) (.c (.t (.int .i64 20000)))⟩, ⟨(some 40), none, .pick (.s 37) (.c (.t (.bool true))) (.s 39)⟩])
 (.cond (.s 40)
 (.seq (.reg [⟨(some 41), none, .build [(.t (.int .i64 0)), (.t (.int .i64 0)), (.t (.str [])), .nilS, .nilS] []⟩, ⟨none, none, .st (.agg [(.int .i64), (.int .i64), .str, .slc, .slc]) (.s 4) (.s 41)⟩, ⟨(some 5), none, .mov (.c (.t (.int .i64 0)))⟩, ⟨(some 6), none, .mov (.c (.t (.int .i64 5)))⟩])
 .ret)
 .skip)))
 (.reg [⟨(some 42), none, .ld (.agg [(.int .i64), (.int .i64), .str, .slc, .slc]) (.s 8)⟩, ⟨none, none, .st (.agg [(.int .i64), (.int .i64), .str, .slc, .slc]) (.s 2) (.s 42)⟩])))))
 (.reg [⟨(some 16), none, .mov (.s 7)⟩, ⟨(some 17), none, .bin .add (.s 16) (.c (.t (.int .i64 1)))⟩, ⟨(some 7), none, .mov (.s 17)⟩]))))))),
 [.cell 4 (.agg [(.int .i64), (.int .i64), .str, .slc, .slc]), .slot 5, .slot 6]⟩
theorem ok24 : compF Try.prog 24 [[1, 2, 4, 7]] [] = some ir24 := by kernel_rfl

/-- tenet/tenetref25.Normal -/
def ir25 : FInfo := ⟨44,
 (.seq (.reg [⟨(some 2), none, .box (.agg [(.int .i64), (.int .i64), .str, .slc, .slc]) (.s 0)⟩, ⟨(some 4), none, .new (.agg [(.int .i64), (.int .i64), .str, .slc, .slc]) (.agg [(.t (.int .i64 0)), (.t (.int .i64 0)), (.t (.str [])), .nilS, .nilS])⟩, ⟨(some 5), none, .mov (.c (.t (.int .i64 0)))⟩, ⟨(some 6), none, .mov (.c (.t (.int .i64 0)))⟩])
 (.seq (.reg [⟨(some 13), none, .mov (.s 1)⟩, ⟨(some 14), none, .mx (.s 13) (.c (.t (.int .i64 0)))⟩, ⟨(some 15), none, .mn (.s 14) (.c (.t (.int .i64 20000)))⟩, ⟨(some 1), none, .mov (.s 15)⟩])
 (.seq (.reg [⟨(some 16), none, .ld (.agg [(.int .i64), (.int .i64), .str, .slc, .slc]) (.s 2)⟩, ⟨(some 17), none, .call false 32 (.agg [(.int .i64), (.int .i64), .str, .slc, .slc]) [(.s 16), (.c (.t (.int .i64 0))), (.c (.t (.int .i64 0)))]⟩, ⟨none, none, .st (.agg [(.int .i64), (.int .i64), .str, .slc, .slc]) (.s 2) (.s 17)⟩])
 (.seq (.reg [⟨(some 7), none, .mov (.c (.t (.int .i64 0)))⟩])
 (.block 0 (.loop [1, 2, 4, 7] (.seq (.block 1 (.seq (.reg [⟨(some 21), none, .ld (.agg [(.int .i64), (.int .i64), .str, .slc, .slc]) (.s 2)⟩, ⟨(some 22), none, .call false 21 (.tup [(.agg [(.int .i64), (.int .i64), .str, .slc, .slc]), .slc, .bool]) [(.s 21)]⟩, ⟨(some 20), none, .mov (.s 22)⟩, ⟨(some 23), none, .ext 0 (.s 20)⟩, ⟨(some 24), none, .ext 1 (.s 20)⟩, ⟨(some 25), none, .ext 2 (.s 20)⟩, ⟨(some 8), none, .new (.agg [(.int .i64), (.int .i64), .str, .slc, .slc]) (.agg [(.t (.int .i64 0)), (.t (.int .i64 0)), (.t (.str [])), .nilS, .nilS])⟩, ⟨none, none, .st (.agg [(.int .i64), (.int .i64), .str, .slc, .slc]) (.s 8) (.s 23)⟩, ⟨(some 9), none, .mov (.s 24)⟩, ⟨(some 10), none, .mov (.s 25)⟩])
 (.seq (.seq (.reg [⟨(some 26), none, .mov (.s 10)⟩, ⟨(some 27), none, .un .not (.s 26)⟩])
 (.cond (.s 27)
 (.seq (.reg [⟨(some 28), none, .ld (.agg [(.int .i64), (.int .i64), .str, .slc, .slc]) (.s 2)⟩, ⟨(some 29), none, .mov (.s 7)⟩, ⟨none, none, .st (.agg [(.int .i64), (.int .i64), .str, .slc, .slc]) (.s 4) (.s 28)⟩, ⟨(some 5), none, .mov (.s 29)⟩, ⟨(some 6), none, .mov (.c (.t (.int .i64 0)))⟩])
 .ret)
 .skip))
 (.seq (.seq (.reg [⟨(some 31), none, .ld (.agg [(.int .i64), (.int .i64), .str, .slc, .slc]) (.s 8)⟩, ⟨(some 32), none, .call false 38 (.tup [(.int .i64), (.int .i64)]) [(.s 31)]⟩, ⟨(some 30), none, .mov (.s 32)⟩, ⟨(some 33), none, .ext 0 (.s 30)⟩, ⟨(some 34), none, .ext 1 (.s 30)⟩, ⟨(some 11), none, .mov (.s 33)⟩, ⟨(some 12), none, .mov (.s 34)⟩])
 (.seq (.reg [⟨(some 35), none, .mov (.s 7)⟩, ⟨(some 36), none, .mov (.s 1)⟩, ⟨(some 37), none, .bin .geq (.s 35) (.s 36)⟩, ⟨(some 38), none, .mov (.s 37)⟩, ⟨(some 39), (some (38, false)), .mov (.s 11)⟩, ⟨(some 40), (some (38, false)), .bin .gtr (.s 39) (.c (.t (.int .i64 20000)))⟩, ⟨(some 41), none, .pick (.s 38) (.c (.t (.bool true))) (.s 40)⟩])
 (.cond (.s 41)
 (.seq (.reg [⟨(some 42), none, .build [(.t (.int .i64 0)), (.t (.int .i64 0)), (.t (.str [])), .nilS, .nilS] []⟩, ⟨none, none, .st (.agg [(.int .i64), (.int .i64), .str, .slc, .slc]) (.s 4) (.s 42)⟩, ⟨(some 5), none, .mov (.c (.t (.int .i64 0)))⟩, ⟨(some 6), none, .mov (.c (.t (.int .i64 5)))⟩])
 .ret)
 .skip)))
 (.reg [⟨(some 43), none, .ld (.agg [(.int .i64), (.int .i64), .str, .slc, .slc]) (.s 8)⟩, ⟨none, none, .st (.agg [(.int .i64), (.int .i64), .str, .slc, .slc]) (.s 2) (.s 43)⟩])))))
 (.reg [⟨(some 18), none, .mov (.s 7)⟩, ⟨(some 19), none, .bin .add (.s 18) (.c (.t (.int .i64 1)))⟩, ⟨(some 7), none, .mov (.s 19)⟩])))))))),
 [.cell 4 (.agg [(.int .i64), (.int .i64), .str, .slc, .slc]), .slot 5, .slot 6]⟩
theorem ok25 : compF Try.prog 25 [[1, 2, 4, 7]] [] = some ir25 := by kernel_rfl

/-- tenet/tenetlaw25.shown -/
def ir26 : FInfo := ⟨8,
 (.seq (.reg [⟨(some 2), none, .mov (.c (.t (.int .i64 0)))⟩])
 (.seq (.seq (.reg [⟨(some 3), none, .mov (.s 0)⟩])
 (.block 0 (.seq (.reg [⟨(some 5), none, .bin .eql (.s 3) (.c (.t (.str [84, 111])))⟩, ⟨(some 4), none, .mov (.s 5)⟩])
 (.cond (.s 4)
 (.seq (.reg [⟨(some 2), none, .mov (.c (.t (.int .i64 2)))⟩])
 .ret)
 (.seq (.reg [⟨(some 7), none, .bin .eql (.s 3) (.c (.t (.str [80, 97, 105, 114])))⟩, ⟨(some 6), none, .mov (.s 7)⟩])
 (.cond (.s 6)
 (.seq (.reg [⟨(some 2), none, .mov (.c (.t (.int .i64 7)))⟩])
 .ret)
 .skip))))))
 (.seq (.reg [⟨(some 2), none, .mov (.c (.t (.int .i64 4)))⟩])
 .ret))),
 [.slot 2]⟩
theorem ok26 : compF Try.prog 26 [] [] = some ir26 := by kernel_rfl

/-- tenet/tenetref25.Type -/
def ir27 : FInfo := ⟨25,
 (.seq (.reg [⟨(some 3), none, .box (.agg [(.int .i64), (.int .i64), .str, .slc, .slc]) (.s 1)⟩, ⟨(some 4), none, .new (.agg [.str, .slc]) (.agg [(.t (.str [])), .nilS])⟩, ⟨(some 5), none, .mov (.c (.t (.int .i64 0)))⟩])
 (.seq (.seq (.reg [⟨(some 9), none, .mov (.s 0)⟩, ⟨(some 10), none, .ld (.agg [(.int .i64), (.int .i64), .str, .slc, .slc]) (.s 3)⟩, ⟨(some 11), none, .call false 49 .bool [(.s 9), (.s 10)]⟩, ⟨(some 12), none, .un .not (.s 11)⟩])
 (.cond (.s 12)
 (.seq (.reg [⟨(some 13), none, .build [(.t (.str [])), .nilS] []⟩, ⟨none, none, .st (.agg [.str, .slc]) (.s 4) (.s 13)⟩, ⟨(some 5), none, .mov (.c (.t (.int .i64 4)))⟩])
 .ret)
 .skip))
 (.seq (.reg [⟨(some 15), none, .mov (.s 0)⟩, ⟨(some 16), none, .ld (.agg [(.int .i64), (.int .i64), .str, .slc, .slc]) (.s 3)⟩, ⟨(some 17), none, .call false 50 (.tup [(.agg [.str, .slc]), .slc, .bool]) [(.s 15), (.s 16), (.c .nilS)]⟩, ⟨(some 14), none, .mov (.s 17)⟩, ⟨(some 18), none, .ext 0 (.s 14)⟩, ⟨(some 19), none, .ext 1 (.s 14)⟩, ⟨(some 20), none, .ext 2 (.s 14)⟩, ⟨(some 6), none, .new (.agg [.str, .slc]) (.agg [(.t (.str [])), .nilS])⟩, ⟨none, none, .st (.agg [.str, .slc]) (.s 6) (.s 18)⟩, ⟨(some 7), none, .mov (.s 19)⟩, ⟨(some 8), none, .mov (.s 20)⟩])
 (.seq (.seq (.reg [⟨(some 21), none, .mov (.s 8)⟩, ⟨(some 22), none, .un .not (.s 21)⟩])
 (.cond (.s 22)
 (.seq (.reg [⟨(some 23), none, .build [(.t (.str [])), .nilS] []⟩, ⟨none, none, .st (.agg [.str, .slc]) (.s 4) (.s 23)⟩, ⟨(some 5), none, .mov (.c (.t (.int .i64 250)))⟩])
 .ret)
 .skip))
 (.seq (.reg [⟨(some 24), none, .ld (.agg [.str, .slc]) (.s 6)⟩, ⟨none, none, .st (.agg [.str, .slc]) (.s 4) (.s 24)⟩, ⟨(some 5), none, .mov (.c (.t (.int .i64 0)))⟩])
 .ret))))),
 [.cell 4 (.agg [.str, .slc]), .slot 5]⟩
theorem ok27 : compF Try.prog 27 [] [] = some ir27 := by kernel_rfl

/-- tenet/simple.Where -/
def ir28 : FInfo := ⟨23,
 (.seq (.reg [⟨(some 3), none, .box (.agg [(.int .i64), (.int .i64), .str, .slc, .slc]) (.s 1)⟩, ⟨(some 4), none, .mov (.c .nilS)⟩, ⟨(some 5), none, .mov (.c (.t (.int .i64 0)))⟩])
 (.seq (.seq (.reg [⟨(some 9), none, .mov (.s 0)⟩, ⟨(some 10), none, .ld (.agg [(.int .i64), (.int .i64), .str, .slc, .slc]) (.s 3)⟩, ⟨(some 11), none, .call false 39 .bool [(.s 9), (.s 10)]⟩, ⟨(some 12), none, .un .not (.s 11)⟩])
 (.cond (.s 12)
 (.seq (.reg [⟨(some 4), none, .mov (.c .nilS)⟩, ⟨(some 5), none, .mov (.c (.t (.int .i64 4)))⟩])
 .ret)
 .skip))
 (.seq (.reg [⟨(some 14), none, .mov (.s 0)⟩, ⟨(some 15), none, .ld (.agg [(.int .i64), (.int .i64), .str, .slc, .slc]) (.s 3)⟩, ⟨(some 16), none, .call false 40 (.tup [(.agg [.str, .slc]), .slc, .bool]) [(.s 14), (.s 15)]⟩, ⟨(some 13), none, .mov (.s 16)⟩, ⟨(some 17), none, .ext 0 (.s 13)⟩, ⟨(some 18), none, .ext 1 (.s 13)⟩, ⟨(some 19), none, .ext 2 (.s 13)⟩, ⟨(some 6), none, .new (.agg [.str, .slc]) (.agg [(.t (.str [])), .nilS])⟩, ⟨none, none, .st (.agg [.str, .slc]) (.s 6) (.s 17)⟩, ⟨(some 7), none, .mov (.s 18)⟩, ⟨(some 8), none, .mov (.s 19)⟩])
 (.seq (.seq (.reg [⟨(some 20), none, .mov (.s 8)⟩, ⟨(some 21), none, .un .not (.s 20)⟩])
 (.cond (.s 21)
 (.seq (.reg [⟨(some 22), none, .mov (.s 7)⟩, ⟨(some 4), none, .mov (.s 22)⟩, ⟨(some 5), none, .mov (.c (.t (.int .i64 250)))⟩])
 .ret)
 .skip))
 (.seq (.reg [⟨(some 4), none, .mov (.c .nilS)⟩, ⟨(some 5), none, .mov (.c (.t (.int .i64 0)))⟩])
 .ret))))),
 [.slot 4, .slot 5]⟩
theorem ok28 : compF Try.prog 28 [] [] = some ir28 := by kernel_rfl

/-- tenet/tenetref25.Where -/
def ir29 : FInfo := ⟨23,
 (.seq (.reg [⟨(some 3), none, .box (.agg [(.int .i64), (.int .i64), .str, .slc, .slc]) (.s 1)⟩, ⟨(some 4), none, .mov (.c .nilS)⟩, ⟨(some 5), none, .mov (.c (.t (.int .i64 0)))⟩])
 (.seq (.seq (.reg [⟨(some 9), none, .mov (.s 0)⟩, ⟨(some 10), none, .ld (.agg [(.int .i64), (.int .i64), .str, .slc, .slc]) (.s 3)⟩, ⟨(some 11), none, .call false 49 .bool [(.s 9), (.s 10)]⟩, ⟨(some 12), none, .un .not (.s 11)⟩])
 (.cond (.s 12)
 (.seq (.reg [⟨(some 4), none, .mov (.c .nilS)⟩, ⟨(some 5), none, .mov (.c (.t (.int .i64 4)))⟩])
 .ret)
 .skip))
 (.seq (.reg [⟨(some 14), none, .mov (.s 0)⟩, ⟨(some 15), none, .ld (.agg [(.int .i64), (.int .i64), .str, .slc, .slc]) (.s 3)⟩, ⟨(some 16), none, .call false 50 (.tup [(.agg [.str, .slc]), .slc, .bool]) [(.s 14), (.s 15), (.c .nilS)]⟩, ⟨(some 13), none, .mov (.s 16)⟩, ⟨(some 17), none, .ext 0 (.s 13)⟩, ⟨(some 18), none, .ext 1 (.s 13)⟩, ⟨(some 19), none, .ext 2 (.s 13)⟩, ⟨(some 6), none, .new (.agg [.str, .slc]) (.agg [(.t (.str [])), .nilS])⟩, ⟨none, none, .st (.agg [.str, .slc]) (.s 6) (.s 17)⟩, ⟨(some 7), none, .mov (.s 18)⟩, ⟨(some 8), none, .mov (.s 19)⟩])
 (.seq (.seq (.reg [⟨(some 20), none, .mov (.s 8)⟩, ⟨(some 21), none, .un .not (.s 20)⟩])
 (.cond (.s 21)
 (.seq (.reg [⟨(some 22), none, .mov (.s 7)⟩, ⟨(some 4), none, .mov (.s 22)⟩, ⟨(some 5), none, .mov (.c (.t (.int .i64 250)))⟩])
 .ret)
 .skip))
 (.seq (.reg [⟨(some 4), none, .mov (.c .nilS)⟩, ⟨(some 5), none, .mov (.c (.t (.int .i64 0)))⟩])
 .ret))))),
 [.slot 4, .slot 5]⟩
theorem ok29 : compF Try.prog 29 [] [] = some ir29 := by kernel_rfl

/-- tenet/simple.Valid -/
def ir30 : FInfo := ⟨20,
 (.seq (.reg [⟨(some 1), none, .box (.agg [(.int .i64), (.int .i64), .str, .slc, .slc]) (.s 0)⟩, ⟨(some 2), none, .mov (.c (.t (.bool false)))⟩])
 (.seq (.reg [⟨(some 6), none, .ld (.agg [(.int .i64), (.int .i64), .str, .slc, .slc]) (.s 1)⟩, ⟨(some 7), none, .call false 48 (.tup [(.int .i64), (.int .i64)]) [(.s 6)]⟩, ⟨(some 5), none, .mov (.s 7)⟩, ⟨(some 8), none, .ext 0 (.s 5)⟩, ⟨(some 9), none, .ext 1 (.s 5)⟩, ⟨(some 3), none, .mov (.s 8)⟩, ⟨(some 4), none, .mov (.s 9)⟩])
 (.seq (.reg [⟨(some 10), none, .mov (.s 3)⟩, ⟨(some 11), none, .bin .leq (.s 10) (.c (.t (.int .i64 300)))⟩, ⟨(some 12), none, .mov (.s 11)⟩, ⟨(some 13), (some (12, true)), .mov (.s 4)⟩, ⟨(some 14), (some (12, true)), .bin .leq (.s 13) (.c (.t (.int .i64 60)))⟩, ⟨(some 15), none, .pick (.s 12) (.s 14) (.c (.t (.bool false)))⟩, ⟨(some 16), none, .mov (.s 15)⟩, ⟨(some 17), (some (16, true)), .ld (.agg [(.int .i64), (.int .i64), .str, .slc, .slc]) (.s 1)⟩, ⟨(some 18), (some (16, true)), .call false 51 .bool [(.s 17)]⟩, ⟨(some 19), none, .pick (.s 16) (.s 18) (.c (.t (.bool false)))⟩, ⟨(some 2), none, .mov (.s 19)⟩])
 .ret))),
 [.slot 2]⟩
theorem ok30 : compF Try.prog 30 [] [] = some ir30 := by kernel_rfl

/-- tenet/simple.Shift -/
def ir31 : FInfo := ⟨24,
 (.seq (.reg [⟨(some 3), none, .box (.agg [(.int .i64), (.int .i64), .str, .slc, .slc]) (.s 0)⟩, ⟨(some 4), none, .box (.int .i64) (.s 1)⟩, ⟨(some 5), none, .box (.int .i64) (.s 2)⟩, ⟨(some 6), none, .new (.agg [(.int .i64), (.int .i64), .str, .slc, .slc]) (.agg [(.t (.int .i64 0)), (.t (.int .i64 0)), (.t (.str [])), .nilS, .nilS])⟩])
 (.seq (.seq (.reg [⟨(some 7), none, .ld (.int .i64) (.s 5)⟩, ⟨(some 8), none, .bin .gtr (.s 7) (.c (.t (.int .i64 2147483648)))⟩, ⟨(some 9), none, .mov (.s 8)⟩, ⟨(some 10), (some (9, false)), .ld (.int .i64) (.s 4)⟩, ⟨(some 11), (some (9, false)), .bin .lss (.s 10) (.c (.t (.int .i64 (-2147483648))))⟩, ⟨(some 12), none, .pick (.s 9) (.c (.t (.bool true))) (.s 11)⟩, ⟨(some 13), none, .mov (.s 12)⟩, ⟨(some 14), (some (13, false)), .ld (.int .i64) (.s 4)⟩, ⟨(some 15), (some (13, false)), .bin .gtr (.s 14) (.c (.t (.int .i64 2147483648)))⟩, ⟨(some 16), none, .pick (.s 13) (.c (.t (.bool true))) (.s 15)⟩])
 (.cond (.s 16)
 (.seq (.reg [⟨(some 17), none, .ld (.agg [(.int .i64), (.int .i64), .str, .slc, .slc]) (.s 3)⟩, ⟨(some 18), none, .call false 42 (.agg [(.int .i64), (.int .i64), .str, .slc, .slc]) [(.s 17)]⟩, ⟨none, none, .st (.agg [(.int .i64), (.int .i64), .str, .slc, .slc]) (.s 6) (.s 18)⟩])
 .ret)
 .skip))
 (.seq (.reg [⟨(some 19), none, .ld (.int .i64) (.s 5)⟩, ⟨(some 20), none, .mx (.s 19) (.c (.t (.int .i64 0)))⟩, ⟨none, none, .st (.int .i64) (.s 5) (.s 20)⟩])
 (.seq (.reg [⟨(some 21), none, .ld (.agg [(.int .i64), (.int .i64), .str, .slc, .slc]) (.s 3)⟩, ⟨(some 22), none, .mkf 52 [] [(.s 5), (.s 4)]⟩, ⟨(some 23), none, .call false 43 (.agg [(.int .i64), (.int .i64), .str, .slc, .slc]) [(.s 21), (.c (.t (.int .i64 0))), (.s 22)]⟩, ⟨none, none, .st (.agg [(.int .i64), (.int .i64), .str, .slc, .slc]) (.s 6) (.s 23)⟩])
 .ret)))),
 [.cell 6 (.agg [(.int .i64), (.int .i64), .str, .slc, .slc])]⟩
theorem ok31 : compF Try.prog 31 [] [] = some ir31 := by kernel_rfl

/-- tenet/tenetref25.Shift -/
def ir32 : FInfo := ⟨12,
 (.seq (.reg [⟨(some 3), none, .box (.agg [(.int .i64), (.int .i64), .str, .slc, .slc]) (.s 0)⟩, ⟨(some 6), none, .new (.agg [(.int .i64), (.int .i64), .str, .slc, .slc]) (.agg [(.t (.int .i64 0)), (.t (.int .i64 0)), (.t (.str [])), .nilS, .nilS])⟩])
 (.seq (.reg [⟨(some 7), none, .ld (.agg [(.int .i64), (.int .i64), .str, .slc, .slc]) (.s 3)⟩, ⟨(some 8), none, .mov (.s 1)⟩, ⟨(some 9), none, .mov (.s 2)⟩, ⟨(some 10), none, .mx (.s 9) (.c (.t (.int .i64 0)))⟩, ⟨(some 11), none, .call true 53 (.agg [(.int .i64), (.int .i64), .str, .slc, .slc]) [(.s 7), (.s 8), (.s 10)]⟩, ⟨none, none, .st (.agg [(.int .i64), (.int .i64), .str, .slc, .slc]) (.s 6) (.s 11)⟩])
 .ret)),
 [.cell 6 (.agg [(.int .i64), (.int .i64), .str, .slc, .slc])]⟩
theorem ok32 : compF Try.prog 32 [] [11] = some ir32 := by kernel_rfl

/-- tenet/tenetref25.Subst -/
def ir33 : FInfo := ⟨15,
 (.seq (.reg [⟨(some 3), none, .box (.agg [(.int .i64), (.int .i64), .str, .slc, .slc]) (.s 0)⟩, ⟨(some 5), none, .box (.agg [(.int .i64), (.int .i64), .str, .slc, .slc]) (.s 2)⟩, ⟨(some 6), none, .new (.agg [(.int .i64), (.int .i64), .str, .slc, .slc]) (.agg [(.t (.int .i64 0)), (.t (.int .i64 0)), (.t (.str [])), .nilS, .nilS])⟩])
 (.seq (.seq (.reg [⟨(some 7), none, .mov (.s 1)⟩, ⟨(some 8), none, .bin .lss (.s 7) (.c (.t (.int .i64 0)))⟩])
 (.cond (.s 8)
 (.seq (.reg [⟨(some 9), none, .ld (.agg [(.int .i64), (.int .i64), .str, .slc, .slc]) (.s 3)⟩, ⟨(some 10), none, .call false 32 (.agg [(.int .i64), (.int .i64), .str, .slc, .slc]) [(.s 9), (.c (.t (.int .i64 0))), (.c (.t (.int .i64 0)))]⟩, ⟨none, none, .st (.agg [(.int .i64), (.int .i64), .str, .slc, .slc]) (.s 6) (.s 10)⟩])
 .ret)
 .skip))
 (.seq (.reg [⟨(some 11), none, .ld (.agg [(.int .i64), (.int .i64), .str, .slc, .slc]) (.s 3)⟩, ⟨(some 12), none, .mov (.s 1)⟩, ⟨(some 13), none, .ld (.agg [(.int .i64), (.int .i64), .str, .slc, .slc]) (.s 5)⟩, ⟨(some 14), none, .call false 54 (.agg [(.int .i64), (.int .i64), .str, .slc, .slc]) [(.s 11), (.s 12), (.s 13), (.c (.t (.int .i64 0)))]⟩, ⟨none, none, .st (.agg [(.int .i64), (.int .i64), .str, .slc, .slc]) (.s 6) (.s 14)⟩])
 .ret))),
 [.cell 6 (.agg [(.int .i64), (.int .i64), .str, .slc, .slc])]⟩
theorem ok33 : compF Try.prog 33 [] [] = some ir33 := by kernel_rfl

/-- tenet/simple.Erase -/
def ir34 : FInfo := ⟨28,
 (.seq (.reg [⟨(some 1), none, .box (.agg [(.int .i64), (.int .i64), .str, .slc, .slc]) (.s 0)⟩, ⟨(some 2), none, .new (.agg [(.int .i64), (.int .i64), .str, .slc, .slc]) (.agg [(.t (.int .i64 0)), (.t (.int .i64 0)), (.t (.str [])), .nilS, .nilS])⟩])
 (.seq (.reg [⟨(some 4), none, .build [(.t (.str [])), .nilS] []⟩, ⟨(some 5), none, .fa 2 (.s 1)⟩, ⟨none, none, .st (.agg [.str, .slc]) (.s 5) (.s 4)⟩])
 (.seq (.reg [⟨(some 6), none, .fa 4 (.s 1)⟩, ⟨(some 7), none, .ld .slc (.s 6)⟩, ⟨(some 8), none, .clone (.agg [(.int .i64), (.int .i64), .str, .slc, .slc]) 80 (.s 7)⟩, ⟨(some 9), none, .fa 4 (.s 1)⟩, ⟨none, none, .st .slc (.s 9) (.s 8)⟩])
 (.seq (.seq (.reg [⟨(some 10), none, .fa 4 (.s 1)⟩, ⟨(some 11), none, .ld .slc (.s 10)⟩, ⟨(some 12), none, .len (.s 11)⟩, ⟨(some 13), none, .mov (.c (.t (.int .i64 0)))⟩])
 (.block 0 (.loop [1, 2, 12, 13] (.seq (.reg [⟨(some 14), none, .bin .lss (.s 13) (.s 12)⟩])
 (.seq (.cond (.s 14)
 .skip
 (.exit 0))
 (.seq (.block 1 (.seq (.reg [⟨(some 15), none, .mov (.s 13)⟩, ⟨(some 3), none, .mov (.s 15)⟩])
 (.dreg [⟨(some 16), none, .fa 4 (.s 1)⟩, ⟨(some 17), none, .ld .slc (.s 16)⟩, ⟨(some 18), none, .mov (.s 3)⟩, ⟨(some 19), none, .fa 4 (.s 1)⟩, ⟨(some 20), none, .ld .slc (.s 19)⟩, ⟨(some 21), none, .mov (.s 3)⟩, ⟨(some 22), none, .ia (.agg [(.int .i64), (.int .i64), .str, .slc, .slc]) (.s 20) (.s 21)⟩, ⟨(some 23), none, .ld (.agg [(.int .i64), (.int .i64), .str, .slc, .slc]) (.s 22)⟩, ⟨(some 24), none, .call false 34 (.agg [(.int .i64), (.int .i64), .str, .slc, .slc]) [(.s 23)]⟩, ⟨(some 25), none, .ia (.agg [(.int .i64), (.int .i64), .str, .slc, .slc]) (.s 17) (.s 18)⟩, ⟨none, none, .st (.agg [(.int .i64), (.int .i64), .str, .slc, .slc]) (.s 25) (.s 24)⟩] [0, 1, 0, 0, 8, 0, 56, 120, 248, 511, 1023])))
 (.reg [⟨(some 26), none, .bin .add (.s 13) (.c (.t (.int .i64 1)))⟩, ⟨(some 13), none, .mov (.s 26)⟩])))))))
 (.seq (.reg [⟨(some 27), none, .ld (.agg [(.int .i64), (.int .i64), .str, .slc, .slc]) (.s 1)⟩, ⟨none, none, .st (.agg [(.int .i64), (.int .i64), .str, .slc, .slc]) (.s 2) (.s 27)⟩])
 .ret))))),
 [.cell 2 (.agg [(.int .i64), (.int .i64), .str, .slc, .slc])]⟩
theorem ok34 : compF Try.prog 34 [[1, 2, 12, 13]] [] = some ir34 := by kernel_rfl

/-- tenet/tenetref25.Erase -/
def ir35 : FInfo := ⟨29,
 (.seq (.reg [⟨(some 1), none, .box (.agg [(.int .i64), (.int .i64), .str, .slc, .slc]) (.s 0)⟩, ⟨(some 2), none, .new (.agg [(.int .i64), (.int .i64), .str, .slc, .slc]) (.agg [(.t (.int .i64 0)), (.t (.int .i64 0)), (.t (.str [])), .nilS, .nilS])⟩])
 (.seq (.reg [⟨(some 5), none, .fa 0 (.s 1)⟩, ⟨(some 6), none, .ld (.int .i64) (.s 5)⟩, ⟨(some 7), none, .fa 1 (.s 1)⟩, ⟨(some 8), none, .ld (.int .i64) (.s 7)⟩, ⟨(some 9), none, .build [(.t (.int .i64 0)), (.t (.int .i64 0)), (.t (.str [])), .nilS, .nilS] [(0, (.int .i64), (.s 6)), (1, (.int .i64), (.s 8))]⟩, ⟨(some 3), none, .new (.agg [(.int .i64), (.int .i64), .str, .slc, .slc]) (.agg [(.t (.int .i64 0)), (.t (.int .i64 0)), (.t (.str [])), .nilS, .nilS])⟩, ⟨none, none, .st (.agg [(.int .i64), (.int .i64), .str, .slc, .slc]) (.s 3) (.s 9)⟩])
 (.seq (.seq (.reg [⟨(some 4), none, .mov (.c (.t (.int .i64 0)))⟩])
 (.block 0 (.loop [1, 2, 3, 4] (.seq (.seq (.reg [⟨(some 10), none, .mov (.s 4)⟩, ⟨(some 11), none, .fa 4 (.s 1)⟩, ⟨(some 12), none, .ld .slc (.s 11)⟩, ⟨(some 13), none, .len (.s 12)⟩, ⟨(some 14), none, .bin .lss (.s 10) (.s 13)⟩])
 (.cond (.s 14)
 .skip
 (.exit 0)))
 (.seq (.block 1 (.dreg [⟨(some 17), none, .fa 4 (.s 3)⟩, ⟨(some 18), none, .ld .slc (.s 17)⟩, ⟨(some 19), none, .fa 4 (.s 1)⟩, ⟨(some 20), none, .ld .slc (.s 19)⟩, ⟨(some 21), none, .mov (.s 4)⟩, ⟨(some 22), none, .ia (.agg [(.int .i64), (.int .i64), .str, .slc, .slc]) (.s 20) (.s 21)⟩, ⟨(some 23), none, .ld (.agg [(.int .i64), (.int .i64), .str, .slc, .slc]) (.s 22)⟩, ⟨(some 24), none, .call false 35 (.agg [(.int .i64), (.int .i64), .str, .slc, .slc]) [(.s 23)]⟩, ⟨(some 25), none, .bsl (.agg [(.int .i64), (.int .i64), .str, .slc, .slc]) (.agg [(.t (.int .i64 0)), (.t (.int .i64 0)), (.t (.str [])), .nilS, .nilS]) 1 [(0, (.s 24))]⟩, ⟨(some 26), none, .app (.agg [(.int .i64), (.int .i64), .str, .slc, .slc]) 80 (.s 18) (.s 25)⟩, ⟨(some 27), none, .fa 4 (.s 3)⟩, ⟨none, none, .st .slc (.s 27) (.s 26)⟩] [0, 1, 0, 4, 0, 28, 60, 124, 252, 511, 1023, 2047]))
 (.reg [⟨(some 15), none, .mov (.s 4)⟩, ⟨(some 16), none, .bin .add (.s 15) (.c (.t (.int .i64 1)))⟩, ⟨(some 4), none, .mov (.s 16)⟩]))))))
 (.seq (.reg [⟨(some 28), none, .ld (.agg [(.int .i64), (.int .i64), .str, .slc, .slc]) (.s 3)⟩, ⟨none, none, .st (.agg [(.int .i64), (.int .i64), .str, .slc, .slc]) (.s 2) (.s 28)⟩])
 .ret)))),
 [.cell 2 (.agg [(.int .i64), (.int .i64), .str, .slc, .slc])]⟩
theorem ok35 : compF Try.prog 35 [[1, 2, 3, 4]] [] = some ir35 := by kernel_rfl

/-- tenet/simple.Same -/
def ir36 : FInfo := ⟨31,
 (.seq (.reg [⟨(some 2), none, .box (.agg [(.int .i64), (.int .i64), .str, .slc, .slc]) (.s 0)⟩, ⟨(some 3), none, .box (.agg [(.int .i64), (.int .i64), .str, .slc, .slc]) (.s 1)⟩, ⟨(some 4), none, .mov (.c (.t (.bool false)))⟩])
 (.seq (.reg [⟨(some 5), none, .fa 0 (.s 2)⟩, ⟨(some 6), none, .ld (.int .i64) (.s 5)⟩, ⟨(some 7), none, .fa 0 (.s 3)⟩, ⟨(some 8), none, .ld (.int .i64) (.s 7)⟩, ⟨(some 9), none, .bin .eql (.s 6) (.s 8)⟩, ⟨(some 10), none, .mov (.s 9)⟩, ⟨(some 11), (some (10, true)), .fa 1 (.s 2)⟩, ⟨(some 12), (some (10, true)), .ld (.int .i64) (.s 11)⟩, ⟨(some 13), (some (10, true)), .fa 1 (.s 3)⟩, ⟨(some 14), (some (10, true)), .ld (.int .i64) (.s 13)⟩, ⟨(some 15), (some (10, true)), .bin .eql (.s 12) (.s 14)⟩, ⟨(some 16), none, .pick (.s 10) (.s 15) (.c (.t (.bool false)))⟩, ⟨(some 17), none, .mov (.s 16)⟩, ⟨(some 18), (some (17, true)), .fa 2 (.s 2)⟩, ⟨(some 19), (some (17, true)), .ld (.agg [.str, .slc]) (.s 18)⟩, ⟨(some 20), (some (17, true)), .fa 2 (.s 3)⟩, ⟨(some 21), (some (17, true)), .ld (.agg [.str, .slc]) (.s 20)⟩, ⟨(some 22), (some (17, true)), .call false 56 .bool [(.s 19), (.s 21)]⟩, ⟨(some 23), none, .pick (.s 17) (.s 22) (.c (.t (.bool false)))⟩, ⟨(some 24), none, .mov (.s 23)⟩, ⟨(some 25), (some (24, true)), .fa 4 (.s 2)⟩, ⟨(some 26), (some (24, true)), .ld .slc (.s 25)⟩, ⟨(some 27), (some (24, true)), .fa 4 (.s 3)⟩, ⟨(some 28), (some (24, true)), .ld .slc (.s 27)⟩, ⟨(some 29), (some (24, true)), .call false 57 .bool [(.s 26), (.s 28), (.f 36)]⟩, ⟨(some 30), none, .pick (.s 24) (.s 29) (.c (.t (.bool false)))⟩, ⟨(some 4), none, .mov (.s 30)⟩])
 .ret)),
 [.slot 4]⟩
theorem ok36 : compF Try.prog 36 [] [] = some ir36 := by kernel_rfl

/-- tenet/tenetlaw25.lams -/
def ir37 : FInfo := ⟨50,
 (.seq (.reg [⟨(some 4), none, .mov (.c (.t (.int .i64 0)))⟩])
 (.seq (.reg [⟨(some 5), none, .mov (.c (.t (.int .i64 0)))⟩])
 (.seq (.seq (.reg [⟨(some 6), none, .mov (.c (.t (.int .i64 0)))⟩])
 (.block 0 (.loop [0, 1, 5, 6] (.seq (.seq (.reg [⟨(some 7), none, .mov (.s 6)⟩, ⟨(some 8), none, .mov (.s 0)⟩, ⟨(some 9), none, .len (.s 8)⟩, ⟨(some 10), none, .bin .lss (.s 7) (.s 9)⟩, ⟨(some 11), none, .mov (.s 10)⟩, ⟨(some 12), (some (11, true)), .mov (.s 5)⟩, ⟨(some 13), (some (11, true)), .mov (.s 1)⟩, ⟨(some 14), (some (11, true)), .bin .leq (.s 12) (.s 13)⟩, ⟨(some 15), none, .pick (.s 11) (.s 14) (.c (.t (.bool false)))⟩])
 (.cond (.s 15)
 .skip
 (.exit 0)))
 (.seq (.block 1 (.seq (.reg [⟨(some 18), none, .mov (.s 5)⟩, ⟨(some 19), none, .bin .add (.s 18) (.c (.t (.int .i64 1)))⟩, ⟨(some 20), none, .mov (.s 0)⟩, ⟨(some 21), none, .mov (.s 6)⟩, ⟨(some 22), none, .ia (.agg [(.int .i64), (.int .i64), .str, .slc, .slc]) (.s 20) (.s 21)⟩, ⟨(some 23), none, .fa 2 (.s 22)⟩, ⟨(some 24), none, .ld (.agg [.str, .slc]) (.s 23)⟩, ⟨(some 25), none, .bsl (.agg [.str, .slc]) (.agg [(.t (.str [])), .nilS]) 1 [(0, (.s 24))]⟩, ⟨(some 26), none, .call false 14 (.int .i64) [(.s 25), (.c (.t (.int .i64 80)))]⟩, ⟨(some 27), none, .bin .add (.s 19) (.s 26)⟩, ⟨(some 5), none, .mov (.s 27)⟩])
 (.seq (.seq (.reg [⟨(some 28), none, .mov (.s 0)⟩, ⟨(some 29), none, .mov (.s 6)⟩, ⟨(some 30), none, .ia (.agg [(.int .i64), (.int .i64), .str, .slc, .slc]) (.s 28) (.s 29)⟩, ⟨(some 31), none, .fa 2 (.s 30)⟩, ⟨(some 32), none, .ld (.agg [.str, .slc]) (.s 31)⟩, ⟨(some 33), none, .bsl (.agg [.str, .slc]) (.agg [(.t (.str [])), .nilS]) 1 [(0, (.s 32))]⟩, ⟨(some 34), none, .call false 14 (.int .i64) [(.s 33), (.c (.t (.int .i64 80)))]⟩, ⟨(some 35), none, .bin .gtr (.s 34) (.c (.t (.int .i64 80)))⟩])
 (.cond (.s 35)
 (.seq (.reg [⟨(some 36), none, .mov (.s 1)⟩, ⟨(some 37), none, .bin .add (.s 36) (.c (.t (.int .i64 1)))⟩, ⟨(some 4), none, .mov (.s 37)⟩])
 .ret)
 .skip))
 (.reg [⟨(some 38), none, .mov (.s 5)⟩, ⟨(some 39), none, .mov (.s 0)⟩, ⟨(some 40), none, .mov (.s 6)⟩, ⟨(some 41), none, .ia (.agg [(.int .i64), (.int .i64), .str, .slc, .slc]) (.s 39) (.s 40)⟩, ⟨(some 42), none, .fa 4 (.s 41)⟩, ⟨(some 43), none, .ld .slc (.s 42)⟩, ⟨(some 44), none, .mov (.s 1)⟩, ⟨(some 45), none, .mov (.s 5)⟩, ⟨(some 46), none, .bin .sub (.s 44) (.s 45)⟩, ⟨(some 47), none, .call false 37 (.int .i64) [(.s 43), (.s 46)]⟩, ⟨(some 48), none, .bin .add (.s 38) (.s 47)⟩, ⟨(some 5), none, .mov (.s 48)⟩]))))
 (.reg [⟨(some 16), none, .mov (.s 6)⟩, ⟨(some 17), none, .bin .add (.s 16) (.c (.t (.int .i64 1)))⟩, ⟨(some 6), none, .mov (.s 17)⟩]))))))
 (.seq (.reg [⟨(some 49), none, .mov (.s 5)⟩, ⟨(some 4), none, .mov (.s 49)⟩])
 .ret)))),
 [.slot 4]⟩
theorem ok37 : compF Try.prog 37 [[0, 1, 5, 6]] [] = some ir37 := by kernel_rfl

/-- tenet/tenetref25.Size -/
def ir38 : FInfo := ⟨34,
 (.seq (.reg [⟨(some 1), none, .box (.agg [(.int .i64), (.int .i64), .str, .slc, .slc]) (.s 0)⟩, ⟨(some 2), none, .mov (.c (.t (.int .i64 0)))⟩, ⟨(some 3), none, .mov (.c (.t (.int .i64 0)))⟩])
 (.seq (.reg [⟨(some 4), none, .mov (.c (.t (.int .i64 1)))⟩, ⟨(some 5), none, .mov (.c (.t (.int .i64 0)))⟩])
 (.seq (.seq (.reg [⟨(some 6), none, .mov (.c (.t (.int .i64 0)))⟩])
 (.block 0 (.loop [1, 4, 5, 6] (.seq (.seq (.reg [⟨(some 9), none, .mov (.s 6)⟩, ⟨(some 10), none, .fa 4 (.s 1)⟩, ⟨(some 11), none, .ld .slc (.s 10)⟩, ⟨(some 12), none, .len (.s 11)⟩, ⟨(some 13), none, .bin .lss (.s 9) (.s 12)⟩])
 (.cond (.s 13)
 .skip
 (.exit 0)))
 (.seq (.block 1 (.seq (.reg [⟨(some 17), none, .fa 4 (.s 1)⟩, ⟨(some 18), none, .ld .slc (.s 17)⟩, ⟨(some 19), none, .mov (.s 6)⟩, ⟨(some 20), none, .ia (.agg [(.int .i64), (.int .i64), .str, .slc, .slc]) (.s 18) (.s 19)⟩, ⟨(some 21), none, .ld (.agg [(.int .i64), (.int .i64), .str, .slc, .slc]) (.s 20)⟩, ⟨(some 22), none, .call false 38 (.tup [(.int .i64), (.int .i64)]) [(.s 21)]⟩, ⟨(some 16), none, .mov (.s 22)⟩, ⟨(some 23), none, .ext 0 (.s 16)⟩, ⟨(some 24), none, .ext 1 (.s 16)⟩, ⟨(some 7), none, .mov (.s 23)⟩, ⟨(some 8), none, .mov (.s 24)⟩])
 (.reg [⟨(some 25), none, .mov (.s 4)⟩, ⟨(some 26), none, .mov (.s 7)⟩, ⟨(some 27), none, .bin .add (.s 25) (.s 26)⟩, ⟨(some 28), none, .mov (.s 5)⟩, ⟨(some 29), none, .mov (.s 8)⟩, ⟨(some 30), none, .mx (.s 28) (.s 29)⟩, ⟨(some 4), none, .mov (.s 27)⟩, ⟨(some 5), none, .mov (.s 30)⟩])))
 (.reg [⟨(some 14), none, .mov (.s 6)⟩, ⟨(some 15), none, .bin .add (.s 14) (.c (.t (.int .i64 1)))⟩, ⟨(some 6), none, .mov (.s 15)⟩]))))))
 (.seq (.reg [⟨(some 31), none, .mov (.s 4)⟩, ⟨(some 32), none, .mov (.s 5)⟩, ⟨(some 33), none, .bin .add (.s 32) (.c (.t (.int .i64 1)))⟩, ⟨(some 2), none, .mov (.s 31)⟩, ⟨(some 3), none, .mov (.s 33)⟩])
 .ret)))),
 [.slot 2, .slot 3]⟩
theorem ok38 : compF Try.prog 38 [[1, 4, 5, 6]] [] = some ir38 := by kernel_rfl


end Go.Proofs.Aw.Sa
