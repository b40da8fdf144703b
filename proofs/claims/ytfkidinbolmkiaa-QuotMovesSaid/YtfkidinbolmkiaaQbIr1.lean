/-
  THE RECKONED CODE, part 1: printed by program.
-/
import Derived.Test.YtfkidinbolmkiaaRows
import Derived.Test.YtfkidinbolmkiaaBw4
set_option linter.unusedSimpArgs false
set_option linter.unusedVariables false
set_option maxRecDepth 100000
namespace Go.Proofs.Bw.Qb
open Go.Proofs

/-- tenet/tenetlaw23.QuotInts -/
def ir4 : FInfo := ⟨138,
 (.seq (.reg [⟨(some 2), none, .box (.agg [(.int .i64), (.int .i64)]) (.s 0)⟩, ⟨(some 3), none, .box (.agg [(.int .i64), (.int .i64)]) (.s 1)⟩, ⟨(some 4), none, .mov (.c (.t (.bool false)))⟩])
 (.seq (.reg [⟨(some 18), none, .ld (.agg [(.int .i64), (.int .i64)]) (.s 2)⟩, ⟨(some 19), none, .call false 16 (.tup [(.agg [(.int .i64), (.int .i64)]), (.int .i64)]) [(.s 18)]⟩, ⟨(some 17), none, .mov (.s 19)⟩, ⟨(some 20), none, .ext 0 (.s 17)⟩, ⟨(some 21), none, .ext 1 (.s 17)⟩, ⟨(some 5), none, .new (.agg [(.int .i64), (.int .i64)]) (.t (.agg [(.int .i64 0), (.int .i64 0)]))⟩, ⟨none, none, .st (.agg [(.int .i64), (.int .i64)]) (.s 5) (.s 20)⟩, ⟨(some 6), none, .mov (.s 21)⟩])
 (.seq (.reg [⟨(some 23), none, .ld (.agg [(.int .i64), (.int .i64)]) (.s 2)⟩, ⟨(some 24), none, .call false 17 (.tup [(.agg [(.int .i64), (.int .i64)]), (.int .i64)]) [(.s 23)]⟩, ⟨(some 22), none, .mov (.s 24)⟩, ⟨(some 25), none, .ext 0 (.s 22)⟩, ⟨(some 26), none, .ext 1 (.s 22)⟩, ⟨(some 7), none, .new (.agg [(.int .i64), (.int .i64)]) (.t (.agg [(.int .i64 0), (.int .i64 0)]))⟩, ⟨none, none, .st (.agg [(.int .i64), (.int .i64)]) (.s 7) (.s 25)⟩, ⟨(some 8), none, .mov (.s 26)⟩])
 (.seq (.seq (.reg [⟨(some 27), none, .ld (.agg [(.int .i64), (.int .i64)]) (.s 5)⟩, ⟨(some 28), none, .ld (.agg [(.int .i64), (.int .i64)]) (.s 7)⟩, ⟨(some 29), none, .eqs true (.agg [(.int .i64), (.int .i64)]) (.s 27) (.s 28)⟩, ⟨(some 30), none, .mov (.s 29)⟩, ⟨(some 31), (some (30, false)), .mov (.s 6)⟩, ⟨(some 32), (some (30, false)), .mov (.s 8)⟩, ⟨(some 33), (some (30, false)), .bin .neq (.s 31) (.s 32)⟩, ⟨(some 34), none, .pick (.s 30) (.c (.t (.bool true))) (.s 33)⟩])
 (.cond (.s 34)
 (.seq (.reg [⟨(some 4), none, .mov (.c (.t (.bool false)))⟩])
 .ret)
 .skip))
 (.seq (.reg [⟨(some 36), none, .ld (.agg [(.int .i64), (.int .i64)]) (.s 2)⟩, ⟨(some 37), none, .ld (.agg [(.int .i64), (.int .i64)]) (.s 3)⟩, ⟨(some 38), none, .call false 10 (.tup [(.agg [(.int .i64), (.int .i64)]), (.int .i64)]) [(.s 36), (.s 37)]⟩, ⟨(some 35), none, .mov (.s 38)⟩, ⟨(some 39), none, .ext 0 (.s 35)⟩, ⟨(some 40), none, .ext 1 (.s 35)⟩, ⟨none, none, .st (.agg [(.int .i64), (.int .i64)]) (.s 5) (.s 39)⟩, ⟨(some 6), none, .mov (.s 40)⟩])
 (.seq (.reg [⟨(some 42), none, .ld (.agg [(.int .i64), (.int .i64)]) (.s 2)⟩, ⟨(some 43), none, .ld (.agg [(.int .i64), (.int .i64)]) (.s 3)⟩, ⟨(some 44), none, .call false 18 (.tup [(.agg [(.int .i64), (.int .i64)]), (.int .i64)]) [(.s 42), (.s 43)]⟩, ⟨(some 41), none, .mov (.s 44)⟩, ⟨(some 45), none, .ext 0 (.s 41)⟩, ⟨(some 46), none, .ext 1 (.s 41)⟩, ⟨none, none, .st (.agg [(.int .i64), (.int .i64)]) (.s 7) (.s 45)⟩, ⟨(some 8), none, .mov (.s 46)⟩])
 (.seq (.seq (.reg [⟨(some 47), none, .ld (.agg [(.int .i64), (.int .i64)]) (.s 5)⟩, ⟨(some 48), none, .ld (.agg [(.int .i64), (.int .i64)]) (.s 7)⟩, ⟨(some 49), none, .eqs true (.agg [(.int .i64), (.int .i64)]) (.s 47) (.s 48)⟩, ⟨(some 50), none, .mov (.s 49)⟩, ⟨(some 51), (some (50, false)), .mov (.s 6)⟩, ⟨(some 52), (some (50, false)), .mov (.s 8)⟩, ⟨(some 53), (some (50, false)), .bin .neq (.s 51) (.s 52)⟩, ⟨(some 54), none, .pick (.s 50) (.c (.t (.bool true))) (.s 53)⟩])
 (.cond (.s 54)
 (.seq (.reg [⟨(some 4), none, .mov (.c (.t (.bool false)))⟩])
 .ret)
 .skip))
 (.seq (.reg [⟨(some 56), none, .ld (.agg [(.int .i64), (.int .i64)]) (.s 2)⟩, ⟨(some 57), none, .ld (.agg [(.int .i64), (.int .i64)]) (.s 3)⟩, ⟨(some 58), none, .call false 12 (.tup [(.agg [(.int .i64), (.int .i64)]), (.int .i64)]) [(.s 56), (.s 57)]⟩, ⟨(some 55), none, .mov (.s 58)⟩, ⟨(some 59), none, .ext 0 (.s 55)⟩, ⟨(some 60), none, .ext 1 (.s 55)⟩, ⟨none, none, .st (.agg [(.int .i64), (.int .i64)]) (.s 5) (.s 59)⟩, ⟨(some 6), none, .mov (.s 60)⟩])
 (.seq (.reg [⟨(some 62), none, .ld (.agg [(.int .i64), (.int .i64)]) (.s 2)⟩, ⟨(some 63), none, .ld (.agg [(.int .i64), (.int .i64)]) (.s 3)⟩, ⟨(some 64), none, .call false 19 (.tup [(.agg [(.int .i64), (.int .i64)]), (.int .i64)]) [(.s 62), (.s 63)]⟩, ⟨(some 61), none, .mov (.s 64)⟩, ⟨(some 65), none, .ext 0 (.s 61)⟩, ⟨(some 66), none, .ext 1 (.s 61)⟩, ⟨none, none, .st (.agg [(.int .i64), (.int .i64)]) (.s 7) (.s 65)⟩, ⟨(some 8), none, .mov (.s 66)⟩])
 (.seq (.seq (.reg [⟨(some 67), none, .ld (.agg [(.int .i64), (.int .i64)]) (.s 5)⟩, ⟨(some 68), none, .ld (.agg [(.int .i64), (.int .i64)]) (.s 7)⟩, ⟨(some 69), none, .eqs true (.agg [(.int .i64), (.int .i64)]) (.s 67) (.s 68)⟩, ⟨(some 70), none, .mov (.s 69)⟩, ⟨(some 71), (some (70, false)), .mov (.s 6)⟩, ⟨(some 72), (some (70, false)), .mov (.s 8)⟩, ⟨(some 73), (some (70, false)), .bin .neq (.s 71) (.s 72)⟩, ⟨(some 74), none, .pick (.s 70) (.c (.t (.bool true))) (.s 73)⟩])
 (.cond (.s 74)
 (.seq (.reg [⟨(some 4), none, .mov (.c (.t (.bool false)))⟩])
 .ret)
 .skip))
 (.seq (.reg [⟨(some 76), none, .ld (.agg [(.int .i64), (.int .i64)]) (.s 2)⟩, ⟨(some 77), none, .call false 11 (.tup [(.agg [(.int .i64), (.int .i64)]), (.int .i64)]) [(.s 76)]⟩, ⟨(some 75), none, .mov (.s 77)⟩, ⟨(some 78), none, .ext 0 (.s 75)⟩, ⟨(some 79), none, .ext 1 (.s 75)⟩, ⟨none, none, .st (.agg [(.int .i64), (.int .i64)]) (.s 5) (.s 78)⟩, ⟨(some 6), none, .mov (.s 79)⟩])
 (.seq (.reg [⟨(some 81), none, .ld (.agg [(.int .i64), (.int .i64)]) (.s 2)⟩, ⟨(some 82), none, .call false 20 (.tup [(.agg [(.int .i64), (.int .i64)]), (.int .i64)]) [(.s 81)]⟩, ⟨(some 80), none, .mov (.s 82)⟩, ⟨(some 83), none, .ext 0 (.s 80)⟩, ⟨(some 84), none, .ext 1 (.s 80)⟩, ⟨none, none, .st (.agg [(.int .i64), (.int .i64)]) (.s 7) (.s 83)⟩, ⟨(some 8), none, .mov (.s 84)⟩])
 (.seq (.seq (.reg [⟨(some 85), none, .ld (.agg [(.int .i64), (.int .i64)]) (.s 5)⟩, ⟨(some 86), none, .ld (.agg [(.int .i64), (.int .i64)]) (.s 7)⟩, ⟨(some 87), none, .eqs true (.agg [(.int .i64), (.int .i64)]) (.s 85) (.s 86)⟩, ⟨(some 88), none, .mov (.s 87)⟩, ⟨(some 89), (some (88, false)), .mov (.s 6)⟩, ⟨(some 90), (some (88, false)), .mov (.s 8)⟩, ⟨(some 91), (some (88, false)), .bin .neq (.s 89) (.s 90)⟩, ⟨(some 92), none, .pick (.s 88) (.c (.t (.bool true))) (.s 91)⟩])
 (.cond (.s 92)
 (.seq (.reg [⟨(some 4), none, .mov (.c (.t (.bool false)))⟩])
 .ret)
 .skip))
 (.seq (.reg [⟨(some 94), none, .ld (.agg [(.int .i64), (.int .i64)]) (.s 2)⟩, ⟨(some 95), none, .ld (.agg [(.int .i64), (.int .i64)]) (.s 3)⟩, ⟨(some 96), none, .call false 13 (.tup [.bool, (.int .i64)]) [(.s 94), (.s 95)]⟩, ⟨(some 93), none, .mov (.s 96)⟩, ⟨(some 97), none, .ext 0 (.s 93)⟩, ⟨(some 98), none, .ext 1 (.s 93)⟩, ⟨(some 9), none, .mov (.s 97)⟩, ⟨(some 10), none, .mov (.s 98)⟩])
 (.seq (.reg [⟨(some 100), none, .ld (.agg [(.int .i64), (.int .i64)]) (.s 2)⟩, ⟨(some 101), none, .ld (.agg [(.int .i64), (.int .i64)]) (.s 3)⟩, ⟨(some 102), none, .call false 21 (.tup [.bool, (.int .i64)]) [(.s 100), (.s 101)]⟩, ⟨(some 99), none, .mov (.s 102)⟩, ⟨(some 103), none, .ext 0 (.s 99)⟩, ⟨(some 104), none, .ext 1 (.s 99)⟩, ⟨(some 11), none, .mov (.s 103)⟩, ⟨(some 12), none, .mov (.s 104)⟩])
 (.seq (.reg [⟨(some 106), none, .ld (.agg [(.int .i64), (.int .i64)]) (.s 2)⟩, ⟨(some 107), none, .ld (.agg [(.int .i64), (.int .i64)]) (.s 3)⟩, ⟨(some 108), none, .call false 14 (.tup [.bool, (.int .i64)]) [(.s 106), (.s 107)]⟩, ⟨(some 105), none, .mov (.s 108)⟩, ⟨(some 109), none, .ext 0 (.s 105)⟩, ⟨(some 110), none, .ext 1 (.s 105)⟩, ⟨(some 13), none, .mov (.s 109)⟩, ⟨(some 14), none, .mov (.s 110)⟩])
 (.seq (.reg [⟨(some 112), none, .ld (.agg [(.int .i64), (.int .i64)]) (.s 2)⟩, ⟨(some 113), none, .ld (.agg [(.int .i64), (.int .i64)]) (.s 3)⟩, ⟨(some 114), none, .call false 22 (.tup [.bool, (.int .i64)]) [(.s 112), (.s 113)]⟩, ⟨(some 111), none, .mov (.s 114)⟩, ⟨(some 115), none, .ext 0 (.s 111)⟩, ⟨(some 116), none, .ext 1 (.s 111)⟩, ⟨(some 15), none, .mov (.s 115)⟩, ⟨(some 16), none, .mov (.s 116)⟩])
 (.seq (.reg [⟨(some 117), none, .mov (.s 9)⟩, ⟨(some 118), none, .mov (.s 11)⟩, ⟨(some 119), none, .eqs false .bool (.s 117) (.s 118)⟩, ⟨(some 120), none, .mov (.s 119)⟩, ⟨(some 121), (some (120, true)), .mov (.s 10)⟩, ⟨(some 122), (some (120, true)), .mov (.s 12)⟩, ⟨(some 123), (some (120, true)), .bin .eql (.s 121) (.s 122)⟩, ⟨(some 124), none, .pick (.s 120) (.s 123) (.c (.t (.bool false)))⟩, ⟨(some 125), none, .mov (.s 124)⟩, ⟨(some 126), (some (125, true)), .mov (.s 13)⟩, ⟨(some 127), (some (125, true)), .mov (.s 15)⟩, ⟨(some 128), (some (125, true)), .eqs false .bool (.s 126) (.s 127)⟩, ⟨(some 129), none, .pick (.s 125) (.s 128) (.c (.t (.bool false)))⟩, ⟨(some 130), none, .mov (.s 129)⟩, ⟨(some 131), (some (130, true)), .mov (.s 14)⟩, ⟨(some 132), (some (130, true)), .mov (.s 16)⟩, ⟨(some 133), (some (130, true)), .bin .eql (.s 131) (.s 132)⟩, ⟨(some 134), none, .pick (.s 130) (.s 133) (.c (.t (.bool false)))⟩, ⟨(some 135), none, .mov (.s 134)⟩, ⟨(some 136), (some (135, true)), .call false 15 .bool []⟩, ⟨(some 137), none, .pick (.s 135) (.s 136) (.c (.t (.bool false)))⟩, ⟨(some 4), none, .mov (.s 137)⟩])
 .ret)))))))))))))))))),
 [.slot 4]⟩
theorem ok4 : compF Try.prog 4 [] [] = some ir4 := by kernel_rfl

/-- tenet/tenetlaw23.QuotFolds -/
def ir7 : FInfo := ⟨258,
 (.seq (.reg [⟨(some 8), none, .mov (.c (.t (.bool false)))⟩])
 (.seq (.seq (.reg [⟨(some 51), none, .mov (.s 0)⟩, ⟨(some 52), none, .len (.s 51)⟩, ⟨(some 53), none, .bin .gtr (.s 52) (.c (.t (.int .i64 20)))⟩, ⟨(some 54), none, .mov (.s 53)⟩, ⟨(some 55), (some (54, false)), .mov (.s 1)⟩, ⟨(some 56), (some (54, false)), .len (.s 55)⟩, ⟨(some 57), (some (54, false)), .bin .gtr (.s 56) (.c (.t (.int .i64 20)))⟩, ⟨(some 58), none, .pick (.s 54) (.c (.t (.bool true))) (.s 57)⟩, ⟨(some 59), none, .mov (.s 58)⟩, ⟨(some 60), (some (59, false)), .mov (.s 2)⟩, ⟨(some 61), (some (59, false)), .len (.s 60)⟩, ⟨(some 62), (some (59, false)), .bin .gtr (.s 61) (.c (.t (.int .i64 20)))⟩, ⟨(some 63), none, .pick (.s 59) (.c (.t (.bool true))) (.s 62)⟩])
 (.cond (.s 63)
 (.seq (.reg [⟨(some 8), none, .mov (.c (.t (.bool true)))⟩])
 .ret)
 .skip))
 (.seq (.reg [⟨(some 9), none, .mov (.c .nilS)⟩, ⟨(some 10), none, .mov (.c .nilS)⟩, ⟨(some 11), none, .mov (.c .nilS)⟩])
 (.seq (.seq (.reg [⟨(some 12), none, .mov (.c (.t (.int .i64 0)))⟩])
 (.block 0 (.loop [0, 1, 2, 3, 9, 10, 11, 12] (.seq (.seq (.reg [⟨(some 64), none, .mov (.s 12)⟩, ⟨(some 65), none, .mov (.s 0)⟩, ⟨(some 66), none, .len (.s 65)⟩, ⟨(some 67), none, .bin .lss (.s 64) (.s 66)⟩])
 (.cond (.s 67)
 .skip
 (.exit 0)))
 (.seq (.block 1 (.reg [⟨(some 70), none, .mov (.s 9)⟩, ⟨(some 71), none, .mov (.s 0)⟩, ⟨(some 72), none, .mov (.s 12)⟩, ⟨(some 73), none, .ia (.int .i32) (.s 71) (.s 72)⟩, ⟨(some 74), none, .ld (.int .i32) (.s 73)⟩, ⟨(some 75), none, .conv .i64 (.s 74)⟩, ⟨(some 76), none, .bsl (.int .i64) (.t (.int .i64 0)) 1 [(0, (.s 75))]⟩, ⟨(some 77), none, .app (.int .i64) 8 (.s 70) (.s 76)⟩, ⟨(some 9), none, .mov (.s 77)⟩]))
 (.reg [⟨(some 68), none, .mov (.s 12)⟩, ⟨(some 69), none, .bin .add (.s 68) (.c (.t (.int .i64 1)))⟩, ⟨(some 12), none, .mov (.s 69)⟩]))))))
 (.seq (.seq (.reg [⟨(some 13), none, .mov (.c (.t (.int .i64 0)))⟩])
 (.block 2 (.loop [1, 2, 3, 9, 10, 11, 13] (.seq (.seq (.reg [⟨(some 78), none, .mov (.s 13)⟩, ⟨(some 79), none, .mov (.s 1)⟩, ⟨(some 80), none, .len (.s 79)⟩, ⟨(some 81), none, .bin .lss (.s 78) (.s 80)⟩])
 (.cond (.s 81)
 .skip
 (.exit 2)))
 (.seq (.block 3 (.reg [⟨(some 84), none, .mov (.s 10)⟩, ⟨(some 85), none, .mov (.s 1)⟩, ⟨(some 86), none, .mov (.s 13)⟩, ⟨(some 87), none, .ia (.int .i32) (.s 85) (.s 86)⟩, ⟨(some 88), none, .ld (.int .i32) (.s 87)⟩, ⟨(some 89), none, .conv .i64 (.s 88)⟩, ⟨(some 90), none, .bsl (.int .i64) (.t (.int .i64 0)) 1 [(0, (.s 89))]⟩, ⟨(some 91), none, .app (.int .i64) 8 (.s 84) (.s 90)⟩, ⟨(some 10), none, .mov (.s 91)⟩]))
 (.reg [⟨(some 82), none, .mov (.s 13)⟩, ⟨(some 83), none, .bin .add (.s 82) (.c (.t (.int .i64 1)))⟩, ⟨(some 13), none, .mov (.s 83)⟩]))))))
 (.seq (.seq (.reg [⟨(some 14), none, .mov (.c (.t (.int .i64 0)))⟩])
 (.block 4 (.loop [2, 3, 9, 10, 11, 14] (.seq (.seq (.reg [⟨(some 92), none, .mov (.s 14)⟩, ⟨(some 93), none, .mov (.s 2)⟩, ⟨(some 94), none, .len (.s 93)⟩, ⟨(some 95), none, .bin .lss (.s 92) (.s 94)⟩])
 (.cond (.s 95)
 .skip
 (.exit 4)))
 (.seq (.block 5 (.reg [⟨(some 98), none, .mov (.s 11)⟩, ⟨(some 99), none, .mov (.s 2)⟩, ⟨(some 100), none, .mov (.s 14)⟩, ⟨(some 101), none, .ia (.int .i32) (.s 99) (.s 100)⟩, ⟨(some 102), none, .ld (.int .i32) (.s 101)⟩, ⟨(some 103), none, .conv .i64 (.s 102)⟩, ⟨(some 104), none, .bsl (.int .i64) (.t (.int .i64 0)) 1 [(0, (.s 103))]⟩, ⟨(some 105), none, .app (.int .i64) 8 (.s 98) (.s 104)⟩, ⟨(some 11), none, .mov (.s 105)⟩]))
 (.reg [⟨(some 96), none, .mov (.s 14)⟩, ⟨(some 97), none, .bin .add (.s 96) (.c (.t (.int .i64 1)))⟩, ⟨(some 14), none, .mov (.s 97)⟩]))))))
 (.seq (.reg [⟨(some 107), none, .mov (.s 9)⟩, ⟨(some 108), none, .mov (.s 10)⟩, ⟨(some 109), none, .call false 33 (.tup [.slc, (.int .i64)]) [(.s 107), (.s 108)]⟩, ⟨(some 106), none, .mov (.s 109)⟩, ⟨(some 110), none, .ext 0 (.s 106)⟩, ⟨(some 111), none, .ext 1 (.s 106)⟩, ⟨(some 15), none, .mov (.s 110)⟩, ⟨(some 16), none, .mov (.s 111)⟩])
 (.seq (.reg [⟨(some 113), none, .mov (.s 9)⟩, ⟨(some 114), none, .call false 34 (.tup [(.int .i64), (.int .i64)]) [(.s 113), (.c (.t (.int .i64 1)))]⟩, ⟨(some 112), none, .mov (.s 114)⟩, ⟨(some 115), none, .ext 0 (.s 112)⟩, ⟨(some 116), none, .ext 1 (.s 112)⟩, ⟨(some 17), none, .mov (.s 115)⟩, ⟨(some 18), none, .mov (.s 116)⟩])
 (.seq (.reg [⟨(some 118), none, .mov (.s 10)⟩, ⟨(some 119), none, .call false 34 (.tup [(.int .i64), (.int .i64)]) [(.s 118), (.c (.t (.int .i64 1)))]⟩, ⟨(some 117), none, .mov (.s 119)⟩, ⟨(some 120), none, .ext 0 (.s 117)⟩, ⟨(some 121), none, .ext 1 (.s 117)⟩, ⟨(some 19), none, .mov (.s 120)⟩, ⟨(some 20), none, .mov (.s 121)⟩])
 (.seq (.reg [⟨(some 123), none, .mov (.s 15)⟩, ⟨(some 124), none, .call false 34 (.tup [(.int .i64), (.int .i64)]) [(.s 123), (.c (.t (.int .i64 1)))]⟩, ⟨(some 122), none, .mov (.s 124)⟩, ⟨(some 125), none, .ext 0 (.s 122)⟩, ⟨(some 126), none, .ext 1 (.s 122)⟩, ⟨(some 21), none, .mov (.s 125)⟩, ⟨(some 22), none, .mov (.s 126)⟩])
 (.seq (.reg [⟨(some 128), none, .mov (.s 9)⟩, ⟨(some 129), none, .mov (.s 3)⟩, ⟨(some 130), none, .conv .i64 (.s 129)⟩, ⟨(some 131), none, .call false 35 (.tup [(.int .i64), (.int .i64)]) [(.s 128), (.s 130)]⟩, ⟨(some 127), none, .mov (.s 131)⟩, ⟨(some 132), none, .ext 0 (.s 127)⟩, ⟨(some 133), none, .ext 1 (.s 127)⟩, ⟨(some 23), none, .mov (.s 132)⟩, ⟨(some 24), none, .mov (.s 133)⟩])
 (.seq (.reg [⟨(some 135), none, .mov (.s 10)⟩, ⟨(some 136), none, .mov (.s 3)⟩, ⟨(some 137), none, .conv .i64 (.s 136)⟩, ⟨(some 138), none, .call false 35 (.tup [(.int .i64), (.int .i64)]) [(.s 135), (.s 137)]⟩, ⟨(some 134), none, .mov (.s 138)⟩, ⟨(some 139), none, .ext 0 (.s 134)⟩, ⟨(some 140), none, .ext 1 (.s 134)⟩, ⟨(some 25), none, .mov (.s 139)⟩, ⟨(some 26), none, .mov (.s 140)⟩])
 (.seq (.reg [⟨(some 142), none, .mov (.s 15)⟩, ⟨(some 143), none, .mov (.s 3)⟩, ⟨(some 144), none, .conv .i64 (.s 143)⟩, ⟨(some 145), none, .call false 35 (.tup [(.int .i64), (.int .i64)]) [(.s 142), (.s 144)]⟩, ⟨(some 141), none, .mov (.s 145)⟩, ⟨(some 146), none, .ext 0 (.s 141)⟩, ⟨(some 147), none, .ext 1 (.s 141)⟩, ⟨(some 27), none, .mov (.s 146)⟩, ⟨(some 28), none, .mov (.s 147)⟩])
 (.seq (.seq (.reg [⟨(some 148), none, .mov (.s 18)⟩, ⟨(some 149), none, .bin .neq (.s 148) (.c (.t (.int .i64 0)))⟩, ⟨(some 150), none, .mov (.s 149)⟩, ⟨(some 151), (some (150, false)), .mov (.s 20)⟩, ⟨(some 152), (some (150, false)), .bin .neq (.s 151) (.c (.t (.int .i64 0)))⟩, ⟨(some 153), none, .pick (.s 150) (.c (.t (.bool true))) (.s 152)⟩, ⟨(some 154), none, .mov (.s 153)⟩, ⟨(some 155), (some (154, false)), .mov (.s 22)⟩, ⟨(some 156), (some (154, false)), .bin .neq (.s 155) (.c (.t (.int .i64 0)))⟩, ⟨(some 157), none, .pick (.s 154) (.c (.t (.bool true))) (.s 156)⟩, ⟨(some 158), none, .mov (.s 157)⟩, ⟨(some 159), (some (158, false)), .mov (.s 17)⟩, ⟨(some 160), (some (158, false)), .mov (.s 19)⟩, ⟨(some 161), (some (158, false)), .bin .add (.s 159) (.s 160)⟩, ⟨(some 162), (some (158, false)), .mov (.s 21)⟩, ⟨(some 163), (some (158, false)), .bin .neq (.s 161) (.s 162)⟩, ⟨(some 164), none, .pick (.s 158) (.c (.t (.bool true))) (.s 163)⟩, ⟨(some 165), none, .mov (.s 164)⟩, ⟨(some 166), (some (165, false)), .mov (.s 23)⟩, ⟨(some 167), (some (165, false)), .mov (.s 25)⟩, ⟨(some 168), (some (165, false)), .bin .add (.s 166) (.s 167)⟩, ⟨(some 169), (some (165, false)), .mov (.s 27)⟩, ⟨(some 170), (some (165, false)), .bin .neq (.s 168) (.s 169)⟩, ⟨(some 171), none, .pick (.s 165) (.c (.t (.bool true))) (.s 170)⟩])
 (.cond (.s 171)
 (.seq (.reg [⟨(some 8), none, .mov (.c (.t (.bool false)))⟩])
 .ret)
 .skip))
 (.seq (.reg [⟨(some 173), none, .mov (.s 9)⟩, ⟨(some 174), none, .mov (.s 10)⟩, ⟨(some 175), none, .call false 36 (.tup [.slc, (.int .i64)]) [(.s 173), (.s 174)]⟩, ⟨(some 172), none, .mov (.s 175)⟩, ⟨(some 176), none, .ext 0 (.s 172)⟩, ⟨(some 177), none, .ext 1 (.s 172)⟩, ⟨(some 29), none, .mov (.s 176)⟩, ⟨(some 30), none, .mov (.s 177)⟩])
 (.seq (.reg [⟨(some 179), none, .mov (.s 10)⟩, ⟨(some 180), none, .mov (.s 11)⟩, ⟨(some 181), none, .call false 36 (.tup [.slc, (.int .i64)]) [(.s 179), (.s 180)]⟩, ⟨(some 178), none, .mov (.s 181)⟩, ⟨(some 182), none, .ext 0 (.s 178)⟩, ⟨(some 183), none, .ext 1 (.s 178)⟩, ⟨(some 31), none, .mov (.s 182)⟩, ⟨(some 32), none, .mov (.s 183)⟩])
 (.seq (.reg [⟨(some 185), none, .mov (.s 29)⟩, ⟨(some 186), none, .mov (.s 11)⟩, ⟨(some 187), none, .call false 36 (.tup [.slc, (.int .i64)]) [(.s 185), (.s 186)]⟩, ⟨(some 184), none, .mov (.s 187)⟩, ⟨(some 188), none, .ext 0 (.s 184)⟩, ⟨(some 189), none, .ext 1 (.s 184)⟩, ⟨(some 33), none, .mov (.s 188)⟩, ⟨(some 34), none, .mov (.s 189)⟩])
 (.seq (.reg [⟨(some 191), none, .mov (.s 9)⟩, ⟨(some 192), none, .mov (.s 31)⟩, ⟨(some 193), none, .call false 36 (.tup [.slc, (.int .i64)]) [(.s 191), (.s 192)]⟩, ⟨(some 190), none, .mov (.s 193)⟩, ⟨(some 194), none, .ext 0 (.s 190)⟩, ⟨(some 195), none, .ext 1 (.s 190)⟩, ⟨(some 35), none, .mov (.s 194)⟩, ⟨(some 36), none, .mov (.s 195)⟩])
 (.seq (.reg [⟨(some 197), none, .mov (.s 9)⟩, ⟨(some 198), none, .mov (.s 10)⟩, ⟨(some 199), none, .call false 37 (.tup [.slc, (.int .i64)]) [(.s 197), (.s 198)]⟩, ⟨(some 196), none, .mov (.s 199)⟩, ⟨(some 200), none, .ext 0 (.s 196)⟩, ⟨(some 201), none, .ext 1 (.s 196)⟩, ⟨(some 37), none, .mov (.s 200)⟩, ⟨(some 38), none, .mov (.s 201)⟩])
 (.seq (.reg [⟨(some 203), none, .mov (.s 10)⟩, ⟨(some 204), none, .mov (.s 11)⟩, ⟨(some 205), none, .call false 37 (.tup [.slc, (.int .i64)]) [(.s 203), (.s 204)]⟩, ⟨(some 202), none, .mov (.s 205)⟩, ⟨(some 206), none, .ext 0 (.s 202)⟩, ⟨(some 207), none, .ext 1 (.s 202)⟩, ⟨(some 39), none, .mov (.s 206)⟩, ⟨(some 40), none, .mov (.s 207)⟩])
 (.seq (.reg [⟨(some 209), none, .mov (.s 37)⟩, ⟨(some 210), none, .mov (.s 11)⟩, ⟨(some 211), none, .call false 37 (.tup [.slc, (.int .i64)]) [(.s 209), (.s 210)]⟩, ⟨(some 208), none, .mov (.s 211)⟩, ⟨(some 212), none, .ext 0 (.s 208)⟩, ⟨(some 213), none, .ext 1 (.s 208)⟩, ⟨(some 41), none, .mov (.s 212)⟩, ⟨(some 42), none, .mov (.s 213)⟩])
 (.seq (.reg [⟨(some 215), none, .mov (.s 9)⟩, ⟨(some 216), none, .mov (.s 39)⟩, ⟨(some 217), none, .call false 37 (.tup [.slc, (.int .i64)]) [(.s 215), (.s 216)]⟩, ⟨(some 214), none, .mov (.s 217)⟩, ⟨(some 218), none, .ext 0 (.s 214)⟩, ⟨(some 219), none, .ext 1 (.s 214)⟩, ⟨(some 43), none, .mov (.s 218)⟩, ⟨(some 44), none, .mov (.s 219)⟩])
 (.seq (.seq (.reg [⟨(some 220), none, .mov (.s 33)⟩, ⟨(some 221), none, .mov (.s 35)⟩, ⟨(some 222), none, .call false 38 .bool [(.s 220), (.s 221)]⟩, ⟨(some 223), none, .un .not (.s 222)⟩, ⟨(some 224), none, .mov (.s 223)⟩, ⟨(some 225), (some (224, false)), .mov (.s 41)⟩, ⟨(some 226), (some (224, false)), .mov (.s 43)⟩, ⟨(some 227), (some (224, false)), .call false 38 .bool [(.s 225), (.s 226)]⟩, ⟨(some 228), (some (224, false)), .un .not (.s 227)⟩, ⟨(some 229), none, .pick (.s 224) (.c (.t (.bool true))) (.s 228)⟩])
 (.cond (.s 229)
 (.seq (.reg [⟨(some 8), none, .mov (.c (.t (.bool false)))⟩])
 .ret)
 .skip))
 (.seq (.reg [⟨(some 231), none, .mov (.s 9)⟩, ⟨(some 232), none, .mov (.s 37)⟩, ⟨(some 233), none, .call false 36 (.tup [.slc, (.int .i64)]) [(.s 231), (.s 232)]⟩, ⟨(some 230), none, .mov (.s 233)⟩, ⟨(some 234), none, .ext 0 (.s 230)⟩, ⟨(some 235), none, .ext 1 (.s 230)⟩, ⟨(some 45), none, .mov (.s 234)⟩, ⟨(some 46), none, .mov (.s 235)⟩])
 (.seq (.reg [⟨(some 237), none, .mov (.s 9)⟩, ⟨(some 238), none, .mov (.s 29)⟩, ⟨(some 239), none, .call false 37 (.tup [.slc, (.int .i64)]) [(.s 237), (.s 238)]⟩, ⟨(some 236), none, .mov (.s 239)⟩, ⟨(some 240), none, .ext 0 (.s 236)⟩, ⟨(some 241), none, .ext 1 (.s 236)⟩, ⟨(some 47), none, .mov (.s 240)⟩, ⟨(some 48), none, .mov (.s 241)⟩])
 (.seq (.reg [⟨(some 243), none, .mov (.s 9)⟩, ⟨(some 244), none, .call false 39 (.tup [.slc, (.int .i64)]) [(.s 243)]⟩, ⟨(some 242), none, .mov (.s 244)⟩, ⟨(some 245), none, .ext 0 (.s 242)⟩, ⟨(some 246), none, .ext 1 (.s 242)⟩, ⟨(some 49), none, .mov (.s 245)⟩, ⟨(some 50), none, .mov (.s 246)⟩])
 (.seq (.reg [⟨(some 247), none, .mov (.s 45)⟩, ⟨(some 248), none, .mov (.s 49)⟩, ⟨(some 249), none, .call false 38 .bool [(.s 247), (.s 248)]⟩, ⟨(some 250), none, .mov (.s 249)⟩, ⟨(some 251), (some (250, true)), .mov (.s 47)⟩, ⟨(some 252), (some (250, true)), .mov (.s 49)⟩, ⟨(some 253), (some (250, true)), .call false 38 .bool [(.s 251), (.s 252)]⟩, ⟨(some 254), none, .pick (.s 250) (.s 253) (.c (.t (.bool false)))⟩, ⟨(some 255), none, .mov (.s 254)⟩, ⟨(some 256), (some (255, true)), .call false 15 .bool []⟩, ⟨(some 257), none, .pick (.s 255) (.s 256) (.c (.t (.bool false)))⟩, ⟨(some 8), none, .mov (.s 257)⟩])
 .ret))))))))))))))))))))))))))),
 [.slot 8]⟩
theorem ok7 : compF Try.prog 7 [[0, 1, 2, 3, 9, 10, 11, 12], [1, 2, 3, 9, 10, 11, 13], [2, 3, 9, 10, 11, 14]] [] = some ir7 := by kernel_rfl

/-- tenet/tenetlaw23.QuotLists -/
def ir8 : FInfo := ⟨171,
 (.seq (.reg [⟨(some 8), none, .mov (.c (.t (.bool false)))⟩])
 (.seq (.seq (.reg [⟨(some 21), none, .mov (.s 0)⟩, ⟨(some 22), none, .mov (.s 1)⟩, ⟨(some 23), none, .bsl .slc .nilS 2 [(0, (.s 21)), (1, (.s 22))]⟩, ⟨(some 24), none, .call false 40 .bool [(.s 23)]⟩])
 (.cond (.s 24)
 (.seq (.reg [⟨(some 8), none, .mov (.c (.t (.bool true)))⟩])
 .ret)
 .skip))
 (.seq (.reg [⟨(some 26), none, .mov (.s 0)⟩, ⟨(some 27), none, .call false 41 (.tup [.slc, (.int .i64)]) [(.s 26)]⟩, ⟨(some 25), none, .mov (.s 27)⟩, ⟨(some 28), none, .ext 0 (.s 25)⟩, ⟨(some 29), none, .ext 1 (.s 25)⟩, ⟨(some 9), none, .mov (.s 28)⟩, ⟨(some 10), none, .mov (.s 29)⟩])
 (.seq (.reg [⟨(some 31), none, .mov (.s 0)⟩, ⟨(some 32), none, .call false 42 (.tup [.slc, (.int .i64)]) [(.s 31)]⟩, ⟨(some 30), none, .mov (.s 32)⟩, ⟨(some 33), none, .ext 0 (.s 30)⟩, ⟨(some 34), none, .ext 1 (.s 30)⟩, ⟨(some 11), none, .mov (.s 33)⟩, ⟨(some 12), none, .mov (.s 34)⟩])
 (.seq (.seq (.reg [⟨(some 35), none, .mov (.s 10)⟩, ⟨(some 36), none, .mov (.s 12)⟩, ⟨(some 37), none, .bin .neq (.s 35) (.s 36)⟩, ⟨(some 38), none, .mov (.s 37)⟩, ⟨(some 39), (some (38, false)), .mov (.s 9)⟩, ⟨(some 40), (some (38, false)), .mov (.s 11)⟩, ⟨(some 41), (some (38, false)), .call false 38 .bool [(.s 39), (.s 40)]⟩, ⟨(some 42), (some (38, false)), .un .not (.s 41)⟩, ⟨(some 43), none, .pick (.s 38) (.c (.t (.bool true))) (.s 42)⟩])
 (.cond (.s 43)
 (.seq (.reg [⟨(some 8), none, .mov (.c (.t (.bool false)))⟩])
 .ret)
 .skip))
 (.seq (.reg [⟨(some 45), none, .mov (.s 0)⟩, ⟨(some 46), none, .mov (.s 1)⟩, ⟨(some 47), none, .call false 33 (.tup [.slc, (.int .i64)]) [(.s 45), (.s 46)]⟩, ⟨(some 44), none, .mov (.s 47)⟩, ⟨(some 48), none, .ext 0 (.s 44)⟩, ⟨(some 49), none, .ext 1 (.s 44)⟩, ⟨(some 9), none, .mov (.s 48)⟩, ⟨(some 10), none, .mov (.s 49)⟩])
 (.seq (.reg [⟨(some 51), none, .mov (.s 0)⟩, ⟨(some 52), none, .mov (.s 1)⟩, ⟨(some 53), none, .call false 43 (.tup [.slc, (.int .i64)]) [(.s 51), (.s 52)]⟩, ⟨(some 50), none, .mov (.s 53)⟩, ⟨(some 54), none, .ext 0 (.s 50)⟩, ⟨(some 55), none, .ext 1 (.s 50)⟩, ⟨(some 11), none, .mov (.s 54)⟩, ⟨(some 12), none, .mov (.s 55)⟩])
 (.seq (.seq (.reg [⟨(some 56), none, .mov (.s 10)⟩, ⟨(some 57), none, .mov (.s 12)⟩, ⟨(some 58), none, .bin .neq (.s 56) (.s 57)⟩, ⟨(some 59), none, .mov (.s 58)⟩, ⟨(some 60), (some (59, false)), .mov (.s 9)⟩, ⟨(some 61), (some (59, false)), .mov (.s 11)⟩, ⟨(some 62), (some (59, false)), .call false 38 .bool [(.s 60), (.s 61)]⟩, ⟨(some 63), (some (59, false)), .un .not (.s 62)⟩, ⟨(some 64), none, .pick (.s 59) (.c (.t (.bool true))) (.s 63)⟩])
 (.cond (.s 64)
 (.seq (.reg [⟨(some 8), none, .mov (.c (.t (.bool false)))⟩])
 .ret)
 .skip))
 (.seq (.reg [⟨(some 66), none, .mov (.s 0)⟩, ⟨(some 67), none, .call false 39 (.tup [.slc, (.int .i64)]) [(.s 66)]⟩, ⟨(some 65), none, .mov (.s 67)⟩, ⟨(some 68), none, .ext 0 (.s 65)⟩, ⟨(some 69), none, .ext 1 (.s 65)⟩, ⟨(some 9), none, .mov (.s 68)⟩, ⟨(some 10), none, .mov (.s 69)⟩])
 (.seq (.reg [⟨(some 71), none, .mov (.s 0)⟩, ⟨(some 72), none, .call false 44 (.tup [.slc, (.int .i64)]) [(.s 71)]⟩, ⟨(some 70), none, .mov (.s 72)⟩, ⟨(some 73), none, .ext 0 (.s 70)⟩, ⟨(some 74), none, .ext 1 (.s 70)⟩, ⟨(some 11), none, .mov (.s 73)⟩, ⟨(some 12), none, .mov (.s 74)⟩])
 (.seq (.seq (.reg [⟨(some 75), none, .mov (.s 10)⟩, ⟨(some 76), none, .mov (.s 12)⟩, ⟨(some 77), none, .bin .neq (.s 75) (.s 76)⟩, ⟨(some 78), none, .mov (.s 77)⟩, ⟨(some 79), (some (78, false)), .mov (.s 9)⟩, ⟨(some 80), (some (78, false)), .mov (.s 11)⟩, ⟨(some 81), (some (78, false)), .call false 38 .bool [(.s 79), (.s 80)]⟩, ⟨(some 82), (some (78, false)), .un .not (.s 81)⟩, ⟨(some 83), none, .pick (.s 78) (.c (.t (.bool true))) (.s 82)⟩])
 (.cond (.s 83)
 (.seq (.reg [⟨(some 8), none, .mov (.c (.t (.bool false)))⟩])
 .ret)
 .skip))
 (.seq (.reg [⟨(some 85), none, .mov (.s 0)⟩, ⟨(some 86), none, .mov (.s 1)⟩, ⟨(some 87), none, .call false 36 (.tup [.slc, (.int .i64)]) [(.s 85), (.s 86)]⟩, ⟨(some 84), none, .mov (.s 87)⟩, ⟨(some 88), none, .ext 0 (.s 84)⟩, ⟨(some 89), none, .ext 1 (.s 84)⟩, ⟨(some 9), none, .mov (.s 88)⟩, ⟨(some 10), none, .mov (.s 89)⟩])
 (.seq (.reg [⟨(some 91), none, .mov (.s 0)⟩, ⟨(some 92), none, .mov (.s 1)⟩, ⟨(some 93), none, .call false 45 (.tup [.slc, (.int .i64)]) [(.s 91), (.s 92)]⟩, ⟨(some 90), none, .mov (.s 93)⟩, ⟨(some 94), none, .ext 0 (.s 90)⟩, ⟨(some 95), none, .ext 1 (.s 90)⟩, ⟨(some 11), none, .mov (.s 94)⟩, ⟨(some 12), none, .mov (.s 95)⟩])
 (.seq (.seq (.reg [⟨(some 96), none, .mov (.s 10)⟩, ⟨(some 97), none, .mov (.s 12)⟩, ⟨(some 98), none, .bin .neq (.s 96) (.s 97)⟩, ⟨(some 99), none, .mov (.s 98)⟩, ⟨(some 100), (some (99, false)), .mov (.s 9)⟩, ⟨(some 101), (some (99, false)), .mov (.s 11)⟩, ⟨(some 102), (some (99, false)), .call false 38 .bool [(.s 100), (.s 101)]⟩, ⟨(some 103), (some (99, false)), .un .not (.s 102)⟩, ⟨(some 104), none, .pick (.s 99) (.c (.t (.bool true))) (.s 103)⟩])
 (.cond (.s 104)
 (.seq (.reg [⟨(some 8), none, .mov (.c (.t (.bool false)))⟩])
 .ret)
 .skip))
 (.seq (.reg [⟨(some 106), none, .mov (.s 0)⟩, ⟨(some 107), none, .mov (.s 1)⟩, ⟨(some 108), none, .call false 37 (.tup [.slc, (.int .i64)]) [(.s 106), (.s 107)]⟩, ⟨(some 105), none, .mov (.s 108)⟩, ⟨(some 109), none, .ext 0 (.s 105)⟩, ⟨(some 110), none, .ext 1 (.s 105)⟩, ⟨(some 9), none, .mov (.s 109)⟩, ⟨(some 10), none, .mov (.s 110)⟩])
 (.seq (.reg [⟨(some 112), none, .mov (.s 0)⟩, ⟨(some 113), none, .mov (.s 1)⟩, ⟨(some 114), none, .call false 46 (.tup [.slc, (.int .i64)]) [(.s 112), (.s 113)]⟩, ⟨(some 111), none, .mov (.s 114)⟩, ⟨(some 115), none, .ext 0 (.s 111)⟩, ⟨(some 116), none, .ext 1 (.s 111)⟩, ⟨(some 11), none, .mov (.s 115)⟩, ⟨(some 12), none, .mov (.s 116)⟩])
 (.seq (.seq (.reg [⟨(some 117), none, .mov (.s 10)⟩, ⟨(some 118), none, .mov (.s 12)⟩, ⟨(some 119), none, .bin .neq (.s 117) (.s 118)⟩, ⟨(some 120), none, .mov (.s 119)⟩, ⟨(some 121), (some (120, false)), .mov (.s 9)⟩, ⟨(some 122), (some (120, false)), .mov (.s 11)⟩, ⟨(some 123), (some (120, false)), .call false 38 .bool [(.s 121), (.s 122)]⟩, ⟨(some 124), (some (120, false)), .un .not (.s 123)⟩, ⟨(some 125), none, .pick (.s 120) (.c (.t (.bool true))) (.s 124)⟩])
 (.cond (.s 125)
 (.seq (.reg [⟨(some 8), none, .mov (.c (.t (.bool false)))⟩])
 .ret)
 .skip))
 (.seq (.reg [⟨(some 127), none, .mov (.s 0)⟩, ⟨(some 128), none, .mov (.s 2)⟩, ⟨(some 129), none, .call false 35 (.tup [(.int .i64), (.int .i64)]) [(.s 127), (.s 128)]⟩, ⟨(some 126), none, .mov (.s 129)⟩, ⟨(some 130), none, .ext 0 (.s 126)⟩, ⟨(some 131), none, .ext 1 (.s 126)⟩, ⟨(some 13), none, .mov (.s 130)⟩, ⟨(some 14), none, .mov (.s 131)⟩])
 (.seq (.reg [⟨(some 133), none, .mov (.s 0)⟩, ⟨(some 134), none, .mov (.s 2)⟩, ⟨(some 135), none, .call false 47 (.tup [(.int .i64), (.int .i64)]) [(.s 133), (.s 134)]⟩, ⟨(some 132), none, .mov (.s 135)⟩, ⟨(some 136), none, .ext 0 (.s 132)⟩, ⟨(some 137), none, .ext 1 (.s 132)⟩, ⟨(some 15), none, .mov (.s 136)⟩, ⟨(some 16), none, .mov (.s 137)⟩])
 (.seq (.reg [⟨(some 139), none, .mov (.s 0)⟩, ⟨(some 140), none, .mov (.s 3)⟩, ⟨(some 141), none, .call false 34 (.tup [(.int .i64), (.int .i64)]) [(.s 139), (.s 140)]⟩, ⟨(some 138), none, .mov (.s 141)⟩, ⟨(some 142), none, .ext 0 (.s 138)⟩, ⟨(some 143), none, .ext 1 (.s 138)⟩, ⟨(some 17), none, .mov (.s 142)⟩, ⟨(some 18), none, .mov (.s 143)⟩])
 (.seq (.reg [⟨(some 145), none, .mov (.s 0)⟩, ⟨(some 146), none, .mov (.s 3)⟩, ⟨(some 147), none, .call false 48 (.tup [(.int .i64), (.int .i64)]) [(.s 145), (.s 146)]⟩, ⟨(some 144), none, .mov (.s 147)⟩, ⟨(some 148), none, .ext 0 (.s 144)⟩, ⟨(some 149), none, .ext 1 (.s 144)⟩, ⟨(some 19), none, .mov (.s 148)⟩, ⟨(some 20), none, .mov (.s 149)⟩])
 (.seq (.reg [⟨(some 150), none, .mov (.s 13)⟩, ⟨(some 151), none, .mov (.s 15)⟩, ⟨(some 152), none, .bin .eql (.s 150) (.s 151)⟩, ⟨(some 153), none, .mov (.s 152)⟩, ⟨(some 154), (some (153, true)), .mov (.s 14)⟩, ⟨(some 155), (some (153, true)), .mov (.s 16)⟩, ⟨(some 156), (some (153, true)), .bin .eql (.s 154) (.s 155)⟩, ⟨(some 157), none, .pick (.s 153) (.s 156) (.c (.t (.bool false)))⟩, ⟨(some 158), none, .mov (.s 157)⟩, ⟨(some 159), (some (158, true)), .mov (.s 17)⟩, ⟨(some 160), (some (158, true)), .mov (.s 19)⟩, ⟨(some 161), (some (158, true)), .bin .eql (.s 159) (.s 160)⟩, ⟨(some 162), none, .pick (.s 158) (.s 161) (.c (.t (.bool false)))⟩, ⟨(some 163), none, .mov (.s 162)⟩, ⟨(some 164), (some (163, true)), .mov (.s 18)⟩, ⟨(some 165), (some (163, true)), .mov (.s 20)⟩, ⟨(some 166), (some (163, true)), .bin .eql (.s 164) (.s 165)⟩, ⟨(some 167), none, .pick (.s 163) (.s 166) (.c (.t (.bool false)))⟩, ⟨(some 168), none, .mov (.s 167)⟩, ⟨(some 169), (some (168, true)), .call false 15 .bool []⟩, ⟨(some 170), none, .pick (.s 168) (.s 169) (.c (.t (.bool false)))⟩, ⟨(some 8), none, .mov (.s 170)⟩])
 .ret)))))))))))))))))))))),
 [.slot 8]⟩
theorem ok8 : compF Try.prog 8 [] [] = some ir8 := by kernel_rfl

/-- tenet/tenetlaw23.QuotMoves -/
def ir9 : FInfo := ⟨221,
 (.seq (.reg [⟨(some 4), none, .box (.agg [(.int .u32), (.int .u32)]) (.s 0)⟩, ⟨(some 5), none, .box (.agg [(.int .u32), (.int .u32)]) (.s 1)⟩, ⟨(some 8), none, .mov (.c (.t (.bool false)))⟩])
 (.seq (.dreg [⟨(some 37), none, .iaa (.int .u32) 2 (.s 4) (.c (.t (.int .i64 0)))⟩, ⟨(some 38), none, .ld (.int .u32) (.s 37)⟩, ⟨(some 39), none, .bin .rem (.s 38) (.c (.t (.int .u32 1000000)))⟩, ⟨(some 40), none, .conv .i64 (.s 39)⟩, ⟨(some 41), none, .iaa (.int .u32) 2 (.s 4) (.c (.t (.int .i64 1)))⟩, ⟨(some 42), none, .ld (.int .u32) (.s 41)⟩, ⟨(some 43), none, .bin .rem (.s 42) (.c (.t (.int .u32 1000000)))⟩, ⟨(some 44), none, .conv .i64 (.s 43)⟩, ⟨(some 45), none, .build [(.t (.int .i64 0)), (.t (.int .i64 0))] [(0, (.int .i64), (.s 40)), (1, (.int .i64), (.s 44))]⟩, ⟨(some 46), none, .iaa (.int .u32) 2 (.s 5) (.c (.t (.int .i64 0)))⟩, ⟨(some 47), none, .ld (.int .u32) (.s 46)⟩, ⟨(some 48), none, .bin .rem (.s 47) (.c (.t (.int .u32 1000000)))⟩, ⟨(some 49), none, .conv .i64 (.s 48)⟩, ⟨(some 50), none, .iaa (.int .u32) 2 (.s 5) (.c (.t (.int .i64 1)))⟩, ⟨(some 51), none, .ld (.int .u32) (.s 50)⟩, ⟨(some 52), none, .bin .rem (.s 51) (.c (.t (.int .u32 1000000)))⟩, ⟨(some 53), none, .conv .i64 (.s 52)⟩, ⟨(some 54), none, .build [(.t (.int .i64 0)), (.t (.int .i64 0))] [(0, (.int .i64), (.s 49)), (1, (.int .i64), (.s 53))]⟩, ⟨(some 9), none, .new (.agg [(.int .i64), (.int .i64)]) (.t (.agg [(.int .i64 0), (.int .i64 0)]))⟩, ⟨(some 10), none, .new (.agg [(.int .i64), (.int .i64)]) (.t (.agg [(.int .i64 0), (.int .i64 0)]))⟩, ⟨none, none, .st (.agg [(.int .i64), (.int .i64)]) (.s 9) (.s 45)⟩, ⟨none, none, .st (.agg [(.int .i64), (.int .i64)]) (.s 10) (.s 54)⟩] [0, 1, 3, 7, 0, 16, 48, 112, 255, 0, 512, 1536, 3584, 0, 8192, 24576, 57344, 130560, 0, 0, 786943, 2097151])
 (.seq (.reg [⟨(some 55), none, .mov (.s 2)⟩, ⟨(some 56), none, .bin .rem (.s 55) (.c (.t (.int .u32 1000)))⟩, ⟨(some 57), none, .conv .i64 (.s 56)⟩, ⟨(some 58), none, .bin .add (.s 57) (.c (.t (.int .i64 1)))⟩, ⟨(some 11), none, .mov (.s 58)⟩])
 (.seq (.reg [⟨(some 59), none, .iaa (.int .i64) 2 (.s 9) (.c (.t (.int .i64 0)))⟩, ⟨(some 60), none, .ld (.int .i64) (.s 59)⟩, ⟨(some 61), none, .mov (.s 11)⟩, ⟨(some 62), none, .bin .add (.s 60) (.s 61)⟩, ⟨(some 63), none, .iaa (.int .i64) 2 (.s 9) (.c (.t (.int .i64 1)))⟩, ⟨(some 64), none, .ld (.int .i64) (.s 63)⟩, ⟨(some 65), none, .mov (.s 11)⟩, ⟨(some 66), none, .bin .add (.s 64) (.s 65)⟩, ⟨(some 67), none, .build [(.t (.int .i64 0)), (.t (.int .i64 0))] [(0, (.int .i64), (.s 62)), (1, (.int .i64), (.s 66))]⟩, ⟨(some 12), none, .new (.agg [(.int .i64), (.int .i64)]) (.t (.agg [(.int .i64 0), (.int .i64 0)]))⟩, ⟨none, none, .st (.agg [(.int .i64), (.int .i64)]) (.s 12) (.s 67)⟩])
 (.seq (.reg [⟨(some 69), none, .ld (.agg [(.int .i64), (.int .i64)]) (.s 9)⟩, ⟨(some 70), none, .ld (.agg [(.int .i64), (.int .i64)]) (.s 12)⟩, ⟨(some 71), none, .call false 14 (.tup [.bool, (.int .i64)]) [(.s 69), (.s 70)]⟩, ⟨(some 68), none, .mov (.s 71)⟩, ⟨(some 72), none, .ext 0 (.s 68)⟩, ⟨(some 73), none, .ext 1 (.s 68)⟩, ⟨(some 13), none, .mov (.s 72)⟩, ⟨(some 14), none, .mov (.s 73)⟩])
 (.seq (.reg [⟨(some 75), none, .ld (.agg [(.int .i64), (.int .i64)]) (.s 9)⟩, ⟨(some 76), none, .ld (.agg [(.int .i64), (.int .i64)]) (.s 10)⟩, ⟨(some 77), none, .call false 12 (.tup [(.agg [(.int .i64), (.int .i64)]), (.int .i64)]) [(.s 75), (.s 76)]⟩, ⟨(some 74), none, .mov (.s 77)⟩, ⟨(some 78), none, .ext 0 (.s 74)⟩, ⟨(some 79), none, .ext 1 (.s 74)⟩, ⟨(some 15), none, .new (.agg [(.int .i64), (.int .i64)]) (.t (.agg [(.int .i64 0), (.int .i64 0)]))⟩, ⟨none, none, .st (.agg [(.int .i64), (.int .i64)]) (.s 15) (.s 78)⟩, ⟨(some 16), none, .mov (.s 79)⟩])
 (.seq (.reg [⟨(some 81), none, .ld (.agg [(.int .i64), (.int .i64)]) (.s 12)⟩, ⟨(some 82), none, .ld (.agg [(.int .i64), (.int .i64)]) (.s 10)⟩, ⟨(some 83), none, .call false 12 (.tup [(.agg [(.int .i64), (.int .i64)]), (.int .i64)]) [(.s 81), (.s 82)]⟩, ⟨(some 80), none, .mov (.s 83)⟩, ⟨(some 84), none, .ext 0 (.s 80)⟩, ⟨(some 85), none, .ext 1 (.s 80)⟩, ⟨(some 17), none, .new (.agg [(.int .i64), (.int .i64)]) (.t (.agg [(.int .i64 0), (.int .i64 0)]))⟩, ⟨none, none, .st (.agg [(.int .i64), (.int .i64)]) (.s 17) (.s 84)⟩, ⟨(some 18), none, .mov (.s 85)⟩])
 (.seq (.seq (.reg [⟨(some 86), none, .mov (.s 14)⟩, ⟨(some 87), none, .bin .neq (.s 86) (.c (.t (.int .i64 0)))⟩, ⟨(some 88), none, .mov (.s 87)⟩, ⟨(some 89), (some (88, false)), .mov (.s 13)⟩, ⟨(some 90), (some (88, false)), .un .not (.s 89)⟩, ⟨(some 91), none, .pick (.s 88) (.c (.t (.bool true))) (.s 90)⟩, ⟨(some 92), none, .mov (.s 91)⟩, ⟨(some 93), (some (92, false)), .ld (.agg [(.int .i64), (.int .i64)]) (.s 15)⟩, ⟨(some 94), (some (92, false)), .ld (.agg [(.int .i64), (.int .i64)]) (.s 17)⟩, ⟨(some 95), (some (92, false)), .eqs true (.agg [(.int .i64), (.int .i64)]) (.s 93) (.s 94)⟩, ⟨(some 96), none, .pick (.s 92) (.c (.t (.bool true))) (.s 95)⟩, ⟨(some 97), none, .mov (.s 96)⟩, ⟨(some 98), (some (97, false)), .mov (.s 16)⟩, ⟨(some 99), (some (97, false)), .mov (.s 18)⟩, ⟨(some 100), (some (97, false)), .bin .neq (.s 98) (.s 99)⟩, ⟨(some 101), none, .pick (.s 97) (.c (.t (.bool true))) (.s 100)⟩])
 (.cond (.s 101)
 (.seq (.reg [⟨(some 8), none, .mov (.c (.t (.bool false)))⟩])
 .ret)
 .skip))
 (.seq (.dreg [⟨(some 102), none, .iaa (.int .i64) 2 (.s 9) (.c (.t (.int .i64 0)))⟩, ⟨(some 103), none, .ld (.int .i64) (.s 102)⟩, ⟨(some 104), none, .iaa (.int .i64) 2 (.s 10) (.c (.t (.int .i64 0)))⟩, ⟨(some 105), none, .ld (.int .i64) (.s 104)⟩, ⟨(some 106), none, .bin .add (.s 105) (.c (.t (.int .i64 1)))⟩, ⟨(some 107), none, .build [(.t (.int .i64 0)), (.t (.int .i64 0))] [(0, (.int .i64), (.s 103)), (1, (.int .i64), (.s 106))]⟩, ⟨(some 108), none, .iaa (.int .i64) 2 (.s 9) (.c (.t (.int .i64 0)))⟩, ⟨(some 109), none, .ld (.int .i64) (.s 108)⟩, ⟨(some 110), none, .un .neg (.s 109)⟩, ⟨(some 111), none, .mov (.s 11)⟩, ⟨(some 112), none, .bin .mul (.s 110) (.s 111)⟩, ⟨(some 113), none, .iaa (.int .i64) 2 (.s 10) (.c (.t (.int .i64 0)))⟩, ⟨(some 114), none, .ld (.int .i64) (.s 113)⟩, ⟨(some 115), none, .bin .add (.s 114) (.c (.t (.int .i64 1)))⟩, ⟨(some 116), none, .un .neg (.s 115)⟩, ⟨(some 117), none, .mov (.s 11)⟩, ⟨(some 118), none, .bin .mul (.s 116) (.s 117)⟩, ⟨(some 119), none, .build [(.t (.int .i64 0)), (.t (.int .i64 0))] [(0, (.int .i64), (.s 112)), (1, (.int .i64), (.s 118))]⟩, ⟨(some 19), none, .new (.agg [(.int .i64), (.int .i64)]) (.t (.agg [(.int .i64 0), (.int .i64 0)]))⟩, ⟨(some 20), none, .new (.agg [(.int .i64), (.int .i64)]) (.t (.agg [(.int .i64 0), (.int .i64 0)]))⟩, ⟨none, none, .st (.agg [(.int .i64), (.int .i64)]) (.s 19) (.s 107)⟩, ⟨none, none, .st (.agg [(.int .i64), (.int .i64)]) (.s 20) (.s 119)⟩] [0, 1, 0, 4, 12, 31, 0, 64, 192, 0, 960, 0, 2048, 6144, 14336, 0, 63488, 131008, 0, 0, 786495, 2097151])
 (.seq (.reg [⟨(some 121), none, .ld (.agg [(.int .i64), (.int .i64)]) (.s 19)⟩, ⟨(some 122), none, .iaa (.int .i64) 2 (.s 10) (.c (.t (.int .i64 1)))⟩, ⟨(some 123), none, .ld (.int .i64) (.s 122)⟩, ⟨(some 124), none, .build [(.t (.int .i64 0)), (.t (.int .i64 0))] [(0, (.int .i64), (.s 123)), (1, (.int .i64), (.c (.t (.int .i64 7))))]⟩, ⟨(some 125), none, .call false 25 (.tup [(.agg [(.int .i64), (.int .i64)]), (.int .i64)]) [(.s 121), (.s 124)]⟩, ⟨(some 120), none, .mov (.s 125)⟩, ⟨(some 126), none, .ext 0 (.s 120)⟩, ⟨(some 127), none, .ext 1 (.s 120)⟩, ⟨(some 21), none, .new (.agg [(.int .i64), (.int .i64)]) (.t (.agg [(.int .i64 0), (.int .i64 0)]))⟩, ⟨none, none, .st (.agg [(.int .i64), (.int .i64)]) (.s 21) (.s 126)⟩, ⟨(some 22), none, .mov (.s 127)⟩])
 (.seq (.reg [⟨(some 129), none, .ld (.agg [(.int .i64), (.int .i64)]) (.s 20)⟩, ⟨(some 130), none, .iaa (.int .i64) 2 (.s 10) (.c (.t (.int .i64 1)))⟩, ⟨(some 131), none, .ld (.int .i64) (.s 130)⟩, ⟨(some 132), none, .build [(.t (.int .i64 0)), (.t (.int .i64 0))] [(0, (.int .i64), (.s 131)), (1, (.int .i64), (.c (.t (.int .i64 7))))]⟩, ⟨(some 133), none, .call false 25 (.tup [(.agg [(.int .i64), (.int .i64)]), (.int .i64)]) [(.s 129), (.s 132)]⟩, ⟨(some 128), none, .mov (.s 133)⟩, ⟨(some 134), none, .ext 0 (.s 128)⟩, ⟨(some 135), none, .ext 1 (.s 128)⟩, ⟨(some 23), none, .new (.agg [(.int .i64), (.int .i64)]) (.t (.agg [(.int .i64 0), (.int .i64 0)]))⟩, ⟨none, none, .st (.agg [(.int .i64), (.int .i64)]) (.s 23) (.s 134)⟩, ⟨(some 24), none, .mov (.s 135)⟩])
 (.seq (.seq (.reg [⟨(some 136), none, .ld (.agg [(.int .i64), (.int .i64)]) (.s 21)⟩, ⟨(some 137), none, .ld (.agg [(.int .i64), (.int .i64)]) (.s 23)⟩, ⟨(some 138), none, .eqs true (.agg [(.int .i64), (.int .i64)]) (.s 136) (.s 137)⟩, ⟨(some 139), none, .mov (.s 138)⟩, ⟨(some 140), (some (139, false)), .mov (.s 22)⟩, ⟨(some 141), (some (139, false)), .mov (.s 24)⟩, ⟨(some 142), (some (139, false)), .bin .neq (.s 140) (.s 141)⟩, ⟨(some 143), none, .pick (.s 139) (.c (.t (.bool true))) (.s 142)⟩])
 (.cond (.s 143)
 (.seq (.reg [⟨(some 8), none, .mov (.c (.t (.bool false)))⟩])
 .ret)
 .skip))
 (.seq (.seq (.reg [⟨(some 144), none, .mov (.s 3)⟩, ⟨(some 145), none, .len (.s 144)⟩, ⟨(some 146), none, .bin .gtr (.s 145) (.c (.t (.int .i64 20)))⟩])
 (.cond (.s 146)
 (.seq (.reg [⟨(some 147), none, .call false 15 .bool []⟩, ⟨(some 8), none, .mov (.s 147)⟩])
 .ret)
 .skip))
 (.seq (.reg [⟨(some 25), none, .mov (.c .nilS)⟩, ⟨(some 26), none, .mov (.c .nilS)⟩])
 (.seq (.seq (.reg [⟨(some 27), none, .mov (.c (.t (.int .i64 0)))⟩])
 (.block 0 (.loop [3, 25, 26, 27] (.seq (.seq (.reg [⟨(some 148), none, .mov (.s 27)⟩, ⟨(some 149), none, .mov (.s 3)⟩, ⟨(some 150), none, .len (.s 149)⟩, ⟨(some 151), none, .bin .lss (.s 148) (.s 150)⟩])
 (.cond (.s 151)
 .skip
 (.exit 0)))
 (.seq (.block 1 (.seq (.reg [⟨(some 154), none, .mov (.s 25)⟩, ⟨(some 155), none, .mov (.s 3)⟩, ⟨(some 156), none, .mov (.s 27)⟩, ⟨(some 157), none, .ia (.int .i32) (.s 155) (.s 156)⟩, ⟨(some 158), none, .ld (.int .i32) (.s 157)⟩, ⟨(some 159), none, .conv .i64 (.s 158)⟩, ⟨(some 160), none, .bsl (.int .i64) (.t (.int .i64 0)) 1 [(0, (.s 159))]⟩, ⟨(some 161), none, .app (.int .i64) 8 (.s 154) (.s 160)⟩, ⟨(some 25), none, .mov (.s 161)⟩])
 (.reg [⟨(some 162), none, .mov (.s 3)⟩, ⟨(some 163), none, .mov (.s 27)⟩, ⟨(some 164), none, .ia (.int .i32) (.s 162) (.s 163)⟩, ⟨(some 165), none, .ld (.int .i32) (.s 164)⟩, ⟨(some 166), none, .conv .i64 (.s 165)⟩, ⟨(some 167), none, .bsl (.int .i64) (.t (.int .i64 0)) 1 [(0, (.s 166))]⟩, ⟨(some 168), none, .mov (.s 26)⟩, ⟨(some 169), none, .app (.int .i64) 8 (.s 167) (.s 168)⟩, ⟨(some 26), none, .mov (.s 169)⟩])))
 (.reg [⟨(some 152), none, .mov (.s 27)⟩, ⟨(some 153), none, .bin .add (.s 152) (.c (.t (.int .i64 1)))⟩, ⟨(some 27), none, .mov (.s 153)⟩]))))))
 (.seq (.seq (.reg [⟨(some 28), none, .mov (.c (.t (.int .i64 1)))⟩])
 (.block 2 (.loop [25, 26, 28] (.seq (.seq (.reg [⟨(some 170), none, .mov (.s 28)⟩, ⟨(some 171), none, .bin .leq (.s 170) (.c (.t (.int .i64 4)))⟩])
 (.cond (.s 171)
 .skip
 (.exit 2)))
 (.seq (.block 3 (.seq (.reg [⟨(some 175), none, .mov (.s 25)⟩, ⟨(some 176), none, .mov (.s 28)⟩, ⟨(some 177), none, .call false 34 (.tup [(.int .i64), (.int .i64)]) [(.s 175), (.s 176)]⟩, ⟨(some 174), none, .mov (.s 177)⟩, ⟨(some 178), none, .ext 0 (.s 174)⟩, ⟨(some 179), none, .ext 1 (.s 174)⟩, ⟨(some 29), none, .mov (.s 178)⟩, ⟨(some 30), none, .mov (.s 179)⟩])
 (.seq (.reg [⟨(some 181), none, .mov (.s 26)⟩, ⟨(some 182), none, .mov (.s 28)⟩, ⟨(some 183), none, .call false 34 (.tup [(.int .i64), (.int .i64)]) [(.s 181), (.s 182)]⟩, ⟨(some 180), none, .mov (.s 183)⟩, ⟨(some 184), none, .ext 0 (.s 180)⟩, ⟨(some 185), none, .ext 1 (.s 180)⟩, ⟨(some 31), none, .mov (.s 184)⟩, ⟨(some 32), none, .mov (.s 185)⟩])
 (.seq (.reg [⟨(some 186), none, .mov (.s 29)⟩, ⟨(some 187), none, .mov (.s 31)⟩, ⟨(some 188), none, .bin .neq (.s 186) (.s 187)⟩, ⟨(some 189), none, .mov (.s 188)⟩, ⟨(some 190), (some (189, false)), .mov (.s 30)⟩, ⟨(some 191), (some (189, false)), .bin .neq (.s 190) (.c (.t (.int .i64 0)))⟩, ⟨(some 192), none, .pick (.s 189) (.c (.t (.bool true))) (.s 191)⟩, ⟨(some 193), none, .mov (.s 192)⟩, ⟨(some 194), (some (193, false)), .mov (.s 32)⟩, ⟨(some 195), (some (193, false)), .bin .neq (.s 194) (.c (.t (.int .i64 0)))⟩, ⟨(some 196), none, .pick (.s 193) (.c (.t (.bool true))) (.s 195)⟩])
 (.cond (.s 196)
 (.seq (.reg [⟨(some 8), none, .mov (.c (.t (.bool false)))⟩])
 .ret)
 .skip)))))
 (.reg [⟨(some 172), none, .mov (.s 28)⟩, ⟨(some 173), none, .bin .add (.s 172) (.c (.t (.int .i64 1)))⟩, ⟨(some 28), none, .mov (.s 173)⟩]))))))
 (.seq (.reg [⟨(some 198), none, .mov (.s 25)⟩, ⟨(some 199), none, .call false 41 (.tup [.slc, (.int .i64)]) [(.s 198)]⟩, ⟨(some 197), none, .mov (.s 199)⟩, ⟨(some 200), none, .ext 0 (.s 197)⟩, ⟨(some 201), none, .ext 1 (.s 197)⟩, ⟨(some 33), none, .mov (.s 200)⟩, ⟨(some 34), none, .mov (.s 201)⟩])
 (.seq (.reg [⟨(some 203), none, .mov (.s 26)⟩, ⟨(some 204), none, .call false 41 (.tup [.slc, (.int .i64)]) [(.s 203)]⟩, ⟨(some 202), none, .mov (.s 204)⟩, ⟨(some 205), none, .ext 0 (.s 202)⟩, ⟨(some 206), none, .ext 1 (.s 202)⟩, ⟨(some 35), none, .mov (.s 205)⟩, ⟨(some 36), none, .mov (.s 206)⟩])
 (.seq (.reg [⟨(some 207), none, .mov (.s 34)⟩, ⟨(some 208), none, .bin .eql (.s 207) (.c (.t (.int .i64 0)))⟩, ⟨(some 209), none, .mov (.s 208)⟩, ⟨(some 210), (some (209, true)), .mov (.s 36)⟩, ⟨(some 211), (some (209, true)), .bin .eql (.s 210) (.c (.t (.int .i64 0)))⟩, ⟨(some 212), none, .pick (.s 209) (.s 211) (.c (.t (.bool false)))⟩, ⟨(some 213), none, .mov (.s 212)⟩, ⟨(some 214), (some (213, true)), .mov (.s 33)⟩, ⟨(some 215), (some (213, true)), .mov (.s 35)⟩, ⟨(some 216), (some (213, true)), .call false 38 .bool [(.s 214), (.s 215)]⟩, ⟨(some 217), none, .pick (.s 213) (.s 216) (.c (.t (.bool false)))⟩, ⟨(some 218), none, .mov (.s 217)⟩, ⟨(some 219), (some (218, true)), .call false 15 .bool []⟩, ⟨(some 220), none, .pick (.s 218) (.s 219) (.c (.t (.bool false)))⟩, ⟨(some 8), none, .mov (.s 220)⟩])
 .ret))))))))))))))))))),
 [.slot 8]⟩
theorem ok9 : compF Try.prog 9 [[3, 25, 26, 27], [25, 26, 28]] [] = some ir9 := by kernel_rfl

/-- tenet/quot.IntAdd -/
def ir10 : FInfo := ⟨32,
 (.seq (.reg [⟨(some 2), none, .box (.agg [(.int .i64), (.int .i64)]) (.s 0)⟩, ⟨(some 3), none, .box (.agg [(.int .i64), (.int .i64)]) (.s 1)⟩, ⟨(some 4), none, .new (.agg [(.int .i64), (.int .i64)]) (.t (.agg [(.int .i64 0), (.int .i64 0)]))⟩, ⟨(some 5), none, .mov (.c (.t (.int .i64 0)))⟩])
 (.seq (.seq (.reg [⟨(some 6), none, .iaa (.int .i64) 2 (.s 2) (.c (.t (.int .i64 0)))⟩, ⟨(some 7), none, .ld (.int .i64) (.s 6)⟩, ⟨(some 8), none, .iaa (.int .i64) 2 (.s 2) (.c (.t (.int .i64 1)))⟩, ⟨(some 9), none, .ld (.int .i64) (.s 8)⟩, ⟨(some 10), none, .iaa (.int .i64) 2 (.s 3) (.c (.t (.int .i64 0)))⟩, ⟨(some 11), none, .ld (.int .i64) (.s 10)⟩, ⟨(some 12), none, .iaa (.int .i64) 2 (.s 3) (.c (.t (.int .i64 1)))⟩, ⟨(some 13), none, .ld (.int .i64) (.s 12)⟩, ⟨(some 14), none, .bsl (.int .i64) (.t (.int .i64 0)) 4 [(0, (.s 7)), (1, (.s 9)), (2, (.s 11)), (3, (.s 13))]⟩, ⟨(some 15), none, .call false 49 .bool [(.s 14)]⟩, ⟨(some 16), none, .un .not (.s 15)⟩])
 (.cond (.s 16)
 (.seq (.reg [⟨(some 17), none, .build [(.t (.int .i64 0)), (.t (.int .i64 0))] []⟩, ⟨none, none, .st (.agg [(.int .i64), (.int .i64)]) (.s 4) (.s 17)⟩, ⟨(some 5), none, .mov (.c (.t (.int .i64 4)))⟩])
 .ret)
 .skip))
 (.seq (.reg [⟨(some 18), none, .iaa (.int .i64) 2 (.s 2) (.c (.t (.int .i64 0)))⟩, ⟨(some 19), none, .ld (.int .i64) (.s 18)⟩, ⟨(some 20), none, .iaa (.int .i64) 2 (.s 2) (.c (.t (.int .i64 1)))⟩, ⟨(some 21), none, .ld (.int .i64) (.s 20)⟩, ⟨(some 22), none, .bin .sub (.s 19) (.s 21)⟩, ⟨(some 23), none, .iaa (.int .i64) 2 (.s 3) (.c (.t (.int .i64 0)))⟩, ⟨(some 24), none, .ld (.int .i64) (.s 23)⟩, ⟨(some 25), none, .bin .add (.s 22) (.s 24)⟩, ⟨(some 26), none, .iaa (.int .i64) 2 (.s 3) (.c (.t (.int .i64 1)))⟩, ⟨(some 27), none, .ld (.int .i64) (.s 26)⟩, ⟨(some 28), none, .bin .sub (.s 25) (.s 27)⟩, ⟨(some 29), none, .call false 50 (.tup [(.agg [(.int .i64), (.int .i64)]), (.int .i64)]) [(.s 28)]⟩, ⟨(some 30), none, .ext 0 (.s 29)⟩, ⟨(some 31), none, .ext 1 (.s 29)⟩, ⟨none, none, .st (.agg [(.int .i64), (.int .i64)]) (.s 4) (.s 30)⟩, ⟨(some 5), none, .mov (.s 31)⟩])
 .ret))),
 [.cell 4 (.agg [(.int .i64), (.int .i64)]), .slot 5]⟩
theorem ok10 : compF Try.prog 10 [] [] = some ir10 := by kernel_rfl

/-- tenet/quot.IntNeg -/
def ir11 : FInfo := ⟨20,
 (.seq (.reg [⟨(some 1), none, .box (.agg [(.int .i64), (.int .i64)]) (.s 0)⟩, ⟨(some 2), none, .new (.agg [(.int .i64), (.int .i64)]) (.t (.agg [(.int .i64 0), (.int .i64 0)]))⟩, ⟨(some 3), none, .mov (.c (.t (.int .i64 0)))⟩])
 (.seq (.seq (.reg [⟨(some 4), none, .iaa (.int .i64) 2 (.s 1) (.c (.t (.int .i64 0)))⟩, ⟨(some 5), none, .ld (.int .i64) (.s 4)⟩, ⟨(some 6), none, .iaa (.int .i64) 2 (.s 1) (.c (.t (.int .i64 1)))⟩, ⟨(some 7), none, .ld (.int .i64) (.s 6)⟩, ⟨(some 8), none, .bsl (.int .i64) (.t (.int .i64 0)) 2 [(0, (.s 5)), (1, (.s 7))]⟩, ⟨(some 9), none, .call false 49 .bool [(.s 8)]⟩, ⟨(some 10), none, .un .not (.s 9)⟩])
 (.cond (.s 10)
 (.seq (.reg [⟨(some 11), none, .build [(.t (.int .i64 0)), (.t (.int .i64 0))] []⟩, ⟨none, none, .st (.agg [(.int .i64), (.int .i64)]) (.s 2) (.s 11)⟩, ⟨(some 3), none, .mov (.c (.t (.int .i64 4)))⟩])
 .ret)
 .skip))
 (.seq (.reg [⟨(some 12), none, .iaa (.int .i64) 2 (.s 1) (.c (.t (.int .i64 1)))⟩, ⟨(some 13), none, .ld (.int .i64) (.s 12)⟩, ⟨(some 14), none, .iaa (.int .i64) 2 (.s 1) (.c (.t (.int .i64 0)))⟩, ⟨(some 15), none, .ld (.int .i64) (.s 14)⟩, ⟨(some 16), none, .bin .sub (.s 13) (.s 15)⟩, ⟨(some 17), none, .call false 50 (.tup [(.agg [(.int .i64), (.int .i64)]), (.int .i64)]) [(.s 16)]⟩, ⟨(some 18), none, .ext 0 (.s 17)⟩, ⟨(some 19), none, .ext 1 (.s 17)⟩, ⟨none, none, .st (.agg [(.int .i64), (.int .i64)]) (.s 2) (.s 18)⟩, ⟨(some 3), none, .mov (.s 19)⟩])
 .ret))),
 [.cell 2 (.agg [(.int .i64), (.int .i64)]), .slot 3]⟩
theorem ok11 : compF Try.prog 11 [] [] = some ir11 := by kernel_rfl

/-- tenet/quot.IntMul -/
def ir12 : FInfo := ⟨42,
 (.seq (.reg [⟨(some 2), none, .box (.agg [(.int .i64), (.int .i64)]) (.s 0)⟩, ⟨(some 3), none, .box (.agg [(.int .i64), (.int .i64)]) (.s 1)⟩, ⟨(some 4), none, .new (.agg [(.int .i64), (.int .i64)]) (.t (.agg [(.int .i64 0), (.int .i64 0)]))⟩, ⟨(some 5), none, .mov (.c (.t (.int .i64 0)))⟩])
 (.seq (.seq (.reg [⟨(some 8), none, .iaa (.int .i64) 2 (.s 2) (.c (.t (.int .i64 0)))⟩, ⟨(some 9), none, .ld (.int .i64) (.s 8)⟩, ⟨(some 10), none, .iaa (.int .i64) 2 (.s 2) (.c (.t (.int .i64 1)))⟩, ⟨(some 11), none, .ld (.int .i64) (.s 10)⟩, ⟨(some 12), none, .iaa (.int .i64) 2 (.s 3) (.c (.t (.int .i64 0)))⟩, ⟨(some 13), none, .ld (.int .i64) (.s 12)⟩, ⟨(some 14), none, .iaa (.int .i64) 2 (.s 3) (.c (.t (.int .i64 1)))⟩, ⟨(some 15), none, .ld (.int .i64) (.s 14)⟩, ⟨(some 16), none, .bsl (.int .i64) (.t (.int .i64 0)) 4 [(0, (.s 9)), (1, (.s 11)), (2, (.s 13)), (3, (.s 15))]⟩, ⟨(some 17), none, .call false 49 .bool [(.s 16)]⟩, ⟨(some 18), none, .un .not (.s 17)⟩])
 (.cond (.s 18)
 (.seq (.reg [⟨(some 19), none, .build [(.t (.int .i64 0)), (.t (.int .i64 0))] []⟩, ⟨none, none, .st (.agg [(.int .i64), (.int .i64)]) (.s 4) (.s 19)⟩, ⟨(some 5), none, .mov (.c (.t (.int .i64 4)))⟩])
 .ret)
 .skip))
 (.seq (.reg [⟨(some 21), none, .iaa (.int .i64) 2 (.s 2) (.c (.t (.int .i64 0)))⟩, ⟨(some 22), none, .ld (.int .i64) (.s 21)⟩, ⟨(some 23), none, .iaa (.int .i64) 2 (.s 2) (.c (.t (.int .i64 1)))⟩, ⟨(some 24), none, .ld (.int .i64) (.s 23)⟩, ⟨(some 25), none, .bin .sub (.s 22) (.s 24)⟩, ⟨(some 26), none, .iaa (.int .i64) 2 (.s 3) (.c (.t (.int .i64 0)))⟩, ⟨(some 27), none, .ld (.int .i64) (.s 26)⟩, ⟨(some 28), none, .iaa (.int .i64) 2 (.s 3) (.c (.t (.int .i64 1)))⟩, ⟨(some 29), none, .ld (.int .i64) (.s 28)⟩, ⟨(some 30), none, .bin .sub (.s 27) (.s 29)⟩, ⟨(some 31), none, .call false 51 (.agg [.bool, (.int .u64), (.int .u64)]) [(.s 25), (.s 30)]⟩, ⟨(some 32), none, .call false 52 (.tup [(.int .i64), .bool]) [(.s 31)]⟩, ⟨(some 20), none, .mov (.s 32)⟩, ⟨(some 33), none, .ext 0 (.s 20)⟩, ⟨(some 34), none, .ext 1 (.s 20)⟩, ⟨(some 6), none, .mov (.s 33)⟩, ⟨(some 7), none, .mov (.s 34)⟩])
 (.seq (.seq (.reg [⟨(some 35), none, .mov (.s 7)⟩, ⟨(some 36), none, .un .not (.s 35)⟩])
 (.cond (.s 36)
 (.seq (.reg [⟨(some 37), none, .build [(.t (.int .i64 0)), (.t (.int .i64 0))] []⟩, ⟨none, none, .st (.agg [(.int .i64), (.int .i64)]) (.s 4) (.s 37)⟩, ⟨(some 5), none, .mov (.c (.t (.int .i64 2)))⟩])
 .ret)
 .skip))
 (.seq (.reg [⟨(some 38), none, .mov (.s 6)⟩, ⟨(some 39), none, .call false 50 (.tup [(.agg [(.int .i64), (.int .i64)]), (.int .i64)]) [(.s 38)]⟩, ⟨(some 40), none, .ext 0 (.s 39)⟩, ⟨(some 41), none, .ext 1 (.s 39)⟩, ⟨none, none, .st (.agg [(.int .i64), (.int .i64)]) (.s 4) (.s 40)⟩, ⟨(some 5), none, .mov (.s 41)⟩])
 .ret))))),
 [.cell 4 (.agg [(.int .i64), (.int .i64)]), .slot 5]⟩
theorem ok12 : compF Try.prog 12 [] [] = some ir12 := by kernel_rfl

/-- tenet/quot.IntLeq -/
def ir13 : FInfo := ⟨28,
 (.seq (.reg [⟨(some 2), none, .box (.agg [(.int .i64), (.int .i64)]) (.s 0)⟩, ⟨(some 3), none, .box (.agg [(.int .i64), (.int .i64)]) (.s 1)⟩, ⟨(some 4), none, .mov (.c (.t (.bool false)))⟩, ⟨(some 5), none, .mov (.c (.t (.int .i64 0)))⟩])
 (.seq (.seq (.reg [⟨(some 6), none, .iaa (.int .i64) 2 (.s 2) (.c (.t (.int .i64 0)))⟩, ⟨(some 7), none, .ld (.int .i64) (.s 6)⟩, ⟨(some 8), none, .iaa (.int .i64) 2 (.s 2) (.c (.t (.int .i64 1)))⟩, ⟨(some 9), none, .ld (.int .i64) (.s 8)⟩, ⟨(some 10), none, .iaa (.int .i64) 2 (.s 3) (.c (.t (.int .i64 0)))⟩, ⟨(some 11), none, .ld (.int .i64) (.s 10)⟩, ⟨(some 12), none, .iaa (.int .i64) 2 (.s 3) (.c (.t (.int .i64 1)))⟩, ⟨(some 13), none, .ld (.int .i64) (.s 12)⟩, ⟨(some 14), none, .bsl (.int .i64) (.t (.int .i64 0)) 4 [(0, (.s 7)), (1, (.s 9)), (2, (.s 11)), (3, (.s 13))]⟩, ⟨(some 15), none, .call false 49 .bool [(.s 14)]⟩, ⟨(some 16), none, .un .not (.s 15)⟩])
 (.cond (.s 16)
 (.seq (.reg [⟨(some 4), none, .mov (.c (.t (.bool false)))⟩, ⟨(some 5), none, .mov (.c (.t (.int .i64 4)))⟩])
 .ret)
 .skip))
 (.seq (.reg [⟨(some 17), none, .iaa (.int .i64) 2 (.s 2) (.c (.t (.int .i64 0)))⟩, ⟨(some 18), none, .ld (.int .i64) (.s 17)⟩, ⟨(some 19), none, .iaa (.int .i64) 2 (.s 2) (.c (.t (.int .i64 1)))⟩, ⟨(some 20), none, .ld (.int .i64) (.s 19)⟩, ⟨(some 21), none, .bin .sub (.s 18) (.s 20)⟩, ⟨(some 22), none, .iaa (.int .i64) 2 (.s 3) (.c (.t (.int .i64 0)))⟩, ⟨(some 23), none, .ld (.int .i64) (.s 22)⟩, ⟨(some 24), none, .iaa (.int .i64) 2 (.s 3) (.c (.t (.int .i64 1)))⟩, ⟨(some 25), none, .ld (.int .i64) (.s 24)⟩, ⟨(some 26), none, .bin .sub (.s 23) (.s 25)⟩, ⟨(some 27), none, .bin .leq (.s 21) (.s 26)⟩, ⟨(some 4), none, .mov (.s 27)⟩, ⟨(some 5), none, .mov (.c (.t (.int .i64 0)))⟩])
 .ret))),
 [.slot 4, .slot 5]⟩
theorem ok13 : compF Try.prog 13 [] [] = some ir13 := by kernel_rfl

/-- tenet/quot.IntSame -/
def ir14 : FInfo := ⟨28,
 (.seq (.reg [⟨(some 2), none, .box (.agg [(.int .i64), (.int .i64)]) (.s 0)⟩, ⟨(some 3), none, .box (.agg [(.int .i64), (.int .i64)]) (.s 1)⟩, ⟨(some 4), none, .mov (.c (.t (.bool false)))⟩, ⟨(some 5), none, .mov (.c (.t (.int .i64 0)))⟩])
 (.seq (.seq (.reg [⟨(some 6), none, .iaa (.int .i64) 2 (.s 2) (.c (.t (.int .i64 0)))⟩, ⟨(some 7), none, .ld (.int .i64) (.s 6)⟩, ⟨(some 8), none, .iaa (.int .i64) 2 (.s 2) (.c (.t (.int .i64 1)))⟩, ⟨(some 9), none, .ld (.int .i64) (.s 8)⟩, ⟨(some 10), none, .iaa (.int .i64) 2 (.s 3) (.c (.t (.int .i64 0)))⟩, ⟨(some 11), none, .ld (.int .i64) (.s 10)⟩, ⟨(some 12), none, .iaa (.int .i64) 2 (.s 3) (.c (.t (.int .i64 1)))⟩, ⟨(some 13), none, .ld (.int .i64) (.s 12)⟩, ⟨(some 14), none, .bsl (.int .i64) (.t (.int .i64 0)) 4 [(0, (.s 7)), (1, (.s 9)), (2, (.s 11)), (3, (.s 13))]⟩, ⟨(some 15), none, .call false 49 .bool [(.s 14)]⟩, ⟨(some 16), none, .un .not (.s 15)⟩])
 (.cond (.s 16)
 (.seq (.reg [⟨(some 4), none, .mov (.c (.t (.bool false)))⟩, ⟨(some 5), none, .mov (.c (.t (.int .i64 4)))⟩])
 .ret)
 .skip))
 (.seq (.reg [⟨(some 17), none, .iaa (.int .i64) 2 (.s 2) (.c (.t (.int .i64 0)))⟩, ⟨(some 18), none, .ld (.int .i64) (.s 17)⟩, ⟨(some 19), none, .iaa (.int .i64) 2 (.s 2) (.c (.t (.int .i64 1)))⟩, ⟨(some 20), none, .ld (.int .i64) (.s 19)⟩, ⟨(some 21), none, .bin .sub (.s 18) (.s 20)⟩, ⟨(some 22), none, .iaa (.int .i64) 2 (.s 3) (.c (.t (.int .i64 0)))⟩, ⟨(some 23), none, .ld (.int .i64) (.s 22)⟩, ⟨(some 24), none, .iaa (.int .i64) 2 (.s 3) (.c (.t (.int .i64 1)))⟩, ⟨(some 25), none, .ld (.int .i64) (.s 24)⟩, ⟨(some 26), none, .bin .sub (.s 23) (.s 25)⟩, ⟨(some 27), none, .bin .eql (.s 21) (.s 26)⟩, ⟨(some 4), none, .mov (.s 27)⟩, ⟨(some 5), none, .mov (.c (.t (.int .i64 0)))⟩])
 .ret))),
 [.slot 4, .slot 5]⟩
theorem ok14 : compF Try.prog 14 [] [] = some ir14 := by kernel_rfl

/-- tenet/tenetlaw23.awake -/
def ir15 : FInfo := ⟨16,
 (.seq (.reg [⟨(some 0), none, .mov (.c (.t (.bool false)))⟩])
 (.seq (.reg [⟨(some 4), none, .build [(.t (.int .i64 0)), (.t (.int .i64 0))] [(0, (.int .i64), (.c (.t (.int .i64 0)))), (1, (.int .i64), (.c (.t (.int .i64 3))))]⟩, ⟨(some 5), none, .build [(.t (.int .i64 0)), (.t (.int .i64 0))] [(0, (.int .i64), (.c (.t (.int .i64 2)))), (1, (.int .i64), (.c (.t (.int .i64 5))))]⟩, ⟨(some 6), none, .call false 12 (.tup [(.agg [(.int .i64), (.int .i64)]), (.int .i64)]) [(.s 4), (.s 5)]⟩, ⟨(some 3), none, .mov (.s 6)⟩, ⟨(some 7), none, .ext 0 (.s 3)⟩, ⟨(some 8), none, .ext 1 (.s 3)⟩, ⟨(some 1), none, .new (.agg [(.int .i64), (.int .i64)]) (.t (.agg [(.int .i64 0), (.int .i64 0)]))⟩, ⟨none, none, .st (.agg [(.int .i64), (.int .i64)]) (.s 1) (.s 7)⟩, ⟨(some 2), none, .mov (.s 8)⟩])
 (.seq (.reg [⟨(some 9), none, .mov (.s 2)⟩, ⟨(some 10), none, .bin .eql (.s 9) (.c (.t (.int .i64 0)))⟩, ⟨(some 11), none, .mov (.s 10)⟩, ⟨(some 12), (some (11, true)), .ld (.agg [(.int .i64), (.int .i64)]) (.s 1)⟩, ⟨(some 13), (some (11, true)), .build [(.t (.int .i64 0)), (.t (.int .i64 0))] [(0, (.int .i64), (.c (.t (.int .i64 9)))), (1, (.int .i64), (.c (.t (.int .i64 0))))]⟩, ⟨(some 14), (some (11, true)), .eqs false (.agg [(.int .i64), (.int .i64)]) (.s 12) (.s 13)⟩, ⟨(some 15), none, .pick (.s 11) (.s 14) (.c (.t (.bool false)))⟩, ⟨(some 0), none, .mov (.s 15)⟩])
 .ret))),
 [.slot 0]⟩
theorem ok15 : compF Try.prog 15 [] [] = some ir15 := by kernel_rfl

/-- tenet/quot.IntNormal -/
def ir16 : FInfo := ⟨20,
 (.seq (.reg [⟨(some 1), none, .box (.agg [(.int .i64), (.int .i64)]) (.s 0)⟩, ⟨(some 2), none, .new (.agg [(.int .i64), (.int .i64)]) (.t (.agg [(.int .i64 0), (.int .i64 0)]))⟩, ⟨(some 3), none, .mov (.c (.t (.int .i64 0)))⟩])
 (.seq (.seq (.reg [⟨(some 4), none, .iaa (.int .i64) 2 (.s 1) (.c (.t (.int .i64 0)))⟩, ⟨(some 5), none, .ld (.int .i64) (.s 4)⟩, ⟨(some 6), none, .iaa (.int .i64) 2 (.s 1) (.c (.t (.int .i64 1)))⟩, ⟨(some 7), none, .ld (.int .i64) (.s 6)⟩, ⟨(some 8), none, .bsl (.int .i64) (.t (.int .i64 0)) 2 [(0, (.s 5)), (1, (.s 7))]⟩, ⟨(some 9), none, .call false 49 .bool [(.s 8)]⟩, ⟨(some 10), none, .un .not (.s 9)⟩])
 (.cond (.s 10)
 (.seq (.reg [⟨(some 11), none, .build [(.t (.int .i64 0)), (.t (.int .i64 0))] []⟩, ⟨none, none, .st (.agg [(.int .i64), (.int .i64)]) (.s 2) (.s 11)⟩, ⟨(some 3), none, .mov (.c (.t (.int .i64 4)))⟩])
 .ret)
 .skip))
 (.seq (.reg [⟨(some 12), none, .iaa (.int .i64) 2 (.s 1) (.c (.t (.int .i64 0)))⟩, ⟨(some 13), none, .ld (.int .i64) (.s 12)⟩, ⟨(some 14), none, .iaa (.int .i64) 2 (.s 1) (.c (.t (.int .i64 1)))⟩, ⟨(some 15), none, .ld (.int .i64) (.s 14)⟩, ⟨(some 16), none, .bin .sub (.s 13) (.s 15)⟩, ⟨(some 17), none, .call false 50 (.tup [(.agg [(.int .i64), (.int .i64)]), (.int .i64)]) [(.s 16)]⟩, ⟨(some 18), none, .ext 0 (.s 17)⟩, ⟨(some 19), none, .ext 1 (.s 17)⟩, ⟨none, none, .st (.agg [(.int .i64), (.int .i64)]) (.s 2) (.s 18)⟩, ⟨(some 3), none, .mov (.s 19)⟩])
 .ret))),
 [.cell 2 (.agg [(.int .i64), (.int .i64)]), .slot 3]⟩
theorem ok16 : compF Try.prog 16 [] [] = some ir16 := by kernel_rfl

/-- tenet/tenetref23.IntNormal -/
def ir17 : FInfo := ⟨16,
 (.seq (.reg [⟨(some 1), none, .box (.agg [(.int .i64), (.int .i64)]) (.s 0)⟩, ⟨(some 2), none, .new (.agg [(.int .i64), (.int .i64)]) (.t (.agg [(.int .i64 0), (.int .i64 0)]))⟩, ⟨(some 3), none, .mov (.c (.t (.int .i64 0)))⟩])
 (.seq (.seq (.reg [⟨(some 4), none, .ld (.agg [(.int .i64), (.int .i64)]) (.s 1)⟩, ⟨(some 5), none, .call false 53 .bool [(.s 4)]⟩, ⟨(some 6), none, .un .not (.s 5)⟩])
 (.cond (.s 6)
 (.seq (.reg [⟨(some 7), none, .build [(.t (.int .i64 0)), (.t (.int .i64 0))] []⟩, ⟨none, none, .st (.agg [(.int .i64), (.int .i64)]) (.s 2) (.s 7)⟩, ⟨(some 3), none, .mov (.c (.t (.int .i64 4)))⟩])
 .ret)
 .skip))
 (.seq (.reg [⟨(some 8), none, .iaa (.int .i64) 2 (.s 1) (.c (.t (.int .i64 0)))⟩, ⟨(some 9), none, .ld (.int .i64) (.s 8)⟩, ⟨(some 10), none, .iaa (.int .i64) 2 (.s 1) (.c (.t (.int .i64 1)))⟩, ⟨(some 11), none, .ld (.int .i64) (.s 10)⟩, ⟨(some 12), none, .bin .sub (.s 9) (.s 11)⟩, ⟨(some 13), none, .call false 54 (.tup [(.agg [(.int .i64), (.int .i64)]), (.int .i64)]) [(.s 12)]⟩, ⟨(some 14), none, .ext 0 (.s 13)⟩, ⟨(some 15), none, .ext 1 (.s 13)⟩, ⟨none, none, .st (.agg [(.int .i64), (.int .i64)]) (.s 2) (.s 14)⟩, ⟨(some 3), none, .mov (.s 15)⟩])
 .ret))),
 [.cell 2 (.agg [(.int .i64), (.int .i64)]), .slot 3]⟩
theorem ok17 : compF Try.prog 17 [] [] = some ir17 := by kernel_rfl

/-- tenet/tenetref23.IntAdd -/
def ir18 : FInfo := ⟨29,
 (.seq (.reg [⟨(some 2), none, .box (.agg [(.int .i64), (.int .i64)]) (.s 0)⟩, ⟨(some 3), none, .box (.agg [(.int .i64), (.int .i64)]) (.s 1)⟩, ⟨(some 4), none, .new (.agg [(.int .i64), (.int .i64)]) (.t (.agg [(.int .i64 0), (.int .i64 0)]))⟩, ⟨(some 5), none, .mov (.c (.t (.int .i64 0)))⟩])
 (.seq (.seq (.reg [⟨(some 6), none, .ld (.agg [(.int .i64), (.int .i64)]) (.s 2)⟩, ⟨(some 7), none, .call false 53 .bool [(.s 6)]⟩, ⟨(some 8), none, .un .not (.s 7)⟩, ⟨(some 9), none, .mov (.s 8)⟩, ⟨(some 10), (some (9, false)), .ld (.agg [(.int .i64), (.int .i64)]) (.s 3)⟩, ⟨(some 11), (some (9, false)), .call false 53 .bool [(.s 10)]⟩, ⟨(some 12), (some (9, false)), .un .not (.s 11)⟩, ⟨(some 13), none, .pick (.s 9) (.c (.t (.bool true))) (.s 12)⟩])
 (.cond (.s 13)
 (.seq (.reg [⟨(some 14), none, .build [(.t (.int .i64 0)), (.t (.int .i64 0))] []⟩, ⟨none, none, .st (.agg [(.int .i64), (.int .i64)]) (.s 4) (.s 14)⟩, ⟨(some 5), none, .mov (.c (.t (.int .i64 4)))⟩])
 .ret)
 .skip))
 (.seq (.reg [⟨(some 15), none, .iaa (.int .i64) 2 (.s 2) (.c (.t (.int .i64 0)))⟩, ⟨(some 16), none, .ld (.int .i64) (.s 15)⟩, ⟨(some 17), none, .iaa (.int .i64) 2 (.s 2) (.c (.t (.int .i64 1)))⟩, ⟨(some 18), none, .ld (.int .i64) (.s 17)⟩, ⟨(some 19), none, .bin .sub (.s 16) (.s 18)⟩, ⟨(some 20), none, .iaa (.int .i64) 2 (.s 3) (.c (.t (.int .i64 0)))⟩, ⟨(some 21), none, .ld (.int .i64) (.s 20)⟩, ⟨(some 22), none, .bin .add (.s 19) (.s 21)⟩, ⟨(some 23), none, .iaa (.int .i64) 2 (.s 3) (.c (.t (.int .i64 1)))⟩, ⟨(some 24), none, .ld (.int .i64) (.s 23)⟩, ⟨(some 25), none, .bin .sub (.s 22) (.s 24)⟩, ⟨(some 26), none, .call false 54 (.tup [(.agg [(.int .i64), (.int .i64)]), (.int .i64)]) [(.s 25)]⟩, ⟨(some 27), none, .ext 0 (.s 26)⟩, ⟨(some 28), none, .ext 1 (.s 26)⟩, ⟨none, none, .st (.agg [(.int .i64), (.int .i64)]) (.s 4) (.s 27)⟩, ⟨(some 5), none, .mov (.s 28)⟩])
 .ret))),
 [.cell 4 (.agg [(.int .i64), (.int .i64)]), .slot 5]⟩
theorem ok18 : compF Try.prog 18 [] [] = some ir18 := by kernel_rfl

/-- tenet/tenetref23.IntMul -/
def ir19 : FInfo := ⟨41,
 (.seq (.reg [⟨(some 2), none, .box (.agg [(.int .i64), (.int .i64)]) (.s 0)⟩, ⟨(some 3), none, .box (.agg [(.int .i64), (.int .i64)]) (.s 1)⟩, ⟨(some 4), none, .new (.agg [(.int .i64), (.int .i64)]) (.t (.agg [(.int .i64 0), (.int .i64 0)]))⟩, ⟨(some 5), none, .mov (.c (.t (.int .i64 0)))⟩])
 (.seq (.seq (.reg [⟨(some 7), none, .ld (.agg [(.int .i64), (.int .i64)]) (.s 2)⟩, ⟨(some 8), none, .call false 53 .bool [(.s 7)]⟩, ⟨(some 9), none, .un .not (.s 8)⟩, ⟨(some 10), none, .mov (.s 9)⟩, ⟨(some 11), (some (10, false)), .ld (.agg [(.int .i64), (.int .i64)]) (.s 3)⟩, ⟨(some 12), (some (10, false)), .call false 53 .bool [(.s 11)]⟩, ⟨(some 13), (some (10, false)), .un .not (.s 12)⟩, ⟨(some 14), none, .pick (.s 10) (.c (.t (.bool true))) (.s 13)⟩])
 (.cond (.s 14)
 (.seq (.reg [⟨(some 15), none, .build [(.t (.int .i64 0)), (.t (.int .i64 0))] []⟩, ⟨none, none, .st (.agg [(.int .i64), (.int .i64)]) (.s 4) (.s 15)⟩, ⟨(some 5), none, .mov (.c (.t (.int .i64 4)))⟩])
 .ret)
 .skip))
 (.seq (.reg [⟨(some 16), none, .iaa (.int .i64) 2 (.s 2) (.c (.t (.int .i64 0)))⟩, ⟨(some 17), none, .ld (.int .i64) (.s 16)⟩, ⟨(some 18), none, .iaa (.int .i64) 2 (.s 2) (.c (.t (.int .i64 1)))⟩, ⟨(some 19), none, .ld (.int .i64) (.s 18)⟩, ⟨(some 20), none, .bin .sub (.s 17) (.s 19)⟩, ⟨(some 21), none, .iaa (.int .i64) 2 (.s 3) (.c (.t (.int .i64 0)))⟩, ⟨(some 22), none, .ld (.int .i64) (.s 21)⟩, ⟨(some 23), none, .iaa (.int .i64) 2 (.s 3) (.c (.t (.int .i64 1)))⟩, ⟨(some 24), none, .ld (.int .i64) (.s 23)⟩, ⟨(some 25), none, .bin .sub (.s 22) (.s 24)⟩, ⟨(some 26), none, .call false 55 (.agg [.bool, (.int .u64), (.int .u64)]) [(.s 20), (.s 25)]⟩, ⟨(some 6), none, .new (.agg [.bool, (.int .u64), (.int .u64)]) (.t (.agg [(.bool false), (.int .u64 0), (.int .u64 0)]))⟩, ⟨none, none, .st (.agg [.bool, (.int .u64), (.int .u64)]) (.s 6) (.s 26)⟩])
 (.seq (.seq (.reg [⟨(some 27), none, .fa 1 (.s 6)⟩, ⟨(some 28), none, .ld (.int .u64) (.s 27)⟩, ⟨(some 29), none, .bin .neq (.s 28) (.c (.t (.int .u64 0)))⟩, ⟨(some 30), none, .mov (.s 29)⟩, ⟨(some 31), (some (30, false)), .fa 2 (.s 6)⟩, ⟨(some 32), (some (30, false)), .ld (.int .u64) (.s 31)⟩, ⟨(some 33), (some (30, false)), .bin .gtr (.s 32) (.c (.t (.int .u64 1099511627776)))⟩, ⟨(some 34), none, .pick (.s 30) (.c (.t (.bool true))) (.s 33)⟩])
 (.cond (.s 34)
 (.seq (.reg [⟨(some 35), none, .build [(.t (.int .i64 0)), (.t (.int .i64 0))] []⟩, ⟨none, none, .st (.agg [(.int .i64), (.int .i64)]) (.s 4) (.s 35)⟩, ⟨(some 5), none, .mov (.c (.t (.int .i64 2)))⟩])
 .ret)
 .skip))
 (.seq (.reg [⟨(some 36), none, .ld (.agg [.bool, (.int .u64), (.int .u64)]) (.s 6)⟩, ⟨(some 37), none, .call false 56 (.int .i64) [(.s 36)]⟩, ⟨(some 38), none, .call false 54 (.tup [(.agg [(.int .i64), (.int .i64)]), (.int .i64)]) [(.s 37)]⟩, ⟨(some 39), none, .ext 0 (.s 38)⟩, ⟨(some 40), none, .ext 1 (.s 38)⟩, ⟨none, none, .st (.agg [(.int .i64), (.int .i64)]) (.s 4) (.s 39)⟩, ⟨(some 5), none, .mov (.s 40)⟩])
 .ret))))),
 [.cell 4 (.agg [(.int .i64), (.int .i64)]), .slot 5]⟩
theorem ok19 : compF Try.prog 19 [] [] = some ir19 := by kernel_rfl

/-- tenet/tenetref23.IntNeg -/
def ir20 : FInfo := ⟨16,
 (.seq (.reg [⟨(some 1), none, .box (.agg [(.int .i64), (.int .i64)]) (.s 0)⟩, ⟨(some 2), none, .new (.agg [(.int .i64), (.int .i64)]) (.t (.agg [(.int .i64 0), (.int .i64 0)]))⟩, ⟨(some 3), none, .mov (.c (.t (.int .i64 0)))⟩])
 (.seq (.seq (.reg [⟨(some 4), none, .ld (.agg [(.int .i64), (.int .i64)]) (.s 1)⟩, ⟨(some 5), none, .call false 53 .bool [(.s 4)]⟩, ⟨(some 6), none, .un .not (.s 5)⟩])
 (.cond (.s 6)
 (.seq (.reg [⟨(some 7), none, .build [(.t (.int .i64 0)), (.t (.int .i64 0))] []⟩, ⟨none, none, .st (.agg [(.int .i64), (.int .i64)]) (.s 2) (.s 7)⟩, ⟨(some 3), none, .mov (.c (.t (.int .i64 4)))⟩])
 .ret)
 .skip))
 (.seq (.reg [⟨(some 8), none, .iaa (.int .i64) 2 (.s 1) (.c (.t (.int .i64 1)))⟩, ⟨(some 9), none, .ld (.int .i64) (.s 8)⟩, ⟨(some 10), none, .iaa (.int .i64) 2 (.s 1) (.c (.t (.int .i64 0)))⟩, ⟨(some 11), none, .ld (.int .i64) (.s 10)⟩, ⟨(some 12), none, .bin .sub (.s 9) (.s 11)⟩, ⟨(some 13), none, .call false 54 (.tup [(.agg [(.int .i64), (.int .i64)]), (.int .i64)]) [(.s 12)]⟩, ⟨(some 14), none, .ext 0 (.s 13)⟩, ⟨(some 15), none, .ext 1 (.s 13)⟩, ⟨none, none, .st (.agg [(.int .i64), (.int .i64)]) (.s 2) (.s 14)⟩, ⟨(some 3), none, .mov (.s 15)⟩])
 .ret))),
 [.cell 2 (.agg [(.int .i64), (.int .i64)]), .slot 3]⟩
theorem ok20 : compF Try.prog 20 [] [] = some ir20 := by kernel_rfl

/-- tenet/tenetref23.IntLeq -/
def ir21 : FInfo := ⟨25,
 (.seq (.reg [⟨(some 2), none, .box (.agg [(.int .i64), (.int .i64)]) (.s 0)⟩, ⟨(some 3), none, .box (.agg [(.int .i64), (.int .i64)]) (.s 1)⟩, ⟨(some 4), none, .mov (.c (.t (.bool false)))⟩, ⟨(some 5), none, .mov (.c (.t (.int .i64 0)))⟩])
 (.seq (.seq (.reg [⟨(some 6), none, .ld (.agg [(.int .i64), (.int .i64)]) (.s 2)⟩, ⟨(some 7), none, .call false 53 .bool [(.s 6)]⟩, ⟨(some 8), none, .un .not (.s 7)⟩, ⟨(some 9), none, .mov (.s 8)⟩, ⟨(some 10), (some (9, false)), .ld (.agg [(.int .i64), (.int .i64)]) (.s 3)⟩, ⟨(some 11), (some (9, false)), .call false 53 .bool [(.s 10)]⟩, ⟨(some 12), (some (9, false)), .un .not (.s 11)⟩, ⟨(some 13), none, .pick (.s 9) (.c (.t (.bool true))) (.s 12)⟩])
 (.cond (.s 13)
 (.seq (.reg [⟨(some 4), none, .mov (.c (.t (.bool false)))⟩, ⟨(some 5), none, .mov (.c (.t (.int .i64 4)))⟩])
 .ret)
 .skip))
 (.seq (.reg [⟨(some 14), none, .iaa (.int .i64) 2 (.s 2) (.c (.t (.int .i64 0)))⟩, ⟨(some 15), none, .ld (.int .i64) (.s 14)⟩, ⟨(some 16), none, .iaa (.int .i64) 2 (.s 2) (.c (.t (.int .i64 1)))⟩, ⟨(some 17), none, .ld (.int .i64) (.s 16)⟩, ⟨(some 18), none, .bin .sub (.s 15) (.s 17)⟩, ⟨(some 19), none, .iaa (.int .i64) 2 (.s 3) (.c (.t (.int .i64 0)))⟩, ⟨(some 20), none, .ld (.int .i64) (.s 19)⟩, ⟨(some 21), none, .iaa (.int .i64) 2 (.s 3) (.c (.t (.int .i64 1)))⟩, ⟨(some 22), none, .ld (.int .i64) (.s 21)⟩, ⟨(some 23), none, .bin .sub (.s 20) (.s 22)⟩, ⟨(some 24), none, .bin .leq (.s 18) (.s 23)⟩, ⟨(some 4), none, .mov (.s 24)⟩, ⟨(some 5), none, .mov (.c (.t (.int .i64 0)))⟩])
 .ret))),
 [.slot 4, .slot 5]⟩
theorem ok21 : compF Try.prog 21 [] [] = some ir21 := by kernel_rfl

/-- tenet/tenetref23.IntSame -/
def ir22 : FInfo := ⟨25,
 (.seq (.reg [⟨(some 2), none, .box (.agg [(.int .i64), (.int .i64)]) (.s 0)⟩, ⟨(some 3), none, .box (.agg [(.int .i64), (.int .i64)]) (.s 1)⟩, ⟨(some 4), none, .mov (.c (.t (.bool false)))⟩, ⟨(some 5), none, .mov (.c (.t (.int .i64 0)))⟩])
 (.seq (.seq (.reg [⟨(some 6), none, .ld (.agg [(.int .i64), (.int .i64)]) (.s 2)⟩, ⟨(some 7), none, .call false 53 .bool [(.s 6)]⟩, ⟨(some 8), none, .un .not (.s 7)⟩, ⟨(some 9), none, .mov (.s 8)⟩, ⟨(some 10), (some (9, false)), .ld (.agg [(.int .i64), (.int .i64)]) (.s 3)⟩, ⟨(some 11), (some (9, false)), .call false 53 .bool [(.s 10)]⟩, ⟨(some 12), (some (9, false)), .un .not (.s 11)⟩, ⟨(some 13), none, .pick (.s 9) (.c (.t (.bool true))) (.s 12)⟩])
 (.cond (.s 13)
 (.seq (.reg [⟨(some 4), none, .mov (.c (.t (.bool false)))⟩, ⟨(some 5), none, .mov (.c (.t (.int .i64 4)))⟩])
 .ret)
 .skip))
 (.seq (.reg [⟨(some 14), none, .iaa (.int .i64) 2 (.s 2) (.c (.t (.int .i64 0)))⟩, ⟨(some 15), none, .ld (.int .i64) (.s 14)⟩, ⟨(some 16), none, .iaa (.int .i64) 2 (.s 2) (.c (.t (.int .i64 1)))⟩, ⟨(some 17), none, .ld (.int .i64) (.s 16)⟩, ⟨(some 18), none, .bin .sub (.s 15) (.s 17)⟩, ⟨(some 19), none, .iaa (.int .i64) 2 (.s 3) (.c (.t (.int .i64 0)))⟩, ⟨(some 20), none, .ld (.int .i64) (.s 19)⟩, ⟨(some 21), none, .iaa (.int .i64) 2 (.s 3) (.c (.t (.int .i64 1)))⟩, ⟨(some 22), none, .ld (.int .i64) (.s 21)⟩, ⟨(some 23), none, .bin .sub (.s 20) (.s 22)⟩, ⟨(some 24), none, .bin .eql (.s 18) (.s 23)⟩, ⟨(some 4), none, .mov (.s 24)⟩, ⟨(some 5), none, .mov (.c (.t (.int .i64 0)))⟩])
 .ret))),
 [.slot 4, .slot 5]⟩
theorem ok22 : compF Try.prog 22 [] [] = some ir22 := by kernel_rfl

/-- tenet/quot.RatNormal -/
def ir23 : FInfo := ⟨10,
 (.seq (.reg [⟨(some 1), none, .box (.agg [(.int .i64), (.int .i64)]) (.s 0)⟩, ⟨(some 2), none, .new (.agg [(.int .i64), (.int .i64)]) (.t (.agg [(.int .i64 0), (.int .i64 0)]))⟩, ⟨(some 3), none, .mov (.c (.t (.int .i64 0)))⟩])
 (.seq (.seq (.reg [⟨(some 4), none, .ld (.agg [(.int .i64), (.int .i64)]) (.s 1)⟩, ⟨(some 5), none, .call false 57 .bool [(.s 4)]⟩, ⟨(some 6), none, .un .not (.s 5)⟩])
 (.cond (.s 6)
 (.seq (.reg [⟨(some 7), none, .build [(.t (.int .i64 0)), (.t (.int .i64 0))] []⟩, ⟨none, none, .st (.agg [(.int .i64), (.int .i64)]) (.s 2) (.s 7)⟩, ⟨(some 3), none, .mov (.c (.t (.int .i64 4)))⟩])
 .ret)
 .skip))
 (.seq (.reg [⟨(some 8), none, .ld (.agg [(.int .i64), (.int .i64)]) (.s 1)⟩, ⟨(some 9), none, .call false 58 (.agg [(.int .i64), (.int .i64)]) [(.s 8)]⟩, ⟨none, none, .st (.agg [(.int .i64), (.int .i64)]) (.s 2) (.s 9)⟩, ⟨(some 3), none, .mov (.c (.t (.int .i64 0)))⟩])
 .ret))),
 [.cell 2 (.agg [(.int .i64), (.int .i64)]), .slot 3]⟩
theorem ok23 : compF Try.prog 23 [] [] = some ir23 := by kernel_rfl

/-- tenet/tenetref23.RatNormal -/
def ir24 : FInfo := ⟨10,
 (.seq (.reg [⟨(some 1), none, .box (.agg [(.int .i64), (.int .i64)]) (.s 0)⟩, ⟨(some 2), none, .new (.agg [(.int .i64), (.int .i64)]) (.t (.agg [(.int .i64 0), (.int .i64 0)]))⟩, ⟨(some 3), none, .mov (.c (.t (.int .i64 0)))⟩])
 (.seq (.seq (.reg [⟨(some 4), none, .ld (.agg [(.int .i64), (.int .i64)]) (.s 1)⟩, ⟨(some 5), none, .call false 59 .bool [(.s 4)]⟩, ⟨(some 6), none, .un .not (.s 5)⟩])
 (.cond (.s 6)
 (.seq (.reg [⟨(some 7), none, .build [(.t (.int .i64 0)), (.t (.int .i64 0))] []⟩, ⟨none, none, .st (.agg [(.int .i64), (.int .i64)]) (.s 2) (.s 7)⟩, ⟨(some 3), none, .mov (.c (.t (.int .i64 4)))⟩])
 .ret)
 .skip))
 (.seq (.reg [⟨(some 8), none, .ld (.agg [(.int .i64), (.int .i64)]) (.s 1)⟩, ⟨(some 9), none, .call false 60 (.agg [(.int .i64), (.int .i64)]) [(.s 8)]⟩, ⟨none, none, .st (.agg [(.int .i64), (.int .i64)]) (.s 2) (.s 9)⟩, ⟨(some 3), none, .mov (.c (.t (.int .i64 0)))⟩])
 .ret))),
 [.cell 2 (.agg [(.int .i64), (.int .i64)]), .slot 3]⟩
theorem ok24 : compF Try.prog 24 [] [] = some ir24 := by kernel_rfl

/-- tenet/quot.RatAdd -/
def ir25 : FInfo := ⟨38,
 (.seq (.reg [⟨(some 2), none, .box (.agg [(.int .i64), (.int .i64)]) (.s 0)⟩, ⟨(some 3), none, .box (.agg [(.int .i64), (.int .i64)]) (.s 1)⟩, ⟨(some 4), none, .new (.agg [(.int .i64), (.int .i64)]) (.t (.agg [(.int .i64 0), (.int .i64 0)]))⟩, ⟨(some 5), none, .mov (.c (.t (.int .i64 0)))⟩])
 (.seq (.seq (.reg [⟨(some 6), none, .ld (.agg [(.int .i64), (.int .i64)]) (.s 2)⟩, ⟨(some 7), none, .call false 57 .bool [(.s 6)]⟩, ⟨(some 8), none, .un .not (.s 7)⟩, ⟨(some 9), none, .mov (.s 8)⟩, ⟨(some 10), (some (9, false)), .ld (.agg [(.int .i64), (.int .i64)]) (.s 3)⟩, ⟨(some 11), (some (9, false)), .call false 57 .bool [(.s 10)]⟩, ⟨(some 12), (some (9, false)), .un .not (.s 11)⟩, ⟨(some 13), none, .pick (.s 9) (.c (.t (.bool true))) (.s 12)⟩])
 (.cond (.s 13)
 (.seq (.reg [⟨(some 14), none, .build [(.t (.int .i64 0)), (.t (.int .i64 0))] []⟩, ⟨none, none, .st (.agg [(.int .i64), (.int .i64)]) (.s 4) (.s 14)⟩, ⟨(some 5), none, .mov (.c (.t (.int .i64 4)))⟩])
 .ret)
 .skip))
 (.seq (.dreg [⟨(some 15), none, .ld (.agg [(.int .i64), (.int .i64)]) (.s 2)⟩, ⟨(some 16), none, .call false 58 (.agg [(.int .i64), (.int .i64)]) [(.s 15)]⟩, ⟨(some 17), none, .ld (.agg [(.int .i64), (.int .i64)]) (.s 3)⟩, ⟨(some 18), none, .call false 58 (.agg [(.int .i64), (.int .i64)]) [(.s 17)]⟩, ⟨none, none, .st (.agg [(.int .i64), (.int .i64)]) (.s 2) (.s 16)⟩, ⟨none, none, .st (.agg [(.int .i64), (.int .i64)]) (.s 3) (.s 18)⟩] [0, 1, 0, 7, 15, 31])
 (.seq (.dreg [⟨(some 19), none, .fa 0 (.s 2)⟩, ⟨(some 20), none, .ld (.int .i64) (.s 19)⟩, ⟨(some 21), none, .fa 1 (.s 3)⟩, ⟨(some 22), none, .ld (.int .i64) (.s 21)⟩, ⟨(some 23), none, .call false 51 (.agg [.bool, (.int .u64), (.int .u64)]) [(.s 20), (.s 22)]⟩, ⟨(some 24), none, .fa 0 (.s 3)⟩, ⟨(some 25), none, .ld (.int .i64) (.s 24)⟩, ⟨(some 26), none, .fa 1 (.s 2)⟩, ⟨(some 27), none, .ld (.int .i64) (.s 26)⟩, ⟨(some 28), none, .call false 51 (.agg [.bool, (.int .u64), (.int .u64)]) [(.s 25), (.s 27)]⟩, ⟨(some 29), none, .call false 62 (.agg [.bool, (.int .u64), (.int .u64)]) [(.s 23), (.s 28)]⟩, ⟨(some 30), none, .fa 1 (.s 2)⟩, ⟨(some 31), none, .ld (.int .i64) (.s 30)⟩, ⟨(some 32), none, .fa 1 (.s 3)⟩, ⟨(some 33), none, .ld (.int .i64) (.s 32)⟩, ⟨(some 34), none, .call false 51 (.agg [.bool, (.int .u64), (.int .u64)]) [(.s 31), (.s 33)]⟩, ⟨(some 35), none, .call false 61 (.tup [(.agg [(.int .i64), (.int .i64)]), (.int .i64)]) [(.s 29), (.s 34)]⟩, ⟨(some 36), none, .ext 0 (.s 35)⟩, ⟨(some 37), none, .ext 1 (.s 35)⟩, ⟨none, none, .st (.agg [(.int .i64), (.int .i64)]) (.s 4) (.s 36)⟩, ⟨(some 5), none, .mov (.s 37)⟩] [0, 1, 0, 4, 15, 0, 32, 0, 128, 511, 1023, 0, 2048, 0, 8192, 32767, 65535, 131071, 131071, 524287, 1048575])
 .ret)))),
 [.cell 4 (.agg [(.int .i64), (.int .i64)]), .slot 5]⟩
theorem ok25 : compF Try.prog 25 [] [] = some ir25 := by kernel_rfl

/-- tenet/quot.RatMul -/
def ir27 : FInfo := ⟨32,
 (.seq (.reg [⟨(some 2), none, .box (.agg [(.int .i64), (.int .i64)]) (.s 0)⟩, ⟨(some 3), none, .box (.agg [(.int .i64), (.int .i64)]) (.s 1)⟩, ⟨(some 4), none, .new (.agg [(.int .i64), (.int .i64)]) (.t (.agg [(.int .i64 0), (.int .i64 0)]))⟩, ⟨(some 5), none, .mov (.c (.t (.int .i64 0)))⟩])
 (.seq (.seq (.reg [⟨(some 6), none, .ld (.agg [(.int .i64), (.int .i64)]) (.s 2)⟩, ⟨(some 7), none, .call false 57 .bool [(.s 6)]⟩, ⟨(some 8), none, .un .not (.s 7)⟩, ⟨(some 9), none, .mov (.s 8)⟩, ⟨(some 10), (some (9, false)), .ld (.agg [(.int .i64), (.int .i64)]) (.s 3)⟩, ⟨(some 11), (some (9, false)), .call false 57 .bool [(.s 10)]⟩, ⟨(some 12), (some (9, false)), .un .not (.s 11)⟩, ⟨(some 13), none, .pick (.s 9) (.c (.t (.bool true))) (.s 12)⟩])
 (.cond (.s 13)
 (.seq (.reg [⟨(some 14), none, .build [(.t (.int .i64 0)), (.t (.int .i64 0))] []⟩, ⟨none, none, .st (.agg [(.int .i64), (.int .i64)]) (.s 4) (.s 14)⟩, ⟨(some 5), none, .mov (.c (.t (.int .i64 4)))⟩])
 .ret)
 .skip))
 (.seq (.dreg [⟨(some 15), none, .ld (.agg [(.int .i64), (.int .i64)]) (.s 2)⟩, ⟨(some 16), none, .call false 58 (.agg [(.int .i64), (.int .i64)]) [(.s 15)]⟩, ⟨(some 17), none, .ld (.agg [(.int .i64), (.int .i64)]) (.s 3)⟩, ⟨(some 18), none, .call false 58 (.agg [(.int .i64), (.int .i64)]) [(.s 17)]⟩, ⟨none, none, .st (.agg [(.int .i64), (.int .i64)]) (.s 2) (.s 16)⟩, ⟨none, none, .st (.agg [(.int .i64), (.int .i64)]) (.s 3) (.s 18)⟩] [0, 1, 0, 7, 15, 31])
 (.seq (.dreg [⟨(some 19), none, .fa 0 (.s 2)⟩, ⟨(some 20), none, .ld (.int .i64) (.s 19)⟩, ⟨(some 21), none, .fa 0 (.s 3)⟩, ⟨(some 22), none, .ld (.int .i64) (.s 21)⟩, ⟨(some 23), none, .call false 51 (.agg [.bool, (.int .u64), (.int .u64)]) [(.s 20), (.s 22)]⟩, ⟨(some 24), none, .fa 1 (.s 2)⟩, ⟨(some 25), none, .ld (.int .i64) (.s 24)⟩, ⟨(some 26), none, .fa 1 (.s 3)⟩, ⟨(some 27), none, .ld (.int .i64) (.s 26)⟩, ⟨(some 28), none, .call false 51 (.agg [.bool, (.int .u64), (.int .u64)]) [(.s 25), (.s 27)]⟩, ⟨(some 29), none, .call false 61 (.tup [(.agg [(.int .i64), (.int .i64)]), (.int .i64)]) [(.s 23), (.s 28)]⟩, ⟨(some 30), none, .ext 0 (.s 29)⟩, ⟨(some 31), none, .ext 1 (.s 29)⟩, ⟨none, none, .st (.agg [(.int .i64), (.int .i64)]) (.s 4) (.s 30)⟩, ⟨(some 5), none, .mov (.s 31)⟩] [0, 1, 0, 4, 15, 0, 32, 0, 128, 511, 1023, 2047, 2047, 8191, 16383])
 .ret)))),
 [.cell 4 (.agg [(.int .i64), (.int .i64)]), .slot 5]⟩
theorem ok27 : compF Try.prog 27 [] [] = some ir27 := by kernel_rfl

/-- tenet/quot.RatInverse -/
def ir29 : FInfo := ⟨20,
 (.seq (.reg [⟨(some 1), none, .box (.agg [(.int .i64), (.int .i64)]) (.s 0)⟩, ⟨(some 2), none, .new (.agg [(.int .i64), (.int .i64)]) (.t (.agg [(.int .i64 0), (.int .i64 0)]))⟩, ⟨(some 3), none, .mov (.c (.t (.int .i64 0)))⟩])
 (.seq (.block 0 (.seq (.reg [⟨(some 5), none, .ld (.agg [(.int .i64), (.int .i64)]) (.s 1)⟩, ⟨(some 6), none, .call false 57 .bool [(.s 5)]⟩, ⟨(some 7), none, .un .not (.s 6)⟩, ⟨(some 4), none, .mov (.s 7)⟩])
 (.cond (.s 4)
 (.seq (.reg [⟨(some 8), none, .build [(.t (.int .i64 0)), (.t (.int .i64 0))] []⟩, ⟨none, none, .st (.agg [(.int .i64), (.int .i64)]) (.s 2) (.s 8)⟩, ⟨(some 3), none, .mov (.c (.t (.int .i64 4)))⟩])
 .ret)
 (.seq (.reg [⟨(some 10), none, .fa 0 (.s 1)⟩, ⟨(some 11), none, .ld (.int .i64) (.s 10)⟩, ⟨(some 12), none, .bin .eql (.s 11) (.c (.t (.int .i64 0)))⟩, ⟨(some 9), none, .mov (.s 12)⟩])
 (.cond (.s 9)
 (.seq (.reg [⟨(some 13), none, .build [(.t (.int .i64 0)), (.t (.int .i64 0))] []⟩, ⟨none, none, .st (.agg [(.int .i64), (.int .i64)]) (.s 2) (.s 13)⟩, ⟨(some 3), none, .mov (.c (.t (.int .i64 230)))⟩])
 .ret)
 .skip)))))
 (.seq (.reg [⟨(some 14), none, .fa 1 (.s 1)⟩, ⟨(some 15), none, .ld (.int .i64) (.s 14)⟩, ⟨(some 16), none, .fa 0 (.s 1)⟩, ⟨(some 17), none, .ld (.int .i64) (.s 16)⟩, ⟨(some 18), none, .build [(.t (.int .i64 0)), (.t (.int .i64 0))] [(0, (.int .i64), (.s 15)), (1, (.int .i64), (.s 17))]⟩, ⟨(some 19), none, .call false 58 (.agg [(.int .i64), (.int .i64)]) [(.s 18)]⟩, ⟨none, none, .st (.agg [(.int .i64), (.int .i64)]) (.s 2) (.s 19)⟩, ⟨(some 3), none, .mov (.c (.t (.int .i64 0)))⟩])
 .ret))),
 [.cell 2 (.agg [(.int .i64), (.int .i64)]), .slot 3]⟩
theorem ok29 : compF Try.prog 29 [] [] = some ir29 := by kernel_rfl

/-- tenet/tenetref23.RatInverse -/
def ir30 : FInfo := ⟨18,
 (.seq (.reg [⟨(some 1), none, .box (.agg [(.int .i64), (.int .i64)]) (.s 0)⟩, ⟨(some 2), none, .new (.agg [(.int .i64), (.int .i64)]) (.t (.agg [(.int .i64 0), (.int .i64 0)]))⟩, ⟨(some 3), none, .mov (.c (.t (.int .i64 0)))⟩])
 (.seq (.seq (.reg [⟨(some 4), none, .ld (.agg [(.int .i64), (.int .i64)]) (.s 1)⟩, ⟨(some 5), none, .call false 59 .bool [(.s 4)]⟩, ⟨(some 6), none, .un .not (.s 5)⟩])
 (.cond (.s 6)
 (.seq (.reg [⟨(some 7), none, .build [(.t (.int .i64 0)), (.t (.int .i64 0))] []⟩, ⟨none, none, .st (.agg [(.int .i64), (.int .i64)]) (.s 2) (.s 7)⟩, ⟨(some 3), none, .mov (.c (.t (.int .i64 4)))⟩])
 .ret)
 .skip))
 (.seq (.seq (.reg [⟨(some 8), none, .fa 0 (.s 1)⟩, ⟨(some 9), none, .ld (.int .i64) (.s 8)⟩, ⟨(some 10), none, .bin .eql (.s 9) (.c (.t (.int .i64 0)))⟩])
 (.cond (.s 10)
 (.seq (.reg [⟨(some 11), none, .build [(.t (.int .i64 0)), (.t (.int .i64 0))] []⟩, ⟨none, none, .st (.agg [(.int .i64), (.int .i64)]) (.s 2) (.s 11)⟩, ⟨(some 3), none, .mov (.c (.t (.int .i64 230)))⟩])
 .ret)
 .skip))
 (.seq (.reg [⟨(some 12), none, .fa 1 (.s 1)⟩, ⟨(some 13), none, .ld (.int .i64) (.s 12)⟩, ⟨(some 14), none, .fa 0 (.s 1)⟩, ⟨(some 15), none, .ld (.int .i64) (.s 14)⟩, ⟨(some 16), none, .build [(.t (.int .i64 0)), (.t (.int .i64 0))] [(0, (.int .i64), (.s 13)), (1, (.int .i64), (.s 15))]⟩, ⟨(some 17), none, .call false 60 (.agg [(.int .i64), (.int .i64)]) [(.s 16)]⟩, ⟨none, none, .st (.agg [(.int .i64), (.int .i64)]) (.s 2) (.s 17)⟩, ⟨(some 3), none, .mov (.c (.t (.int .i64 0)))⟩])
 .ret)))),
 [.cell 2 (.agg [(.int .i64), (.int .i64)]), .slot 3]⟩
theorem ok30 : compF Try.prog 30 [] [] = some ir30 := by kernel_rfl

/-- tenet/quot.RatLeq -/
def ir31 : FInfo := ⟨48,
 (.seq (.reg [⟨(some 2), none, .box (.agg [(.int .i64), (.int .i64)]) (.s 0)⟩, ⟨(some 3), none, .box (.agg [(.int .i64), (.int .i64)]) (.s 1)⟩, ⟨(some 4), none, .mov (.c (.t (.bool false)))⟩, ⟨(some 5), none, .mov (.c (.t (.int .i64 0)))⟩])
 (.seq (.seq (.reg [⟨(some 9), none, .ld (.agg [(.int .i64), (.int .i64)]) (.s 2)⟩, ⟨(some 10), none, .call false 57 .bool [(.s 9)]⟩, ⟨(some 11), none, .un .not (.s 10)⟩, ⟨(some 12), none, .mov (.s 11)⟩, ⟨(some 13), (some (12, false)), .ld (.agg [(.int .i64), (.int .i64)]) (.s 3)⟩, ⟨(some 14), (some (12, false)), .call false 57 .bool [(.s 13)]⟩, ⟨(some 15), (some (12, false)), .un .not (.s 14)⟩, ⟨(some 16), none, .pick (.s 12) (.c (.t (.bool true))) (.s 15)⟩])
 (.cond (.s 16)
 (.seq (.reg [⟨(some 4), none, .mov (.c (.t (.bool false)))⟩, ⟨(some 5), none, .mov (.c (.t (.int .i64 4)))⟩])
 .ret)
 .skip))
 (.seq (.dreg [⟨(some 17), none, .ld (.agg [(.int .i64), (.int .i64)]) (.s 2)⟩, ⟨(some 18), none, .call false 58 (.agg [(.int .i64), (.int .i64)]) [(.s 17)]⟩, ⟨(some 19), none, .ld (.agg [(.int .i64), (.int .i64)]) (.s 3)⟩, ⟨(some 20), none, .call false 58 (.agg [(.int .i64), (.int .i64)]) [(.s 19)]⟩, ⟨none, none, .st (.agg [(.int .i64), (.int .i64)]) (.s 2) (.s 18)⟩, ⟨none, none, .st (.agg [(.int .i64), (.int .i64)]) (.s 3) (.s 20)⟩] [0, 1, 0, 7, 15, 31])
 (.seq (.dreg [⟨(some 21), none, .fa 0 (.s 2)⟩, ⟨(some 22), none, .ld (.int .i64) (.s 21)⟩, ⟨(some 23), none, .fa 1 (.s 3)⟩, ⟨(some 24), none, .ld (.int .i64) (.s 23)⟩, ⟨(some 25), none, .call false 51 (.agg [.bool, (.int .u64), (.int .u64)]) [(.s 22), (.s 24)]⟩, ⟨(some 26), none, .fa 0 (.s 3)⟩, ⟨(some 27), none, .ld (.int .i64) (.s 26)⟩, ⟨(some 28), none, .fa 1 (.s 2)⟩, ⟨(some 29), none, .ld (.int .i64) (.s 28)⟩, ⟨(some 30), none, .call false 51 (.agg [.bool, (.int .u64), (.int .u64)]) [(.s 27), (.s 29)]⟩, ⟨(some 6), none, .new (.agg [.bool, (.int .u64), (.int .u64)]) (.t (.agg [(.bool false), (.int .u64 0), (.int .u64 0)]))⟩, ⟨(some 7), none, .new (.agg [.bool, (.int .u64), (.int .u64)]) (.t (.agg [(.bool false), (.int .u64 0), (.int .u64 0)]))⟩, ⟨none, none, .st (.agg [.bool, (.int .u64), (.int .u64)]) (.s 6) (.s 25)⟩, ⟨none, none, .st (.agg [.bool, (.int .u64), (.int .u64)]) (.s 7) (.s 30)⟩] [0, 1, 0, 4, 15, 0, 32, 0, 128, 511, 0, 0, 4095, 8191])
 (.seq (.reg [⟨(some 31), none, .fa 0 (.s 7)⟩, ⟨(some 32), none, .ld .bool (.s 31)⟩, ⟨(some 33), none, .un .not (.s 32)⟩, ⟨(some 34), none, .fa 0 (.s 7)⟩, ⟨none, none, .st .bool (.s 34) (.s 33)⟩])
 (.seq (.reg [⟨(some 35), none, .ld (.agg [.bool, (.int .u64), (.int .u64)]) (.s 6)⟩, ⟨(some 36), none, .ld (.agg [.bool, (.int .u64), (.int .u64)]) (.s 7)⟩, ⟨(some 37), none, .call false 62 (.agg [.bool, (.int .u64), (.int .u64)]) [(.s 35), (.s 36)]⟩, ⟨(some 8), none, .new (.agg [.bool, (.int .u64), (.int .u64)]) (.t (.agg [(.bool false), (.int .u64 0), (.int .u64 0)]))⟩, ⟨none, none, .st (.agg [.bool, (.int .u64), (.int .u64)]) (.s 8) (.s 37)⟩])
 (.seq (.reg [⟨(some 38), none, .fa 0 (.s 8)⟩, ⟨(some 39), none, .ld .bool (.s 38)⟩, ⟨(some 40), none, .mov (.s 39)⟩, ⟨(some 41), (some (40, false)), .fa 1 (.s 8)⟩, ⟨(some 42), (some (40, false)), .ld (.int .u64) (.s 41)⟩, ⟨(some 43), (some (40, false)), .fa 2 (.s 8)⟩, ⟨(some 44), (some (40, false)), .ld (.int .u64) (.s 43)⟩, ⟨(some 45), (some (40, false)), .bin .or (.s 42) (.s 44)⟩, ⟨(some 46), (some (40, false)), .bin .eql (.s 45) (.c (.t (.int .u64 0)))⟩, ⟨(some 47), none, .pick (.s 40) (.c (.t (.bool true))) (.s 46)⟩, ⟨(some 4), none, .mov (.s 47)⟩, ⟨(some 5), none, .mov (.c (.t (.int .i64 0)))⟩])
 .ret))))))),
 [.slot 4, .slot 5]⟩
theorem ok31 : compF Try.prog 31 [] [] = some ir31 := by kernel_rfl

/-- tenet/tenetref23.RatLeq -/
def ir32 : FInfo := ⟨43,
 (.seq (.reg [⟨(some 2), none, .box (.agg [(.int .i64), (.int .i64)]) (.s 0)⟩, ⟨(some 3), none, .box (.agg [(.int .i64), (.int .i64)]) (.s 1)⟩, ⟨(some 4), none, .mov (.c (.t (.bool false)))⟩, ⟨(some 5), none, .mov (.c (.t (.int .i64 0)))⟩])
 (.seq (.seq (.reg [⟨(some 7), none, .ld (.agg [(.int .i64), (.int .i64)]) (.s 2)⟩, ⟨(some 8), none, .call false 59 .bool [(.s 7)]⟩, ⟨(some 9), none, .un .not (.s 8)⟩, ⟨(some 10), none, .mov (.s 9)⟩, ⟨(some 11), (some (10, false)), .ld (.agg [(.int .i64), (.int .i64)]) (.s 3)⟩, ⟨(some 12), (some (10, false)), .call false 59 .bool [(.s 11)]⟩, ⟨(some 13), (some (10, false)), .un .not (.s 12)⟩, ⟨(some 14), none, .pick (.s 10) (.c (.t (.bool true))) (.s 13)⟩])
 (.cond (.s 14)
 (.seq (.reg [⟨(some 4), none, .mov (.c (.t (.bool false)))⟩, ⟨(some 5), none, .mov (.c (.t (.int .i64 4)))⟩])
 .ret)
 .skip))
 (.seq (.dreg [⟨(some 15), none, .ld (.agg [(.int .i64), (.int .i64)]) (.s 2)⟩, ⟨(some 16), none, .call false 60 (.agg [(.int .i64), (.int .i64)]) [(.s 15)]⟩, ⟨(some 17), none, .ld (.agg [(.int .i64), (.int .i64)]) (.s 3)⟩, ⟨(some 18), none, .call false 60 (.agg [(.int .i64), (.int .i64)]) [(.s 17)]⟩, ⟨none, none, .st (.agg [(.int .i64), (.int .i64)]) (.s 2) (.s 16)⟩, ⟨none, none, .st (.agg [(.int .i64), (.int .i64)]) (.s 3) (.s 18)⟩] [0, 1, 0, 7, 15, 31])
 (.seq (.dreg [⟨(some 19), none, .fa 0 (.s 2)⟩, ⟨(some 20), none, .ld (.int .i64) (.s 19)⟩, ⟨(some 21), none, .fa 1 (.s 3)⟩, ⟨(some 22), none, .ld (.int .i64) (.s 21)⟩, ⟨(some 23), none, .call false 55 (.agg [.bool, (.int .u64), (.int .u64)]) [(.s 20), (.s 22)]⟩, ⟨(some 24), none, .fa 0 (.s 3)⟩, ⟨(some 25), none, .ld (.int .i64) (.s 24)⟩, ⟨(some 26), none, .un .neg (.s 25)⟩, ⟨(some 27), none, .fa 1 (.s 2)⟩, ⟨(some 28), none, .ld (.int .i64) (.s 27)⟩, ⟨(some 29), none, .call false 55 (.agg [.bool, (.int .u64), (.int .u64)]) [(.s 26), (.s 28)]⟩, ⟨(some 30), none, .call false 64 (.agg [.bool, (.int .u64), (.int .u64)]) [(.s 23), (.s 29)]⟩, ⟨(some 6), none, .new (.agg [.bool, (.int .u64), (.int .u64)]) (.t (.agg [(.bool false), (.int .u64 0), (.int .u64 0)]))⟩, ⟨none, none, .st (.agg [.bool, (.int .u64), (.int .u64)]) (.s 6) (.s 30)⟩] [0, 1, 0, 4, 15, 0, 32, 96, 0, 256, 1023, 2047, 0, 8191])
 (.seq (.reg [⟨(some 31), none, .fa 0 (.s 6)⟩, ⟨(some 32), none, .ld .bool (.s 31)⟩, ⟨(some 33), none, .mov (.s 32)⟩, ⟨(some 34), (some (33, false)), .fa 1 (.s 6)⟩, ⟨(some 35), (some (33, false)), .ld (.int .u64) (.s 34)⟩, ⟨(some 36), (some (33, false)), .bin .eql (.s 35) (.c (.t (.int .u64 0)))⟩, ⟨(some 37), (some (33, false)), .mov (.s 36)⟩, ⟨(some 38), (some (37, true)), .fa 2 (.s 6)⟩, ⟨(some 39), (some (37, true)), .ld (.int .u64) (.s 38)⟩, ⟨(some 40), (some (37, true)), .bin .eql (.s 39) (.c (.t (.int .u64 0)))⟩, ⟨(some 41), (some (33, false)), .pick (.s 37) (.s 40) (.c (.t (.bool false)))⟩, ⟨(some 42), none, .pick (.s 33) (.c (.t (.bool true))) (.s 41)⟩, ⟨(some 4), none, .mov (.s 42)⟩, ⟨(some 5), none, .mov (.c (.t (.int .i64 0)))⟩])
 .ret))))),
 [.slot 4, .slot 5]⟩
theorem ok32 : compF Try.prog 32 [] [] = some ir32 := by kernel_rfl

/-- tenet/quot.BagUnion -/
def ir33 : FInfo := ⟨22,
 (.seq (.reg [⟨(some 4), none, .mov (.c .nilS)⟩, ⟨(some 5), none, .mov (.c (.t (.int .i64 0)))⟩])
 (.seq (.seq (.reg [⟨(some 6), none, .mov (.s 0)⟩, ⟨(some 7), none, .call false 66 .bool [(.s 6)]⟩, ⟨(some 8), none, .un .not (.s 7)⟩, ⟨(some 9), none, .mov (.s 8)⟩, ⟨(some 10), (some (9, false)), .mov (.s 1)⟩, ⟨(some 11), (some (9, false)), .call false 66 .bool [(.s 10)]⟩, ⟨(some 12), (some (9, false)), .un .not (.s 11)⟩, ⟨(some 13), none, .pick (.s 9) (.c (.t (.bool true))) (.s 12)⟩])
 (.cond (.s 13)
 (.seq (.reg [⟨(some 4), none, .mov (.c .nilS)⟩, ⟨(some 5), none, .mov (.c (.t (.int .i64 4)))⟩])
 .ret)
 .skip))
 (.seq (.reg [⟨(some 14), none, .mov (.s 0)⟩, ⟨(some 15), none, .mov (.s 1)⟩, ⟨(some 16), none, .bsl .slc .nilS 2 [(0, (.s 14)), (1, (.s 15))]⟩, ⟨(some 17), none, .call false 69 .slc [(.s 16)]⟩, ⟨(some 18), none, .call false 68 .slc [(.s 17)]⟩, ⟨(some 19), none, .call false 67 (.tup [.slc, (.int .i64)]) [(.s 18)]⟩, ⟨(some 20), none, .ext 0 (.s 19)⟩, ⟨(some 21), none, .ext 1 (.s 19)⟩, ⟨(some 4), none, .mov (.s 20)⟩, ⟨(some 5), none, .mov (.s 21)⟩])
 .ret))),
 [.slot 4, .slot 5]⟩
theorem ok33 : compF Try.prog 33 [] [] = some ir33 := by kernel_rfl

/-- tenet/quot.Fold -/
def ir34 : FInfo := ⟨62,
 (.seq (.reg [⟨(some 4), none, .mov (.c (.t (.int .i64 0)))⟩, ⟨(some 5), none, .mov (.c (.t (.int .i64 0)))⟩])
 (.seq (.block 0 (.seq (.reg [⟨(some 10), none, .mov (.s 0)⟩, ⟨(some 11), none, .call false 66 .bool [(.s 10)]⟩, ⟨(some 12), none, .un .not (.s 11)⟩, ⟨(some 9), none, .mov (.s 12)⟩])
 (.cond (.s 9)
 (.seq (.reg [⟨(some 4), none, .mov (.c (.t (.int .i64 0)))⟩, ⟨(some 5), none, .mov (.c (.t (.int .i64 4)))⟩])
 .ret)
 (.seq (.reg [⟨(some 14), none, .mov (.s 1)⟩, ⟨(some 15), none, .bin .lss (.s 14) (.c (.t (.int .i64 1)))⟩, ⟨(some 16), none, .mov (.s 15)⟩, ⟨(some 17), (some (16, false)), .mov (.s 1)⟩, ⟨(some 18), (some (16, false)), .bin .gtr (.s 17) (.c (.t (.int .i64 4)))⟩, ⟨(some 19), none, .pick (.s 16) (.c (.t (.bool true))) (.s 18)⟩, ⟨(some 13), none, .mov (.s 19)⟩])
 (.cond (.s 13)
 (.seq (.reg [⟨(some 4), none, .mov (.c (.t (.int .i64 0)))⟩, ⟨(some 5), none, .mov (.c (.t (.int .i64 1)))⟩])
 .ret)
 (.seq (.reg [⟨(some 21), none, .mov (.s 1)⟩, ⟨(some 22), none, .bin .eql (.s 21) (.c (.t (.int .i64 4)))⟩, ⟨(some 23), none, .mov (.s 22)⟩, ⟨(some 24), (some (23, false)), .mov (.s 0)⟩, ⟨(some 25), (some (23, false)), .len (.s 24)⟩, ⟨(some 26), (some (23, false)), .bin .eql (.s 25) (.c (.t (.int .i64 0)))⟩, ⟨(some 27), none, .pick (.s 23) (.c (.t (.bool true))) (.s 26)⟩, ⟨(some 20), none, .mov (.s 27)⟩])
 (.cond (.s 20)
 (.seq (.reg [⟨(some 28), none, .mov (.s 0)⟩, ⟨(some 29), none, .len (.s 28)⟩, ⟨(some 4), none, .mov (.s 29)⟩, ⟨(some 5), none, .mov (.c (.t (.int .i64 0)))⟩])
 .ret)
 .skip)))))))
 (.seq (.reg [⟨(some 30), none, .mov (.s 0)⟩, ⟨(some 31), none, .ia (.int .i64) (.s 30) (.c (.t (.int .i64 0)))⟩, ⟨(some 32), none, .ld (.int .i64) (.s 31)⟩, ⟨(some 6), none, .mov (.s 32)⟩])
 (.seq (.seq (.reg [⟨(some 33), none, .mov (.s 0)⟩, ⟨(some 34), none, .sub (.int .i64) (.s 33) (some (.c (.t (.int .i64 1)))) none none⟩, ⟨(some 35), none, .len (.s 34)⟩, ⟨(some 36), none, .mov (.c (.t (.int .i64 0)))⟩])
 (.block 1 (.loop [1, 6, 34, 35, 36] (.seq (.reg [⟨(some 37), none, .bin .lss (.s 36) (.s 35)⟩])
 (.seq (.cond (.s 37)
 .skip
 (.exit 1))
 (.seq (.block 2 (.seq (.reg [⟨(some 38), none, .ia (.int .i64) (.s 34) (.s 36)⟩, ⟨(some 39), none, .ld (.int .i64) (.s 38)⟩, ⟨(some 8), none, .mov (.s 39)⟩])
 (.seq (.reg [⟨(some 40), none, .mov (.s 1)⟩])
 (.block 3 (.seq (.reg [⟨(some 42), none, .bin .eql (.s 40) (.c (.t (.int .i64 1)))⟩, ⟨(some 41), none, .mov (.s 42)⟩])
 (.cond (.s 41)
 (.reg [⟨(some 43), none, .mov (.s 6)⟩, ⟨(some 44), none, .mov (.s 8)⟩, ⟨(some 45), none, .bin .add (.s 43) (.s 44)⟩, ⟨(some 6), none, .mov (.s 45)⟩])
 (.seq (.reg [⟨(some 47), none, .bin .eql (.s 40) (.c (.t (.int .i64 2)))⟩, ⟨(some 46), none, .mov (.s 47)⟩])
 (.cond (.s 46)
 (.reg [⟨(some 48), none, .mov (.s 6)⟩, ⟨(some 49), none, .mov (.s 8)⟩, ⟨(some 50), none, .mx (.s 48) (.s 49)⟩, ⟨(some 6), none, .mov (.s 50)⟩])
 (.seq (.reg [⟨(some 52), none, .bin .eql (.s 40) (.c (.t (.int .i64 3)))⟩, ⟨(some 51), none, .mov (.s 52)⟩])
 (.cond (.s 51)
 (.reg [⟨(some 53), none, .mov (.s 6)⟩, ⟨(some 54), none, .mov (.s 8)⟩, ⟨(some 55), none, .mn (.s 53) (.s 54)⟩, ⟨(some 6), none, .mov (.s 55)⟩])
 .skip))))))))))
 (.reg [⟨(some 56), none, .bin .add (.s 36) (.c (.t (.int .i64 1)))⟩, ⟨(some 36), none, .mov (.s 56)⟩])))))))
 (.seq (.seq (.reg [⟨(some 57), none, .mov (.s 6)⟩, ⟨(some 58), none, .bsl (.int .i64) (.t (.int .i64 0)) 1 [(0, (.s 57))]⟩, ⟨(some 59), none, .call false 70 .bool [(.s 58)]⟩, ⟨(some 60), none, .un .not (.s 59)⟩])
 (.cond (.s 60)
 (.seq (.reg [⟨(some 4), none, .mov (.c (.t (.int .i64 0)))⟩, ⟨(some 5), none, .mov (.c (.t (.int .i64 2)))⟩])
 .ret)
 .skip))
 (.seq (.reg [⟨(some 61), none, .mov (.s 6)⟩, ⟨(some 4), none, .mov (.s 61)⟩, ⟨(some 5), none, .mov (.c (.t (.int .i64 0)))⟩])
 .ret)))))),
 [.slot 4, .slot 5]⟩
theorem ok34 : compF Try.prog 34 [[1, 6, 34, 35, 36]] [] = some ir34 := by kernel_rfl

/-- tenet/quot.BagCount -/
def ir35 : FInfo := ⟨16,
 (.seq (.reg [⟨(some 4), none, .mov (.c (.t (.int .i64 0)))⟩, ⟨(some 5), none, .mov (.c (.t (.int .i64 0)))⟩])
 (.seq (.seq (.reg [⟨(some 7), none, .mov (.s 0)⟩, ⟨(some 8), none, .call false 66 .bool [(.s 7)]⟩, ⟨(some 9), none, .un .not (.s 8)⟩])
 (.cond (.s 9)
 (.seq (.reg [⟨(some 4), none, .mov (.c (.t (.int .i64 0)))⟩, ⟨(some 5), none, .mov (.c (.t (.int .i64 4)))⟩])
 .ret)
 .skip))
 (.seq (.reg [⟨(some 10), none, .mov (.s 0)⟩, ⟨(some 11), none, .call false 68 .slc [(.s 10)]⟩, ⟨(some 12), none, .mkf 71 [(.s 11)] []⟩, ⟨(some 6), none, .mov (.s 12)⟩])
 (.seq (.reg [⟨(some 13), none, .mov (.s 6)⟩, ⟨(some 14), none, .mov (.s 1)⟩, ⟨(some 15), none, .callv (.s 13) (.int .i64) [(.s 14)]⟩, ⟨(some 4), none, .mov (.s 15)⟩, ⟨(some 5), none, .mov (.c (.t (.int .i64 0)))⟩])
 .ret)))),
 [.slot 4, .slot 5]⟩
theorem ok35 : compF Try.prog 35 [] [] = some ir35 := by kernel_rfl

/-- tenet/quot.SetUnion -/
def ir36 : FInfo := ⟨23,
 (.seq (.reg [⟨(some 4), none, .mov (.c .nilS)⟩, ⟨(some 5), none, .mov (.c (.t (.int .i64 0)))⟩])
 (.seq (.seq (.reg [⟨(some 6), none, .mov (.s 0)⟩, ⟨(some 7), none, .call false 66 .bool [(.s 6)]⟩, ⟨(some 8), none, .un .not (.s 7)⟩, ⟨(some 9), none, .mov (.s 8)⟩, ⟨(some 10), (some (9, false)), .mov (.s 1)⟩, ⟨(some 11), (some (9, false)), .call false 66 .bool [(.s 10)]⟩, ⟨(some 12), (some (9, false)), .un .not (.s 11)⟩, ⟨(some 13), none, .pick (.s 9) (.c (.t (.bool true))) (.s 12)⟩])
 (.cond (.s 13)
 (.seq (.reg [⟨(some 4), none, .mov (.c .nilS)⟩, ⟨(some 5), none, .mov (.c (.t (.int .i64 4)))⟩])
 .ret)
 .skip))
 (.seq (.reg [⟨(some 14), none, .mov (.s 0)⟩, ⟨(some 15), none, .mov (.s 1)⟩, ⟨(some 16), none, .bsl .slc .nilS 2 [(0, (.s 14)), (1, (.s 15))]⟩, ⟨(some 17), none, .call false 69 .slc [(.s 16)]⟩, ⟨(some 18), none, .call true 68 .slc [(.s 17)]⟩, ⟨(some 19), none, .call true 72 .slc [(.s 18)]⟩, ⟨(some 20), none, .call false 67 (.tup [.slc, (.int .i64)]) [(.s 19)]⟩, ⟨(some 21), none, .ext 0 (.s 20)⟩, ⟨(some 22), none, .ext 1 (.s 20)⟩, ⟨(some 4), none, .mov (.s 21)⟩, ⟨(some 5), none, .mov (.s 22)⟩])
 .ret))),
 [.slot 4, .slot 5]⟩
theorem ok36 : compF Try.prog 36 [] [18, 19] = some ir36 := by kernel_rfl

/-- tenet/quot.SetMeet -/
def ir37 : FInfo := ⟨21,
 (.seq (.reg [⟨(some 3), none, .box .slc (.s 1)⟩, ⟨(some 4), none, .mov (.c .nilS)⟩, ⟨(some 5), none, .mov (.c (.t (.int .i64 0)))⟩])
 (.seq (.seq (.reg [⟨(some 7), none, .mov (.s 0)⟩, ⟨(some 8), none, .call false 66 .bool [(.s 7)]⟩, ⟨(some 9), none, .un .not (.s 8)⟩, ⟨(some 10), none, .mov (.s 9)⟩, ⟨(some 11), (some (10, false)), .ld .slc (.s 3)⟩, ⟨(some 12), (some (10, false)), .call false 66 .bool [(.s 11)]⟩, ⟨(some 13), (some (10, false)), .un .not (.s 12)⟩, ⟨(some 14), none, .pick (.s 10) (.c (.t (.bool true))) (.s 13)⟩])
 (.cond (.s 14)
 (.seq (.reg [⟨(some 4), none, .mov (.c .nilS)⟩, ⟨(some 5), none, .mov (.c (.t (.int .i64 4)))⟩])
 .ret)
 .skip))
 (.seq (.reg [⟨(some 15), none, .mov (.s 0)⟩, ⟨(some 16), none, .call true 68 .slc [(.s 15)]⟩, ⟨(some 17), none, .call true 72 .slc [(.s 16)]⟩, ⟨(some 6), none, .mov (.s 17)⟩])
 (.seq (.reg [⟨(some 18), none, .mov (.s 6)⟩, ⟨(some 19), none, .mkf 74 [] [(.s 3)]⟩, ⟨(some 20), none, .call true 73 .slc [(.s 18), (.s 19)]⟩, ⟨(some 4), none, .mov (.s 20)⟩, ⟨(some 5), none, .mov (.c (.t (.int .i64 0)))⟩])
 .ret)))),
 [.slot 4, .slot 5]⟩
theorem ok37 : compF Try.prog 37 [] [16, 17, 20] = some ir37 := by kernel_rfl

/-- tenet/tenetref00.EqInts -/
def ir38 : FInfo := ⟨26,
 (.seq (.reg [⟨(some 4), none, .mov (.c (.t (.bool false)))⟩])
 (.seq (.seq (.reg [⟨(some 6), none, .mov (.s 0)⟩, ⟨(some 7), none, .len (.s 6)⟩, ⟨(some 8), none, .mov (.s 1)⟩, ⟨(some 9), none, .len (.s 8)⟩, ⟨(some 10), none, .bin .neq (.s 7) (.s 9)⟩])
 (.cond (.s 10)
 (.seq (.reg [⟨(some 4), none, .mov (.c (.t (.bool false)))⟩])
 .ret)
 .skip))
 (.seq (.seq (.reg [⟨(some 5), none, .mov (.c (.t (.int .i64 0)))⟩])
 (.block 0 (.loop [0, 1, 5] (.seq (.seq (.reg [⟨(some 11), none, .mov (.s 5)⟩, ⟨(some 12), none, .mov (.s 0)⟩, ⟨(some 13), none, .len (.s 12)⟩, ⟨(some 14), none, .bin .lss (.s 11) (.s 13)⟩])
 (.cond (.s 14)
 .skip
 (.exit 0)))
 (.seq (.block 1 (.seq (.dreg [⟨(some 17), none, .mov (.s 0)⟩, ⟨(some 18), none, .mov (.s 5)⟩, ⟨(some 19), none, .ia (.int .i64) (.s 17) (.s 18)⟩, ⟨(some 20), none, .ld (.int .i64) (.s 19)⟩, ⟨(some 21), none, .mov (.s 1)⟩, ⟨(some 22), none, .mov (.s 5)⟩, ⟨(some 23), none, .ia (.int .i64) (.s 21) (.s 22)⟩, ⟨(some 24), none, .ld (.int .i64) (.s 23)⟩, ⟨(some 25), none, .bin .neq (.s 20) (.s 24)⟩] [0, 0, 3, 7, 0, 0, 48, 112, 255])
 (.cond (.s 25)
 (.seq (.reg [⟨(some 4), none, .mov (.c (.t (.bool false)))⟩])
 .ret)
 .skip)))
 (.reg [⟨(some 15), none, .mov (.s 5)⟩, ⟨(some 16), none, .bin .add (.s 15) (.c (.t (.int .i64 1)))⟩, ⟨(some 5), none, .mov (.s 16)⟩]))))))
 (.seq (.reg [⟨(some 4), none, .mov (.c (.t (.bool true)))⟩])
 .ret)))),
 [.slot 4]⟩
theorem ok38 : compF Try.prog 38 [[0, 1, 5]] [] = some ir38 := by kernel_rfl

/-- tenet/quot.SetNormal -/
def ir39 : FInfo := ⟨10,
 (.seq (.reg [⟨(some 2), none, .mov (.c .nilS)⟩, ⟨(some 3), none, .mov (.c (.t (.int .i64 0)))⟩])
 (.seq (.seq (.reg [⟨(some 4), none, .mov (.s 0)⟩, ⟨(some 5), none, .call false 66 .bool [(.s 4)]⟩, ⟨(some 6), none, .un .not (.s 5)⟩])
 (.cond (.s 6)
 (.seq (.reg [⟨(some 2), none, .mov (.c .nilS)⟩, ⟨(some 3), none, .mov (.c (.t (.int .i64 4)))⟩])
 .ret)
 .skip))
 (.seq (.reg [⟨(some 7), none, .mov (.s 0)⟩, ⟨(some 8), none, .call true 68 .slc [(.s 7)]⟩, ⟨(some 9), none, .call true 72 .slc [(.s 8)]⟩, ⟨(some 2), none, .mov (.s 9)⟩, ⟨(some 3), none, .mov (.c (.t (.int .i64 0)))⟩])
 .ret))),
 [.slot 2, .slot 3]⟩
theorem ok39 : compF Try.prog 39 [] [8, 9] = some ir39 := by kernel_rfl

/-- tenet/tenetlaw23.long -/
def ir40 : FInfo := ⟨16,
 (.seq (.reg [⟨(some 2), none, .mov (.c (.t (.bool false)))⟩])
 (.seq (.seq (.reg [⟨(some 3), none, .mov (.c (.t (.int .i64 0)))⟩])
 (.block 0 (.loop [0, 3] (.seq (.seq (.reg [⟨(some 4), none, .mov (.s 3)⟩, ⟨(some 5), none, .mov (.s 0)⟩, ⟨(some 6), none, .len (.s 5)⟩, ⟨(some 7), none, .bin .lss (.s 4) (.s 6)⟩])
 (.cond (.s 7)
 .skip
 (.exit 0)))
 (.seq (.block 1 (.seq (.reg [⟨(some 10), none, .mov (.s 0)⟩, ⟨(some 11), none, .mov (.s 3)⟩, ⟨(some 12), none, .ia .slc (.s 10) (.s 11)⟩, ⟨(some 13), none, .ld .slc (.s 12)⟩, ⟨(some 14), none, .len (.s 13)⟩, ⟨(some 15), none, .bin .gtr (.s 14) (.c (.t (.int .i64 200)))⟩])
 (.cond (.s 15)
 (.seq (.reg [⟨(some 2), none, .mov (.c (.t (.bool true)))⟩])
 .ret)
 .skip)))
 (.reg [⟨(some 8), none, .mov (.s 3)⟩, ⟨(some 9), none, .bin .add (.s 8) (.c (.t (.int .i64 1)))⟩, ⟨(some 3), none, .mov (.s 9)⟩]))))))
 (.seq (.reg [⟨(some 2), none, .mov (.c (.t (.bool false)))⟩])
 .ret))),
 [.slot 2]⟩
theorem ok40 : compF Try.prog 40 [[0, 3]] [] = some ir40 := by kernel_rfl

/-- tenet/quot.BagNormal -/
def ir41 : FInfo := ⟨9,
 (.seq (.reg [⟨(some 2), none, .mov (.c .nilS)⟩, ⟨(some 3), none, .mov (.c (.t (.int .i64 0)))⟩])
 (.seq (.seq (.reg [⟨(some 4), none, .mov (.s 0)⟩, ⟨(some 5), none, .call false 66 .bool [(.s 4)]⟩, ⟨(some 6), none, .un .not (.s 5)⟩])
 (.cond (.s 6)
 (.seq (.reg [⟨(some 2), none, .mov (.c .nilS)⟩, ⟨(some 3), none, .mov (.c (.t (.int .i64 4)))⟩])
 .ret)
 .skip))
 (.seq (.reg [⟨(some 7), none, .mov (.s 0)⟩, ⟨(some 8), none, .call false 68 .slc [(.s 7)]⟩, ⟨(some 2), none, .mov (.s 8)⟩, ⟨(some 3), none, .mov (.c (.t (.int .i64 0)))⟩])
 .ret))),
 [.slot 2, .slot 3]⟩
theorem ok41 : compF Try.prog 41 [] [] = some ir41 := by kernel_rfl


end Go.Proofs.Bw.Qb
