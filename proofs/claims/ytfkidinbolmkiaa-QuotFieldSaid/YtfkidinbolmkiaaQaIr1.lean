/-
  THE RECKONED CODE, part 1: printed by program.
-/
import Derived.Test.YtfkidinbolmkiaaRows
import Derived.Test.YtfkidinbolmkiaaAw4
set_option linter.unusedSimpArgs false
set_option linter.unusedVariables false
set_option maxRecDepth 100000
namespace Go.Proofs.Aw.Qa
open Go.Proofs

/-- tenet/tenetlaw23.QuotInts -/
def ir4 : FInfo := ⟨138,
 (.seq (.reg [⟨(some 2), none, .box (.agg [(.int .i64), (.int .i64)]) (.s 0)⟩, ⟨(some 3), none, .box (.agg [(.int .i64), (.int .i64)]) (.s 1)⟩, ⟨(some 4), none, .mov (.c (.t (.bool false)))⟩])
 (.seq (.reg [⟨(some 18), none, .ld (.agg [(.int .i64), (.int .i64)]) (.s 2)⟩, ⟨(some 19), none, .call false 16 (.tup [(.agg [(.int .i64), (.int .i64)]), (.int .i64)]) [(.s 18)]⟩, ⟨(some 17), none, .mov (.s 19)⟩, ⟨(some 20), none, .ext 0 (.s 17)⟩, ⟨(some 21), none, .ext 1 (.s 17)⟩, ⟨(some 5), none, .new (.agg [(.int .i64), (.int .i64)]) (.t (.agg [(.int .i64 0), (.int .i64 0)]))⟩, ⟨none, none, .st (.agg [(.int .i64), (.int .i64)]) (.s 5) (.s 20)⟩, ⟨(some 6), none, .mov (.s 21)⟩])
 (.seq (.reg [⟨(some 23), none, .ld (.agg [(.int .i64), (.int .i64)]) (.s 2)⟩, ⟨(some 24), none, .call false 17 (.tup [(.agg [(.int .i64), (.int .i64)]), (.int .i64)]) [(.s 23)]⟩, ⟨(some 22), none, .mov (.s 24)⟩, ⟨(some 25), none, .ext 0 (.s 22)⟩, ⟨(some 26), none, .ext 1 (.s 22)⟩, ⟨(some 7), none, .new (.agg [(.int .i64), (.int .i64)]) (.t (.agg [(.int .i64 0), (.int .i64 0)]))⟩, ⟨none, none, .st (.agg [(.int .i64), (.int .i64)]) (.s 7) (.s 25)⟩, ⟨(some 8), none, .mov (.s 26)⟩])
 (.seq (.seq (.reg [⟨(some 27), none, .ld (.agg [(.int .i64), (.int .i64)]) (.s 5)⟩, ⟨(some 28), none, .ld (.agg [(.int .i64), (.int .i64)]) (.s 7)⟩, ⟨(some 29), none, .eqs true (.agg [(.int .i64), (.int .i64)]) (.s 27) (.s 28)⟩, ⟨(some 30), none, .mov (.s 29)⟩, ⟨(some 31), (some (30, false)), .mov (.s 6)⟩, ⟨(some 32), (some (30, false)), .mov (.s 8)⟩, ⟨(some 33), (some (30, false)), .bin .neq (.s 31) (.s 32)⟩, ⟨(some 34), none, .pick (.s 30) (.c (.t (.bool true))) (.s 33)⟩])
 (.cond (.s 34)
 (.seq (.reg [⟨(some 4), none, .mov (.c (.t (.bool false)))⟩])
 .ret)
 .skip))
 (.seq (.reg [⟨(some 36), none, .ld (.agg [(.int .i64), (.int .i64)]) (.s 2)⟩, ⟨(some 37), none, .ld (.agg [(.int .i64), (.int .i64)]) (.s 3)⟩, ⟨(some 38), none, .call false 10 (.tup [(.agg [(.int .i64), (.int .i64)]), (.int .i64)]) [(.s 36), (.s 37)]⟩, ⟨(some 35), none, .mov (.s 38)⟩, ⟨(some 39), none, .ext 0 (.s 35)⟩, ⟨(some 40), none, .ext 1 (.s 35)⟩, ⟨none, none, .st (.agg [(.int .i64), (.int .i64)]) (.s 5) (.s 39)⟩, ⟨(some 6), none, .mov (.s 40)⟩])
 (.seq (.reg [⟨(some 42), none, .ld (.agg [(.int .i64), (.int .i64)]) (.s 2)⟩, ⟨(some 43), none, .ld (.agg [(.int .i64), (.int .i64)]) (.s 3)⟩, ⟨(some 44), none, .call false 18 (.tup [(.agg [(.int .i64), (.int .i64)]), (.int .i64)]) [(.s 42), (.s 43)]⟩, ⟨(some 41), none, .mov (.s 44)⟩, ⟨(some 45), none, .ext 0 (.s 41)⟩, ⟨(some 46), none, .ext 1 (.s 41)⟩, ⟨none, none, .st (.agg [(.int .i64), (.int .i64)]) (.s 7) (.s 45)⟩, ⟨(some 8), none, .mov (.s 46)⟩])
 (.seq (.seq (.reg [⟨(some 47), none, .ld (.agg [(.int .i64), (.int .i64)]) (.s 5)⟩, ⟨(some 48), none, .ld (.agg [(.int .i64), (.int .i64)]) (.s 7)⟩, ⟨(some 49), none, .eqs true (.agg [(.int .i64), (.int .i64)]) (.s 47) (.s 48)⟩, ⟨(some 50), none, .mov (.s 49)⟩, ⟨(some 51), (some (50, false)), .mov (.s 6)⟩, ⟨(some 52), (some (50, false)), .mov (.s 8)⟩, ⟨(some 53), (some (50, false)), .bin .neq (.s 51) (.s 52)⟩, ⟨(some 54), none, .pick (.s 50) (.c (.t (.bool true))) (.s 53)⟩])
 (.cond (.s 54)
 (.seq (.reg [⟨(some 4), none, .mov (.c (.t (.bool false)))⟩])
 .ret)
 .skip))
 (.seq (.reg [⟨(some 56), none, .ld (.agg [(.int .i64), (.int .i64)]) (.s 2)⟩, ⟨(some 57), none, .ld (.agg [(.int .i64), (.int .i64)]) (.s 3)⟩, ⟨(some 58), none, .call false 12 (.tup [(.agg [(.int .i64), (.int .i64)]), (.int .i64)]) [(.s 56), (.s 57)]⟩, ⟨(some 55), none, .mov (.s 58)⟩, ⟨(some 59), none, .ext 0 (.s 55)⟩, ⟨(some 60), none, .ext 1 (.s 55)⟩, ⟨none, none, .st (.agg [(.int .i64), (.int .i64)]) (.s 5) (.s 59)⟩, ⟨(some 6), none, .mov (.s 60)⟩])
 (.seq (.reg [⟨(some 62), none, .ld (.agg [(.int .i64), (.int .i64)]) (.s 2)⟩, ⟨(some 63), none, .ld (.agg [(.int .i64), (.int .i64)]) (.s 3)⟩, ⟨(some 64), none, .call false 19 (.tup [(.agg [(.int .i64), (.int .i64)]), (.int .i64)]) [(.s 62), (.s 63)]⟩, ⟨(some 61), none, .mov (.s 64)⟩, ⟨(some 65), none, .ext 0 (.s 61)⟩, ⟨(some 66), none, .ext 1 (.s 61)⟩, ⟨none, none, .st (.agg [(.int .i64), (.int .i64)]) (.s 7) (.s 65)⟩, ⟨(some 8), none, .mov (.s 66)⟩])
 (.seq (.seq (.reg [⟨(some 67), none, .ld (.agg [(.int .i64), (.int .i64)]) (.s 5)⟩, ⟨(some 68), none, .ld (.agg [(.int .i64), (.int .i64)]) (.s 7)⟩, ⟨(some 69), none, .eqs true (.agg [(.int .i64), (.int .i64)]) (.s 67) (.s 68)⟩, ⟨(some 70), none, .mov (.s 69)⟩, ⟨(some 71), (some (70, false)), .mov (.s 6)⟩, ⟨(some 72), (some (70, false)), .mov (.s 8)⟩, ⟨(some 73), (some (70, false)), .bin .neq (.s 71) (.s 72)⟩, ⟨(some 74), none, .pick (.s 70) (.c (.t (.bool true))) (.s 73)⟩])
 (.cond (.s 74)
 (.seq (.reg [⟨(some 4), none, .mov (.c (.t (.bool false)))⟩])
 .ret)
 .skip))
 (.seq (.reg [⟨(some 76), none, .ld (.agg [(.int .i64), (.int .i64)]) (.s 2)⟩, ⟨(some 77), none, .call false 11 (.tup [(.agg [(.int .i64), (.int .i64)]), (.int .i64)]) [(.s 76)]⟩, ⟨(some 75), none, .mov (.s 77)⟩, ⟨(some 78), none, .ext 0 (.s 75)⟩, ⟨(some 79), none, .ext 1 (.s 75)⟩, ⟨none, none, .st (.agg [(.int .i64), (.int .i64)]) (.s 5) (.s 78)⟩, ⟨(some 6), none, .mov (.s 79)⟩])
 (.seq (.reg [⟨(some 81), none, .ld (.agg [(.int .i64), (.int .i64)]) (.s 2)⟩, ⟨(some 82), none, .call false 20 (.tup [(.agg [(.int .i64), (.int .i64)]), (.int .i64)]) [(.s 81)]⟩, ⟨(some 80), none, .mov (.s 82)⟩, ⟨(some 83), none, .ext 0 (.s 80)⟩, ⟨(some 84), none, .ext 1 (.s 80)⟩, ⟨none, none, .st (.agg [(.int .i64), (.int .i64)]) (.s 7) (.s 83)⟩, ⟨(some 8), none, .mov (.s 84)⟩])
 (.seq (.seq (.reg [⟨(some 85), none, .ld (.agg [(.int .i64), (.int .i64)]) (.s 5)⟩, ⟨(some 86), none, .ld (.agg [(.int .i64), (.int .i64)]) (.s 7)⟩, ⟨(some 87), none, .eqs true (.agg [(.int .i64), (.int .i64)]) (.s 85) (.s 86)⟩, ⟨(some 88), none, .mov (.s 87)⟩, ⟨(some 89), (some (88, false)), .mov (.s 6)⟩, ⟨(some 90), (some (88, false)), .mov (.s 8)⟩, ⟨(some 91), (some (88, false)), .bin .neq (.s 89) (.s 90)⟩, ⟨(some 92), none, .pick (.s 88) (.c (.t (.bool true))) (.s 91)⟩])
 (.cond (.s 92)
 (.seq (.reg [⟨(some 4), none, .mov (.c (.t (.bool false)))⟩])
 .ret)
 .skip))
 (.seq (.reg [⟨(some 94), none, .ld (.agg [(.int .i64), (.int .i64)]) (.s 2)⟩, ⟨(some 95), none, .ld (.agg [(.int .i64), (.int .i64)]) (.s 3)⟩, ⟨(some 96), none, .call false 13 (.tup [.bool, (.int .i64)]) [(.s 94), (.s 95)]⟩, ⟨(some 93), none, .mov (.s 96)⟩, ⟨(some 97), none, .ext 0 (.s 93)⟩, ⟨(some 98), none, .ext 1 (.s 93)⟩, ⟨(some 9), none, .mov (.s 97)⟩, ⟨(some 10), none, .mov (.s 98)⟩])
 (.seq (.reg [⟨(some 100), none, .ld (.agg [(.int .i64), (.int .i64)]) (.s 2)⟩, ⟨(some 101), none, .ld (.agg [(.int .i64), (.int .i64)]) (.s 3)⟩, ⟨(some 102), none, .call false 21 (.tup [.bool, (.int .i64)]) [(.s 100), (.s 101)]⟩, ⟨(some 99), none, .mov (.s 102)⟩, ⟨(some 103), none, .ext 0 (.s 99)⟩, ⟨(some 104), none, .ext 1 (.s 99)⟩, ⟨(some 11), none, .mov (.s 103)⟩, ⟨(some 12), none, .mov (.s 104)⟩])
 (.seq (.reg [⟨(some 106), none, .ld (.agg [(.int .i64), (.int .i64)]) (.s 2)⟩, ⟨(some 107), none, .ld (.agg [(.int .i64), (.int .i64)]) (.s 3)⟩, ⟨(some 108), none, .call false 14 (.tup [.bool, (.int .i64)]) [(.s 106), (.s 107)]⟩, ⟨(some 105), none, .mov (.s 108)⟩, ⟨(some 109), none, .ext 0 (.s 105)⟩, ⟨(some 110), none, .ext 1 (.s 105)⟩, ⟨(some 13), none, .mov (.s 109)⟩, ⟨(some 14), none, .mov (.s 110)⟩])
 (.seq (.reg [⟨(some 112), none, .ld (.agg [(.int .i64), (.int .i64)]) (.s 2)⟩, ⟨(some 113), none, .ld (.agg [(.int .i64), (.int .i64)]) (.s 3)⟩, ⟨(some 114), none, .call false 22 (.tup [.bool, (.int .i64)]) [(.s 112), (.s 113)]⟩, ⟨(some 111), none, .mov (.s 114)⟩, ⟨(some 115), none, .ext 0 (.s 111)⟩, ⟨(some 116), none, .ext 1 (.s 111)⟩, ⟨(some 15), none, .mov (.s 115)⟩, ⟨(some 16), none, .mov (.s 116)⟩])
 (.seq (.reg [⟨(some 117), none, .mov (.s 9)⟩, ⟨(some 118), none, .mov (.s 11)⟩, ⟨(some 119), none, .eqs false .bool (.s 117) (.s 118)⟩, ⟨(some 120), none, .mov (.s 119)⟩, ⟨(some 121), (some (120, true)), .mov (.s 10)⟩, ⟨(some 122), (some (120, true)), .mov (.s 12)⟩, ⟨(some 123), (some (120, true)), .bin .eql (.s 121) (.s 122)⟩, ⟨(some 124), none, .pick (.s 120) (.s 123) (.c (.t (.bool false)))⟩, ⟨(some 125), none, .mov (.s 124)⟩, ⟨(some 126), (some (125, true)), .mov (.s 13)⟩, ⟨(some 127), (some (125, true)), .mov (.s 15)⟩, ⟨(some 128), (some (125, true)), .eqs false .bool (.s 126) (.s 127)⟩, ⟨(some 129), none, .pick (.s 125) (.s 128) (.c (.t (.bool false)))⟩, ⟨(some 130), none, .mov (.s 129)⟩, ⟨(some 131), (some (130, true)), .mov (.s 14)⟩, ⟨(some 132), (some (130, true)), .mov (.s 16)⟩, ⟨(some 133), (some (130, true)), .bin .eql (.s 131) (.s 132)⟩, ⟨(some 134), none, .pick (.s 130) (.s 133) (.c (.t (.bool false)))⟩, ⟨(some 135), none, .mov (.s 134)⟩, ⟨(some 136), (some (135, true)), .call false 15 .bool []⟩, ⟨(some 137), none, .pick (.s 135) (.s 136) (.c (.t (.bool false)))⟩, ⟨(some 4), none, .mov (.s 137)⟩])
 .ret)))))))))))))))))),
 [.slot 4]⟩
theorem ok4 : compF Try.prog 4 [] [] = some ir4 := by kernel_rfl

/-- tenet/tenetlaw23.QuotRats -/
def ir5 : FInfo := ⟨114,
 (.seq (.reg [⟨(some 2), none, .box (.agg [(.int .i64), (.int .i64)]) (.s 0)⟩, ⟨(some 3), none, .box (.agg [(.int .i64), (.int .i64)]) (.s 1)⟩, ⟨(some 4), none, .mov (.c (.t (.bool false)))⟩])
 (.seq (.reg [⟨(some 14), none, .ld (.agg [(.int .i64), (.int .i64)]) (.s 2)⟩, ⟨(some 15), none, .call false 23 (.tup [(.agg [(.int .i64), (.int .i64)]), (.int .i64)]) [(.s 14)]⟩, ⟨(some 13), none, .mov (.s 15)⟩, ⟨(some 16), none, .ext 0 (.s 13)⟩, ⟨(some 17), none, .ext 1 (.s 13)⟩, ⟨(some 5), none, .new (.agg [(.int .i64), (.int .i64)]) (.t (.agg [(.int .i64 0), (.int .i64 0)]))⟩, ⟨none, none, .st (.agg [(.int .i64), (.int .i64)]) (.s 5) (.s 16)⟩, ⟨(some 6), none, .mov (.s 17)⟩])
 (.seq (.reg [⟨(some 19), none, .ld (.agg [(.int .i64), (.int .i64)]) (.s 2)⟩, ⟨(some 20), none, .call false 24 (.tup [(.agg [(.int .i64), (.int .i64)]), (.int .i64)]) [(.s 19)]⟩, ⟨(some 18), none, .mov (.s 20)⟩, ⟨(some 21), none, .ext 0 (.s 18)⟩, ⟨(some 22), none, .ext 1 (.s 18)⟩, ⟨(some 7), none, .new (.agg [(.int .i64), (.int .i64)]) (.t (.agg [(.int .i64 0), (.int .i64 0)]))⟩, ⟨none, none, .st (.agg [(.int .i64), (.int .i64)]) (.s 7) (.s 21)⟩, ⟨(some 8), none, .mov (.s 22)⟩])
 (.seq (.seq (.reg [⟨(some 23), none, .ld (.agg [(.int .i64), (.int .i64)]) (.s 5)⟩, ⟨(some 24), none, .ld (.agg [(.int .i64), (.int .i64)]) (.s 7)⟩, ⟨(some 25), none, .eqs true (.agg [(.int .i64), (.int .i64)]) (.s 23) (.s 24)⟩, ⟨(some 26), none, .mov (.s 25)⟩, ⟨(some 27), (some (26, false)), .mov (.s 6)⟩, ⟨(some 28), (some (26, false)), .mov (.s 8)⟩, ⟨(some 29), (some (26, false)), .bin .neq (.s 27) (.s 28)⟩, ⟨(some 30), none, .pick (.s 26) (.c (.t (.bool true))) (.s 29)⟩])
 (.cond (.s 30)
 (.seq (.reg [⟨(some 4), none, .mov (.c (.t (.bool false)))⟩])
 .ret)
 .skip))
 (.seq (.reg [⟨(some 32), none, .ld (.agg [(.int .i64), (.int .i64)]) (.s 2)⟩, ⟨(some 33), none, .ld (.agg [(.int .i64), (.int .i64)]) (.s 3)⟩, ⟨(some 34), none, .call false 25 (.tup [(.agg [(.int .i64), (.int .i64)]), (.int .i64)]) [(.s 32), (.s 33)]⟩, ⟨(some 31), none, .mov (.s 34)⟩, ⟨(some 35), none, .ext 0 (.s 31)⟩, ⟨(some 36), none, .ext 1 (.s 31)⟩, ⟨none, none, .st (.agg [(.int .i64), (.int .i64)]) (.s 5) (.s 35)⟩, ⟨(some 6), none, .mov (.s 36)⟩])
 (.seq (.reg [⟨(some 38), none, .ld (.agg [(.int .i64), (.int .i64)]) (.s 2)⟩, ⟨(some 39), none, .ld (.agg [(.int .i64), (.int .i64)]) (.s 3)⟩, ⟨(some 40), none, .call false 26 (.tup [(.agg [(.int .i64), (.int .i64)]), (.int .i64)]) [(.s 38), (.s 39)]⟩, ⟨(some 37), none, .mov (.s 40)⟩, ⟨(some 41), none, .ext 0 (.s 37)⟩, ⟨(some 42), none, .ext 1 (.s 37)⟩, ⟨none, none, .st (.agg [(.int .i64), (.int .i64)]) (.s 7) (.s 41)⟩, ⟨(some 8), none, .mov (.s 42)⟩])
 (.seq (.seq (.reg [⟨(some 43), none, .ld (.agg [(.int .i64), (.int .i64)]) (.s 5)⟩, ⟨(some 44), none, .ld (.agg [(.int .i64), (.int .i64)]) (.s 7)⟩, ⟨(some 45), none, .eqs true (.agg [(.int .i64), (.int .i64)]) (.s 43) (.s 44)⟩, ⟨(some 46), none, .mov (.s 45)⟩, ⟨(some 47), (some (46, false)), .mov (.s 6)⟩, ⟨(some 48), (some (46, false)), .mov (.s 8)⟩, ⟨(some 49), (some (46, false)), .bin .neq (.s 47) (.s 48)⟩, ⟨(some 50), none, .pick (.s 46) (.c (.t (.bool true))) (.s 49)⟩])
 (.cond (.s 50)
 (.seq (.reg [⟨(some 4), none, .mov (.c (.t (.bool false)))⟩])
 .ret)
 .skip))
 (.seq (.reg [⟨(some 52), none, .ld (.agg [(.int .i64), (.int .i64)]) (.s 2)⟩, ⟨(some 53), none, .ld (.agg [(.int .i64), (.int .i64)]) (.s 3)⟩, ⟨(some 54), none, .call false 27 (.tup [(.agg [(.int .i64), (.int .i64)]), (.int .i64)]) [(.s 52), (.s 53)]⟩, ⟨(some 51), none, .mov (.s 54)⟩, ⟨(some 55), none, .ext 0 (.s 51)⟩, ⟨(some 56), none, .ext 1 (.s 51)⟩, ⟨none, none, .st (.agg [(.int .i64), (.int .i64)]) (.s 5) (.s 55)⟩, ⟨(some 6), none, .mov (.s 56)⟩])
 (.seq (.reg [⟨(some 58), none, .ld (.agg [(.int .i64), (.int .i64)]) (.s 2)⟩, ⟨(some 59), none, .ld (.agg [(.int .i64), (.int .i64)]) (.s 3)⟩, ⟨(some 60), none, .call false 28 (.tup [(.agg [(.int .i64), (.int .i64)]), (.int .i64)]) [(.s 58), (.s 59)]⟩, ⟨(some 57), none, .mov (.s 60)⟩, ⟨(some 61), none, .ext 0 (.s 57)⟩, ⟨(some 62), none, .ext 1 (.s 57)⟩, ⟨none, none, .st (.agg [(.int .i64), (.int .i64)]) (.s 7) (.s 61)⟩, ⟨(some 8), none, .mov (.s 62)⟩])
 (.seq (.seq (.reg [⟨(some 63), none, .ld (.agg [(.int .i64), (.int .i64)]) (.s 5)⟩, ⟨(some 64), none, .ld (.agg [(.int .i64), (.int .i64)]) (.s 7)⟩, ⟨(some 65), none, .eqs true (.agg [(.int .i64), (.int .i64)]) (.s 63) (.s 64)⟩, ⟨(some 66), none, .mov (.s 65)⟩, ⟨(some 67), (some (66, false)), .mov (.s 6)⟩, ⟨(some 68), (some (66, false)), .mov (.s 8)⟩, ⟨(some 69), (some (66, false)), .bin .neq (.s 67) (.s 68)⟩, ⟨(some 70), none, .pick (.s 66) (.c (.t (.bool true))) (.s 69)⟩])
 (.cond (.s 70)
 (.seq (.reg [⟨(some 4), none, .mov (.c (.t (.bool false)))⟩])
 .ret)
 .skip))
 (.seq (.reg [⟨(some 72), none, .ld (.agg [(.int .i64), (.int .i64)]) (.s 2)⟩, ⟨(some 73), none, .call false 29 (.tup [(.agg [(.int .i64), (.int .i64)]), (.int .i64)]) [(.s 72)]⟩, ⟨(some 71), none, .mov (.s 73)⟩, ⟨(some 74), none, .ext 0 (.s 71)⟩, ⟨(some 75), none, .ext 1 (.s 71)⟩, ⟨none, none, .st (.agg [(.int .i64), (.int .i64)]) (.s 5) (.s 74)⟩, ⟨(some 6), none, .mov (.s 75)⟩])
 (.seq (.reg [⟨(some 77), none, .ld (.agg [(.int .i64), (.int .i64)]) (.s 2)⟩, ⟨(some 78), none, .call false 30 (.tup [(.agg [(.int .i64), (.int .i64)]), (.int .i64)]) [(.s 77)]⟩, ⟨(some 76), none, .mov (.s 78)⟩, ⟨(some 79), none, .ext 0 (.s 76)⟩, ⟨(some 80), none, .ext 1 (.s 76)⟩, ⟨none, none, .st (.agg [(.int .i64), (.int .i64)]) (.s 7) (.s 79)⟩, ⟨(some 8), none, .mov (.s 80)⟩])
 (.seq (.reg [⟨(some 82), none, .ld (.agg [(.int .i64), (.int .i64)]) (.s 2)⟩, ⟨(some 83), none, .ld (.agg [(.int .i64), (.int .i64)]) (.s 3)⟩, ⟨(some 84), none, .call false 31 (.tup [.bool, (.int .i64)]) [(.s 82), (.s 83)]⟩, ⟨(some 81), none, .mov (.s 84)⟩, ⟨(some 85), none, .ext 0 (.s 81)⟩, ⟨(some 86), none, .ext 1 (.s 81)⟩, ⟨(some 9), none, .mov (.s 85)⟩, ⟨(some 10), none, .mov (.s 86)⟩])
 (.seq (.reg [⟨(some 88), none, .ld (.agg [(.int .i64), (.int .i64)]) (.s 2)⟩, ⟨(some 89), none, .ld (.agg [(.int .i64), (.int .i64)]) (.s 3)⟩, ⟨(some 90), none, .call false 32 (.tup [.bool, (.int .i64)]) [(.s 88), (.s 89)]⟩, ⟨(some 87), none, .mov (.s 90)⟩, ⟨(some 91), none, .ext 0 (.s 87)⟩, ⟨(some 92), none, .ext 1 (.s 87)⟩, ⟨(some 11), none, .mov (.s 91)⟩, ⟨(some 12), none, .mov (.s 92)⟩])
 (.seq (.reg [⟨(some 93), none, .ld (.agg [(.int .i64), (.int .i64)]) (.s 5)⟩, ⟨(some 94), none, .ld (.agg [(.int .i64), (.int .i64)]) (.s 7)⟩, ⟨(some 95), none, .eqs false (.agg [(.int .i64), (.int .i64)]) (.s 93) (.s 94)⟩, ⟨(some 96), none, .mov (.s 95)⟩, ⟨(some 97), (some (96, true)), .mov (.s 6)⟩, ⟨(some 98), (some (96, true)), .mov (.s 8)⟩, ⟨(some 99), (some (96, true)), .bin .eql (.s 97) (.s 98)⟩, ⟨(some 100), none, .pick (.s 96) (.s 99) (.c (.t (.bool false)))⟩, ⟨(some 101), none, .mov (.s 100)⟩, ⟨(some 102), (some (101, true)), .mov (.s 9)⟩, ⟨(some 103), (some (101, true)), .mov (.s 11)⟩, ⟨(some 104), (some (101, true)), .eqs false .bool (.s 102) (.s 103)⟩, ⟨(some 105), none, .pick (.s 101) (.s 104) (.c (.t (.bool false)))⟩, ⟨(some 106), none, .mov (.s 105)⟩, ⟨(some 107), (some (106, true)), .mov (.s 10)⟩, ⟨(some 108), (some (106, true)), .mov (.s 12)⟩, ⟨(some 109), (some (106, true)), .bin .eql (.s 107) (.s 108)⟩, ⟨(some 110), none, .pick (.s 106) (.s 109) (.c (.t (.bool false)))⟩, ⟨(some 111), none, .mov (.s 110)⟩, ⟨(some 112), (some (111, true)), .call false 15 .bool []⟩, ⟨(some 113), none, .pick (.s 111) (.s 112) (.c (.t (.bool false)))⟩, ⟨(some 4), none, .mov (.s 113)⟩])
 .ret))))))))))))))),
 [.slot 4]⟩
theorem ok5 : compF Try.prog 5 [] [] = some ir5 := by kernel_rfl

/-- tenet/tenetlaw23.QuotField -/
def ir6 : FInfo := ⟨232,
 (.seq (.reg [⟨(some 3), none, .box (.agg [(.int .i16), (.int .i16)]) (.s 0)⟩, ⟨(some 4), none, .box (.agg [(.int .i16), (.int .i16)]) (.s 1)⟩, ⟨(some 5), none, .box (.agg [(.int .i16), (.int .i16)]) (.s 2)⟩, ⟨(some 6), none, .mov (.c (.t (.bool false)))⟩])
 (.seq (.dreg [⟨(some 36), none, .iaa (.int .i16) 2 (.s 3) (.c (.t (.int .i64 0)))⟩, ⟨(some 37), none, .ld (.int .i16) (.s 36)⟩, ⟨(some 38), none, .conv .i64 (.s 37)⟩, ⟨(some 39), none, .bin .rem (.s 38) (.c (.t (.int .i64 1000)))⟩, ⟨(some 40), none, .iaa (.int .i16) 2 (.s 3) (.c (.t (.int .i64 1)))⟩, ⟨(some 41), none, .ld (.int .i16) (.s 40)⟩, ⟨(some 42), none, .conv .i64 (.s 41)⟩, ⟨(some 43), none, .bin .rem (.s 42) (.c (.t (.int .i64 1000)))⟩, ⟨(some 44), none, .bin .or (.s 43) (.c (.t (.int .i64 1)))⟩, ⟨(some 45), none, .build [(.t (.int .i64 0)), (.t (.int .i64 0))] [(0, (.int .i64), (.s 39)), (1, (.int .i64), (.s 44))]⟩, ⟨(some 46), none, .iaa (.int .i16) 2 (.s 4) (.c (.t (.int .i64 0)))⟩, ⟨(some 47), none, .ld (.int .i16) (.s 46)⟩, ⟨(some 48), none, .conv .i64 (.s 47)⟩, ⟨(some 49), none, .bin .rem (.s 48) (.c (.t (.int .i64 1000)))⟩, ⟨(some 50), none, .iaa (.int .i16) 2 (.s 4) (.c (.t (.int .i64 1)))⟩, ⟨(some 51), none, .ld (.int .i16) (.s 50)⟩, ⟨(some 52), none, .conv .i64 (.s 51)⟩, ⟨(some 53), none, .bin .rem (.s 52) (.c (.t (.int .i64 1000)))⟩, ⟨(some 54), none, .bin .or (.s 53) (.c (.t (.int .i64 1)))⟩, ⟨(some 55), none, .build [(.t (.int .i64 0)), (.t (.int .i64 0))] [(0, (.int .i64), (.s 49)), (1, (.int .i64), (.s 54))]⟩, ⟨(some 56), none, .iaa (.int .i16) 2 (.s 5) (.c (.t (.int .i64 0)))⟩, ⟨(some 57), none, .ld (.int .i16) (.s 56)⟩, ⟨(some 58), none, .conv .i64 (.s 57)⟩, ⟨(some 59), none, .bin .rem (.s 58) (.c (.t (.int .i64 1000)))⟩, ⟨(some 60), none, .iaa (.int .i16) 2 (.s 5) (.c (.t (.int .i64 1)))⟩, ⟨(some 61), none, .ld (.int .i16) (.s 60)⟩, ⟨(some 62), none, .conv .i64 (.s 61)⟩, ⟨(some 63), none, .bin .rem (.s 62) (.c (.t (.int .i64 1000)))⟩, ⟨(some 64), none, .bin .or (.s 63) (.c (.t (.int .i64 1)))⟩, ⟨(some 65), none, .build [(.t (.int .i64 0)), (.t (.int .i64 0))] [(0, (.int .i64), (.s 59)), (1, (.int .i64), (.s 64))]⟩, ⟨(some 7), none, .new (.agg [(.int .i64), (.int .i64)]) (.t (.agg [(.int .i64 0), (.int .i64 0)]))⟩, ⟨(some 8), none, .new (.agg [(.int .i64), (.int .i64)]) (.t (.agg [(.int .i64 0), (.int .i64 0)]))⟩, ⟨(some 9), none, .new (.agg [(.int .i64), (.int .i64)]) (.t (.agg [(.int .i64 0), (.int .i64 0)]))⟩, ⟨none, none, .st (.agg [(.int .i64), (.int .i64)]) (.s 7) (.s 45)⟩, ⟨none, none, .st (.agg [(.int .i64), (.int .i64)]) (.s 8) (.s 55)⟩, ⟨none, none, .st (.agg [(.int .i64), (.int .i64)]) (.s 9) (.s 65)⟩] [0, 1, 3, 7, 0, 16, 48, 112, 240, 511, 0, 1024, 3072, 7168, 0, 16384, 49152, 114688, 245760, 523264, 0, 1048576, 3145728, 7340032, 0, 16777216, 50331648, 117440512, 251658240, 535822336, 0, 0, 0, 7516193791, 16107175935, 34359738367])
 (.seq (.reg [⟨(some 67), none, .ld (.agg [(.int .i64), (.int .i64)]) (.s 7)⟩, ⟨(some 68), none, .ld (.agg [(.int .i64), (.int .i64)]) (.s 8)⟩, ⟨(some 69), none, .call false 25 (.tup [(.agg [(.int .i64), (.int .i64)]), (.int .i64)]) [(.s 67), (.s 68)]⟩, ⟨(some 66), none, .mov (.s 69)⟩, ⟨(some 70), none, .ext 0 (.s 66)⟩, ⟨(some 71), none, .ext 1 (.s 66)⟩, ⟨(some 10), none, .new (.agg [(.int .i64), (.int .i64)]) (.t (.agg [(.int .i64 0), (.int .i64 0)]))⟩, ⟨none, none, .st (.agg [(.int .i64), (.int .i64)]) (.s 10) (.s 70)⟩, ⟨(some 11), none, .mov (.s 71)⟩])
 (.seq (.reg [⟨(some 73), none, .ld (.agg [(.int .i64), (.int .i64)]) (.s 8)⟩, ⟨(some 74), none, .ld (.agg [(.int .i64), (.int .i64)]) (.s 7)⟩, ⟨(some 75), none, .call false 25 (.tup [(.agg [(.int .i64), (.int .i64)]), (.int .i64)]) [(.s 73), (.s 74)]⟩, ⟨(some 72), none, .mov (.s 75)⟩, ⟨(some 76), none, .ext 0 (.s 72)⟩, ⟨(some 77), none, .ext 1 (.s 72)⟩, ⟨(some 12), none, .new (.agg [(.int .i64), (.int .i64)]) (.t (.agg [(.int .i64 0), (.int .i64 0)]))⟩, ⟨none, none, .st (.agg [(.int .i64), (.int .i64)]) (.s 12) (.s 76)⟩, ⟨(some 13), none, .mov (.s 77)⟩])
 (.seq (.reg [⟨(some 79), none, .ld (.agg [(.int .i64), (.int .i64)]) (.s 8)⟩, ⟨(some 80), none, .ld (.agg [(.int .i64), (.int .i64)]) (.s 9)⟩, ⟨(some 81), none, .call false 25 (.tup [(.agg [(.int .i64), (.int .i64)]), (.int .i64)]) [(.s 79), (.s 80)]⟩, ⟨(some 78), none, .mov (.s 81)⟩, ⟨(some 82), none, .ext 0 (.s 78)⟩, ⟨(some 83), none, .ext 1 (.s 78)⟩, ⟨(some 14), none, .new (.agg [(.int .i64), (.int .i64)]) (.t (.agg [(.int .i64 0), (.int .i64 0)]))⟩, ⟨none, none, .st (.agg [(.int .i64), (.int .i64)]) (.s 14) (.s 82)⟩, ⟨(some 15), none, .mov (.s 83)⟩])
 (.seq (.reg [⟨(some 85), none, .ld (.agg [(.int .i64), (.int .i64)]) (.s 10)⟩, ⟨(some 86), none, .ld (.agg [(.int .i64), (.int .i64)]) (.s 9)⟩, ⟨(some 87), none, .call false 25 (.tup [(.agg [(.int .i64), (.int .i64)]), (.int .i64)]) [(.s 85), (.s 86)]⟩, ⟨(some 84), none, .mov (.s 87)⟩, ⟨(some 88), none, .ext 0 (.s 84)⟩, ⟨(some 89), none, .ext 1 (.s 84)⟩, ⟨(some 16), none, .new (.agg [(.int .i64), (.int .i64)]) (.t (.agg [(.int .i64 0), (.int .i64 0)]))⟩, ⟨none, none, .st (.agg [(.int .i64), (.int .i64)]) (.s 16) (.s 88)⟩, ⟨(some 17), none, .mov (.s 89)⟩])
 (.seq (.reg [⟨(some 91), none, .ld (.agg [(.int .i64), (.int .i64)]) (.s 7)⟩, ⟨(some 92), none, .ld (.agg [(.int .i64), (.int .i64)]) (.s 14)⟩, ⟨(some 93), none, .call false 25 (.tup [(.agg [(.int .i64), (.int .i64)]), (.int .i64)]) [(.s 91), (.s 92)]⟩, ⟨(some 90), none, .mov (.s 93)⟩, ⟨(some 94), none, .ext 0 (.s 90)⟩, ⟨(some 95), none, .ext 1 (.s 90)⟩, ⟨(some 18), none, .new (.agg [(.int .i64), (.int .i64)]) (.t (.agg [(.int .i64 0), (.int .i64 0)]))⟩, ⟨none, none, .st (.agg [(.int .i64), (.int .i64)]) (.s 18) (.s 94)⟩, ⟨(some 19), none, .mov (.s 95)⟩])
 (.seq (.seq (.reg [⟨(some 96), none, .mov (.s 11)⟩, ⟨(some 97), none, .bin .neq (.s 96) (.c (.t (.int .i64 0)))⟩, ⟨(some 98), none, .mov (.s 97)⟩, ⟨(some 99), (some (98, false)), .mov (.s 13)⟩, ⟨(some 100), (some (98, false)), .bin .neq (.s 99) (.c (.t (.int .i64 0)))⟩, ⟨(some 101), none, .pick (.s 98) (.c (.t (.bool true))) (.s 100)⟩, ⟨(some 102), none, .mov (.s 101)⟩, ⟨(some 103), (some (102, false)), .mov (.s 15)⟩, ⟨(some 104), (some (102, false)), .bin .neq (.s 103) (.c (.t (.int .i64 0)))⟩, ⟨(some 105), none, .pick (.s 102) (.c (.t (.bool true))) (.s 104)⟩, ⟨(some 106), none, .mov (.s 105)⟩, ⟨(some 107), (some (106, false)), .mov (.s 17)⟩, ⟨(some 108), (some (106, false)), .bin .neq (.s 107) (.c (.t (.int .i64 0)))⟩, ⟨(some 109), none, .pick (.s 106) (.c (.t (.bool true))) (.s 108)⟩, ⟨(some 110), none, .mov (.s 109)⟩, ⟨(some 111), (some (110, false)), .mov (.s 19)⟩, ⟨(some 112), (some (110, false)), .bin .neq (.s 111) (.c (.t (.int .i64 0)))⟩, ⟨(some 113), none, .pick (.s 110) (.c (.t (.bool true))) (.s 112)⟩, ⟨(some 114), none, .mov (.s 113)⟩, ⟨(some 115), (some (114, false)), .ld (.agg [(.int .i64), (.int .i64)]) (.s 10)⟩, ⟨(some 116), (some (114, false)), .ld (.agg [(.int .i64), (.int .i64)]) (.s 12)⟩, ⟨(some 117), (some (114, false)), .eqs true (.agg [(.int .i64), (.int .i64)]) (.s 115) (.s 116)⟩, ⟨(some 118), none, .pick (.s 114) (.c (.t (.bool true))) (.s 117)⟩, ⟨(some 119), none, .mov (.s 118)⟩, ⟨(some 120), (some (119, false)), .ld (.agg [(.int .i64), (.int .i64)]) (.s 16)⟩, ⟨(some 121), (some (119, false)), .ld (.agg [(.int .i64), (.int .i64)]) (.s 18)⟩, ⟨(some 122), (some (119, false)), .eqs true (.agg [(.int .i64), (.int .i64)]) (.s 120) (.s 121)⟩, ⟨(some 123), none, .pick (.s 119) (.c (.t (.bool true))) (.s 122)⟩])
 (.cond (.s 123)
 (.seq (.reg [⟨(some 6), none, .mov (.c (.t (.bool false)))⟩])
 .ret)
 .skip))
 (.seq (.reg [⟨(some 125), none, .ld (.agg [(.int .i64), (.int .i64)]) (.s 7)⟩, ⟨(some 126), none, .ld (.agg [(.int .i64), (.int .i64)]) (.s 9)⟩, ⟨(some 127), none, .call false 27 (.tup [(.agg [(.int .i64), (.int .i64)]), (.int .i64)]) [(.s 125), (.s 126)]⟩, ⟨(some 124), none, .mov (.s 127)⟩, ⟨(some 128), none, .ext 0 (.s 124)⟩, ⟨(some 129), none, .ext 1 (.s 124)⟩, ⟨(some 20), none, .new (.agg [(.int .i64), (.int .i64)]) (.t (.agg [(.int .i64 0), (.int .i64 0)]))⟩, ⟨none, none, .st (.agg [(.int .i64), (.int .i64)]) (.s 20) (.s 128)⟩, ⟨(some 11), none, .mov (.s 129)⟩])
 (.seq (.reg [⟨(some 131), none, .ld (.agg [(.int .i64), (.int .i64)]) (.s 8)⟩, ⟨(some 132), none, .ld (.agg [(.int .i64), (.int .i64)]) (.s 9)⟩, ⟨(some 133), none, .call false 27 (.tup [(.agg [(.int .i64), (.int .i64)]), (.int .i64)]) [(.s 131), (.s 132)]⟩, ⟨(some 130), none, .mov (.s 133)⟩, ⟨(some 134), none, .ext 0 (.s 130)⟩, ⟨(some 135), none, .ext 1 (.s 130)⟩, ⟨(some 21), none, .new (.agg [(.int .i64), (.int .i64)]) (.t (.agg [(.int .i64 0), (.int .i64 0)]))⟩, ⟨none, none, .st (.agg [(.int .i64), (.int .i64)]) (.s 21) (.s 134)⟩, ⟨(some 13), none, .mov (.s 135)⟩])
 (.seq (.reg [⟨(some 137), none, .ld (.agg [(.int .i64), (.int .i64)]) (.s 20)⟩, ⟨(some 138), none, .ld (.agg [(.int .i64), (.int .i64)]) (.s 21)⟩, ⟨(some 139), none, .call false 25 (.tup [(.agg [(.int .i64), (.int .i64)]), (.int .i64)]) [(.s 137), (.s 138)]⟩, ⟨(some 136), none, .mov (.s 139)⟩, ⟨(some 140), none, .ext 0 (.s 136)⟩, ⟨(some 141), none, .ext 1 (.s 136)⟩, ⟨(some 22), none, .new (.agg [(.int .i64), (.int .i64)]) (.t (.agg [(.int .i64 0), (.int .i64 0)]))⟩, ⟨none, none, .st (.agg [(.int .i64), (.int .i64)]) (.s 22) (.s 140)⟩, ⟨(some 15), none, .mov (.s 141)⟩])
 (.seq (.reg [⟨(some 143), none, .ld (.agg [(.int .i64), (.int .i64)]) (.s 10)⟩, ⟨(some 144), none, .ld (.agg [(.int .i64), (.int .i64)]) (.s 9)⟩, ⟨(some 145), none, .call false 27 (.tup [(.agg [(.int .i64), (.int .i64)]), (.int .i64)]) [(.s 143), (.s 144)]⟩, ⟨(some 142), none, .mov (.s 145)⟩, ⟨(some 146), none, .ext 0 (.s 142)⟩, ⟨(some 147), none, .ext 1 (.s 142)⟩, ⟨(some 23), none, .new (.agg [(.int .i64), (.int .i64)]) (.t (.agg [(.int .i64 0), (.int .i64 0)]))⟩, ⟨none, none, .st (.agg [(.int .i64), (.int .i64)]) (.s 23) (.s 146)⟩, ⟨(some 17), none, .mov (.s 147)⟩])
 (.seq (.seq (.reg [⟨(some 148), none, .mov (.s 11)⟩, ⟨(some 149), none, .bin .eql (.s 148) (.c (.t (.int .i64 0)))⟩, ⟨(some 150), none, .mov (.s 149)⟩, ⟨(some 151), (some (150, true)), .mov (.s 13)⟩, ⟨(some 152), (some (150, true)), .bin .eql (.s 151) (.c (.t (.int .i64 0)))⟩, ⟨(some 153), none, .pick (.s 150) (.s 152) (.c (.t (.bool false)))⟩, ⟨(some 154), none, .mov (.s 153)⟩, ⟨(some 155), (some (154, true)), .mov (.s 15)⟩, ⟨(some 156), (some (154, true)), .bin .eql (.s 155) (.c (.t (.int .i64 0)))⟩, ⟨(some 157), none, .pick (.s 154) (.s 156) (.c (.t (.bool false)))⟩, ⟨(some 158), none, .mov (.s 157)⟩, ⟨(some 159), (some (158, true)), .mov (.s 17)⟩, ⟨(some 160), (some (158, true)), .bin .eql (.s 159) (.c (.t (.int .i64 0)))⟩, ⟨(some 161), none, .pick (.s 158) (.s 160) (.c (.t (.bool false)))⟩, ⟨(some 162), none, .mov (.s 161)⟩, ⟨(some 163), (some (162, true)), .ld (.agg [(.int .i64), (.int .i64)]) (.s 22)⟩, ⟨(some 164), (some (162, true)), .ld (.agg [(.int .i64), (.int .i64)]) (.s 23)⟩, ⟨(some 165), (some (162, true)), .eqs true (.agg [(.int .i64), (.int .i64)]) (.s 163) (.s 164)⟩, ⟨(some 166), none, .pick (.s 162) (.s 165) (.c (.t (.bool false)))⟩])
 (.cond (.s 166)
 (.seq (.reg [⟨(some 6), none, .mov (.c (.t (.bool false)))⟩])
 .ret)
 .skip))
 (.seq (.reg [⟨(some 168), none, .ld (.agg [(.int .i64), (.int .i64)]) (.s 7)⟩, ⟨(some 169), none, .call false 29 (.tup [(.agg [(.int .i64), (.int .i64)]), (.int .i64)]) [(.s 168)]⟩, ⟨(some 167), none, .mov (.s 169)⟩, ⟨(some 170), none, .ext 0 (.s 167)⟩, ⟨(some 171), none, .ext 1 (.s 167)⟩, ⟨(some 24), none, .new (.agg [(.int .i64), (.int .i64)]) (.t (.agg [(.int .i64 0), (.int .i64 0)]))⟩, ⟨none, none, .st (.agg [(.int .i64), (.int .i64)]) (.s 24) (.s 170)⟩, ⟨(some 25), none, .mov (.s 171)⟩])
 (.seq (.seq (.reg [⟨(some 172), none, .mov (.s 25)⟩, ⟨(some 173), none, .bin .eql (.s 172) (.c (.t (.int .i64 230)))⟩, ⟨(some 174), none, .fa 0 (.s 7)⟩, ⟨(some 175), none, .ld (.int .i64) (.s 174)⟩, ⟨(some 176), none, .bin .eql (.s 175) (.c (.t (.int .i64 0)))⟩, ⟨(some 177), none, .eqs true .bool (.s 173) (.s 176)⟩])
 (.cond (.s 177)
 (.seq (.reg [⟨(some 6), none, .mov (.c (.t (.bool false)))⟩])
 .ret)
 .skip))
 (.seq (.seq (.reg [⟨(some 178), none, .mov (.s 25)⟩, ⟨(some 179), none, .bin .eql (.s 178) (.c (.t (.int .i64 0)))⟩])
 (.cond (.s 179)
 (.seq (.reg [⟨(some 181), none, .ld (.agg [(.int .i64), (.int .i64)]) (.s 7)⟩, ⟨(some 182), none, .ld (.agg [(.int .i64), (.int .i64)]) (.s 24)⟩, ⟨(some 183), none, .call false 27 (.tup [(.agg [(.int .i64), (.int .i64)]), (.int .i64)]) [(.s 181), (.s 182)]⟩, ⟨(some 180), none, .mov (.s 183)⟩, ⟨(some 184), none, .ext 0 (.s 180)⟩, ⟨(some 185), none, .ext 1 (.s 180)⟩, ⟨(some 26), none, .new (.agg [(.int .i64), (.int .i64)]) (.t (.agg [(.int .i64 0), (.int .i64 0)]))⟩, ⟨none, none, .st (.agg [(.int .i64), (.int .i64)]) (.s 26) (.s 184)⟩, ⟨(some 27), none, .mov (.s 185)⟩])
 (.seq (.reg [⟨(some 186), none, .mov (.s 27)⟩, ⟨(some 187), none, .bin .neq (.s 186) (.c (.t (.int .i64 0)))⟩, ⟨(some 188), none, .mov (.s 187)⟩, ⟨(some 189), (some (188, false)), .ld (.agg [(.int .i64), (.int .i64)]) (.s 26)⟩, ⟨(some 190), (some (188, false)), .build [(.t (.int .i64 0)), (.t (.int .i64 0))] [(0, (.int .i64), (.c (.t (.int .i64 1)))), (1, (.int .i64), (.c (.t (.int .i64 1))))]⟩, ⟨(some 191), (some (188, false)), .eqs true (.agg [(.int .i64), (.int .i64)]) (.s 189) (.s 190)⟩, ⟨(some 192), none, .pick (.s 188) (.c (.t (.bool true))) (.s 191)⟩])
 (.cond (.s 192)
 (.seq (.reg [⟨(some 6), none, .mov (.c (.t (.bool false)))⟩])
 .ret)
 .skip)))
 .skip))
 (.seq (.reg [⟨(some 194), none, .ld (.agg [(.int .i64), (.int .i64)]) (.s 7)⟩, ⟨(some 195), none, .ld (.agg [(.int .i64), (.int .i64)]) (.s 8)⟩, ⟨(some 196), none, .call false 31 (.tup [.bool, (.int .i64)]) [(.s 194), (.s 195)]⟩, ⟨(some 193), none, .mov (.s 196)⟩, ⟨(some 197), none, .ext 0 (.s 193)⟩, ⟨(some 198), none, .ext 1 (.s 193)⟩, ⟨(some 28), none, .mov (.s 197)⟩, ⟨(some 29), none, .mov (.s 198)⟩])
 (.seq (.reg [⟨(some 200), none, .ld (.agg [(.int .i64), (.int .i64)]) (.s 8)⟩, ⟨(some 201), none, .ld (.agg [(.int .i64), (.int .i64)]) (.s 7)⟩, ⟨(some 202), none, .call false 31 (.tup [.bool, (.int .i64)]) [(.s 200), (.s 201)]⟩, ⟨(some 199), none, .mov (.s 202)⟩, ⟨(some 203), none, .ext 0 (.s 199)⟩, ⟨(some 204), none, .ext 1 (.s 199)⟩, ⟨(some 30), none, .mov (.s 203)⟩, ⟨(some 31), none, .mov (.s 204)⟩])
 (.seq (.reg [⟨(some 206), none, .ld (.agg [(.int .i64), (.int .i64)]) (.s 7)⟩, ⟨(some 207), none, .call false 23 (.tup [(.agg [(.int .i64), (.int .i64)]), (.int .i64)]) [(.s 206)]⟩, ⟨(some 205), none, .mov (.s 207)⟩, ⟨(some 208), none, .ext 0 (.s 205)⟩, ⟨(some 209), none, .ext 1 (.s 205)⟩, ⟨(some 32), none, .new (.agg [(.int .i64), (.int .i64)]) (.t (.agg [(.int .i64 0), (.int .i64 0)]))⟩, ⟨none, none, .st (.agg [(.int .i64), (.int .i64)]) (.s 32) (.s 208)⟩, ⟨(some 33), none, .mov (.s 209)⟩])
 (.seq (.reg [⟨(some 211), none, .ld (.agg [(.int .i64), (.int .i64)]) (.s 8)⟩, ⟨(some 212), none, .call false 23 (.tup [(.agg [(.int .i64), (.int .i64)]), (.int .i64)]) [(.s 211)]⟩, ⟨(some 210), none, .mov (.s 212)⟩, ⟨(some 213), none, .ext 0 (.s 210)⟩, ⟨(some 214), none, .ext 1 (.s 210)⟩, ⟨(some 34), none, .new (.agg [(.int .i64), (.int .i64)]) (.t (.agg [(.int .i64 0), (.int .i64 0)]))⟩, ⟨none, none, .st (.agg [(.int .i64), (.int .i64)]) (.s 34) (.s 213)⟩, ⟨(some 35), none, .mov (.s 214)⟩])
 (.seq (.reg [⟨(some 215), none, .mov (.s 28)⟩, ⟨(some 216), none, .mov (.s 215)⟩, ⟨(some 217), (some (216, false)), .mov (.s 30)⟩, ⟨(some 218), none, .pick (.s 216) (.c (.t (.bool true))) (.s 217)⟩, ⟨(some 219), none, .mov (.s 218)⟩, ⟨(some 220), (some (219, true)), .mov (.s 28)⟩, ⟨(some 221), (some (219, true)), .mov (.s 220)⟩, ⟨(some 222), (some (221, true)), .mov (.s 30)⟩, ⟨(some 223), (some (219, true)), .pick (.s 221) (.s 222) (.c (.t (.bool false)))⟩, ⟨(some 224), (some (219, true)), .ld (.agg [(.int .i64), (.int .i64)]) (.s 32)⟩, ⟨(some 225), (some (219, true)), .ld (.agg [(.int .i64), (.int .i64)]) (.s 34)⟩, ⟨(some 226), (some (219, true)), .eqs false (.agg [(.int .i64), (.int .i64)]) (.s 224) (.s 225)⟩, ⟨(some 227), (some (219, true)), .eqs false .bool (.s 223) (.s 226)⟩, ⟨(some 228), none, .pick (.s 219) (.s 227) (.c (.t (.bool false)))⟩, ⟨(some 229), none, .mov (.s 228)⟩, ⟨(some 230), (some (229, true)), .call false 15 .bool []⟩, ⟨(some 231), none, .pick (.s 229) (.s 230) (.c (.t (.bool false)))⟩, ⟨(some 6), none, .mov (.s 231)⟩])
 .ret))))))))))))))))))))),
 [.slot 6]⟩
theorem ok6 : compF Try.prog 6 [] [] = some ir6 := by kernel_rfl

/-- tenet/quot.IntAdd -/
def ir10 : FInfo := ⟨32,
 (.seq (.reg [⟨(some 2), none, .box (.agg [(.int .i64), (.int .i64)]) (.s 0)⟩, ⟨(some 3), none, .box (.agg [(.int .i64), (.int .i64)]) (.s 1)⟩, ⟨(some 4), none, .new (.agg [(.int .i64), (.int .i64)]) (.t (.agg [(.int .i64 0), (.int .i64 0)]))⟩, ⟨(some 5), none, .mov (.c (.t (.int .i64 0)))⟩])
 (.seq (.seq (.reg [⟨(some 6), none, .iaa (.int .i64) 2 (.s 2) (.c (.t (.int .i64 0)))⟩, ⟨(some 7), none, .ld (.int .i64) (.s 6)⟩, ⟨(some 8), none, .iaa (.int .i64) 2 (.s 2) (.c (.t (.int .i64 1)))⟩, ⟨(some 9), none, .ld (.int .i64) (.s 8)⟩, ⟨(some 10), none, .iaa (.int .i64) 2 (.s 3) (.c (.t (.int .i64 0)))⟩, ⟨(some 11), none, .ld (.int .i64) (.s 10)⟩, ⟨(some 12), none, .iaa (.int .i64) 2 (.s 3) (.c (.t (.int .i64 1)))⟩, ⟨(some 13), none, .ld (.int .i64) (.s 12)⟩, ⟨(some 14), none, .bsl (.int .i64) (.t (.int .i64 0)) 4 [(0, (.s 7)), (1, (.s 9)), (2, (.s 11)), (3, (.s 13))]⟩, ⟨(some 15), none, .call false 49 .bool [(.s 14)]⟩, ⟨(some 16), none, .un .not (.s 15)⟩])
 (.cond (.s 16)
 (.seq (.reg [⟨(some 17), none, .build [(.t (.int .i64 0)), (.t (.int .i64 0))] []⟩, ⟨none, none, .st (.agg [(.int .i64), (.int .i64)]) (.s 4) (.s 17)⟩, ⟨(some 5), none, .mov (.c (.t (.int .i64 4)))⟩])
 .ret)
 .skip))
 (.seq (.reg [⟨(some 18), none, .iaa (.int .i64) 2 (.s 2) (.c (.t (.int .i64 0)))⟩, ⟨(some 19), none, .ld (.int .i64) (.s 18)⟩, ⟨(some 20), none, .iaa (.int .i64) 2 (.s 2) (.c (.t (.int .i64 1)))⟩, ⟨(some 21), none, .ld (.int .i64) (.s 20)⟩, ⟨(some 22), none, .bin .sub (.s 19) (.s 21)⟩, ⟨(some 23), none, .iaa (.int .i64) 2 (.s 3) (.c (.t (.int .i64 0)))⟩, ⟨(some 24), none, .ld (.int .i64) (.s 23)⟩, ⟨(some 25), none, .bin .add (.s 22) (.s 24)⟩, ⟨(some 26), none, .iaa (.int .i64) 2 (.s 3) (.c (.t (.int .i64 1)))⟩, ⟨(some 27), none, .ld (.int .i64) (.s 26)⟩, ⟨(some 28), none, .bin .sub (.s 25) (.s 27)⟩, ⟨(some 29), none, .call false 50 (.tup [(.agg [(.int .i64), (.int .i64)]), (.int .i64)]) [(.s 28)]⟩, ⟨(some 30), none, .ext 0 (.s 29)⟩, ⟨(some 31), none, .ext 1 (.s 29)⟩, ⟨none, none, .st (.agg [(.int .i64), (.int .i64)]) (.s 4) (.s 30)⟩, ⟨(some 5), none, .mov (.s 31)⟩])
 .ret))),
 [.cell 4 (.agg [(.int .i64), (.int .i64)]), .slot 5]⟩
theorem ok10 : compF Try.prog 10 [] [] = some ir10 := by kernel_rfl

/-- tenet/quot.IntNeg -/
def ir11 : FInfo := ⟨20,
 (.seq (.reg [⟨(some 1), none, .box (.agg [(.int .i64), (.int .i64)]) (.s 0)⟩, ⟨(some 2), none, .new (.agg [(.int .i64), (.int .i64)]) (.t (.agg [(.int .i64 0), (.int .i64 0)]))⟩, ⟨(some 3), none, .mov (.c (.t (.int .i64 0)))⟩])
 (.seq (.seq (.reg [⟨(some 4), none, .iaa (.int .i64) 2 (.s 1) (.c (.t (.int .i64 0)))⟩, ⟨(some 5), none, .ld (.int .i64) (.s 4)⟩, ⟨(some 6), none, .iaa (.int .i64) 2 (.s 1) (.c (.t (.int .i64 1)))⟩, ⟨(some 7), none, .ld (.int .i64) (.s 6)⟩, ⟨(some 8), none, .bsl (.int .i64) (.t (.int .i64 0)) 2 [(0, (.s 5)), (1, (.s 7))]⟩, ⟨(some 9), none, .call false 49 .bool [(.s 8)]⟩, ⟨(some 10), none, .un .not (.s 9)⟩])
 (.cond (.s 10)
 (.seq (.reg [⟨(some 11), none, .build [(.t (.int .i64 0)), (.t (.int .i64 0))] []⟩, ⟨none, none, .st (.agg [(.int .i64), (.int .i64)]) (.s 2) (.s 11)⟩, ⟨(some 3), none, .mov (.c (.t (.int .i64 4)))⟩])
 .ret)
 .skip))
 (.seq (.reg [⟨(some 12), none, .iaa (.int .i64) 2 (.s 1) (.c (.t (.int .i64 1)))⟩, ⟨(some 13), none, .ld (.int .i64) (.s 12)⟩, ⟨(some 14), none, .iaa (.int .i64) 2 (.s 1) (.c (.t (.int .i64 0)))⟩, ⟨(some 15), none, .ld (.int .i64) (.s 14)⟩, ⟨(some 16), none, .bin .sub (.s 13) (.s 15)⟩, ⟨(some 17), none, .call false 50 (.tup [(.agg [(.int .i64), (.int .i64)]), (.int .i64)]) [(.s 16)]⟩, ⟨(some 18), none, .ext 0 (.s 17)⟩, ⟨(some 19), none, .ext 1 (.s 17)⟩, ⟨none, none, .st (.agg [(.int .i64), (.int .i64)]) (.s 2) (.s 18)⟩, ⟨(some 3), none, .mov (.s 19)⟩])
 .ret))),
 [.cell 2 (.agg [(.int .i64), (.int .i64)]), .slot 3]⟩
theorem ok11 : compF Try.prog 11 [] [] = some ir11 := by kernel_rfl

/-- tenet/quot.IntMul -/
def ir12 : FInfo := ⟨42,
 (.seq (.reg [⟨(some 2), none, .box (.agg [(.int .i64), (.int .i64)]) (.s 0)⟩, ⟨(some 3), none, .box (.agg [(.int .i64), (.int .i64)]) (.s 1)⟩, ⟨(some 4), none, .new (.agg [(.int .i64), (.int .i64)]) (.t (.agg [(.int .i64 0), (.int .i64 0)]))⟩, ⟨(some 5), none, .mov (.c (.t (.int .i64 0)))⟩])
 (.seq (.seq (.reg [⟨(some 8), none, .iaa (.int .i64) 2 (.s 2) (.c (.t (.int .i64 0)))⟩, ⟨(some 9), none, .ld (.int .i64) (.s 8)⟩, ⟨(some 10), none, .iaa (.int .i64) 2 (.s 2) (.c (.t (.int .i64 1)))⟩, ⟨(some 11), none, .ld (.int .i64) (.s 10)⟩, ⟨(some 12), none, .iaa (.int .i64) 2 (.s 3) (.c (.t (.int .i64 0)))⟩, ⟨(some 13), none, .ld (.int .i64) (.s 12)⟩, ⟨(some 14), none, .iaa (.int .i64) 2 (.s 3) (.c (.t (.int .i64 1)))⟩, ⟨(some 15), none, .ld (.int .i64) (.s 14)⟩, ⟨(some 16), none, .bsl (.int .i64) (.t (.int .i64 0)) 4 [(0, (.s 9)), (1, (.s 11)), (2, (.s 13)), (3, (.s 15))]⟩, ⟨(some 17), none, .call false 49 .bool [(.s 16)]⟩, ⟨(some 18), none, .un .not (.s 17)⟩])
 (.cond (.s 18)
 (.seq (.reg [⟨(some 19), none, .build [(.t (.int .i64 0)), (.t (.int .i64 0))] []⟩, ⟨none, none, .st (.agg [(.int .i64), (.int .i64)]) (.s 4) (.s 19)⟩, ⟨(some 5), none, .mov (.c (.t (.int .i64 4)))⟩])
 .ret)
 .skip))
 (.seq (.reg [⟨(some 21), none, .iaa (.int .i64) 2 (.s 2) (.c (.t (.int .i64 0)))⟩, ⟨(some 22), none, .ld (.int .i64) (.s 21)⟩, ⟨(some 23), none, .iaa (.int .i64) 2 (.s 2) (.c (.t (.int .i64 1)))⟩, ⟨(some 24), none, .ld (.int .i64) (.s 23)⟩, ⟨(some 25), none, .bin .sub (.s 22) (.s 24)⟩, ⟨(some 26), none, .iaa (.int .i64) 2 (.s 3) (.c (.t (.int .i64 0)))⟩, ⟨(some 27), none, .ld (.int .i64) (.s 26)⟩, ⟨(some 28), none, .iaa (.int .i64) 2 (.s 3) (.c (.t (.int .i64 1)))⟩, ⟨(some 29), none, .ld (.int .i64) (.s 28)⟩, ⟨(some 30), none, .bin .sub (.s 27) (.s 29)⟩, ⟨(some 31), none, .call false 51 (.agg [.bool, (.int .u64), (.int .u64)]) [(.s 25), (.s 30)]⟩, ⟨(some 32), none, .call false 52 (.tup [(.int .i64), .bool]) [(.s 31)]⟩, ⟨(some 20), none, .mov (.s 32)⟩, ⟨(some 33), none, .ext 0 (.s 20)⟩, ⟨(some 34), none, .ext 1 (.s 20)⟩, ⟨(some 6), none, .mov (.s 33)⟩, ⟨(some 7), none, .mov (.s 34)⟩])
 (.seq (.seq (.reg [⟨(some 35), none, .mov (.s 7)⟩, ⟨(some 36), none, .un .not (.s 35)⟩])
 (.cond (.s 36)
 (.seq (.reg [⟨(some 37), none, .build [(.t (.int .i64 0)), (.t (.int .i64 0))] []⟩, ⟨none, none, .st (.agg [(.int .i64), (.int .i64)]) (.s 4) (.s 37)⟩, ⟨(some 5), none, .mov (.c (.t (.int .i64 2)))⟩])
 .ret)
 .skip))
 (.seq (.reg [⟨(some 38), none, .mov (.s 6)⟩, ⟨(some 39), none, .call false 50 (.tup [(.agg [(.int .i64), (.int .i64)]), (.int .i64)]) [(.s 38)]⟩, ⟨(some 40), none, .ext 0 (.s 39)⟩, ⟨(some 41), none, .ext 1 (.s 39)⟩, ⟨none, none, .st (.agg [(.int .i64), (.int .i64)]) (.s 4) (.s 40)⟩, ⟨(some 5), none, .mov (.s 41)⟩])
 .ret))))),
 [.cell 4 (.agg [(.int .i64), (.int .i64)]), .slot 5]⟩
theorem ok12 : compF Try.prog 12 [] [] = some ir12 := by kernel_rfl

/-- tenet/quot.IntLeq -/
def ir13 : FInfo := ⟨28,
 (.seq (.reg [⟨(some 2), none, .box (.agg [(.int .i64), (.int .i64)]) (.s 0)⟩, ⟨(some 3), none, .box (.agg [(.int .i64), (.int .i64)]) (.s 1)⟩, ⟨(some 4), none, .mov (.c (.t (.bool false)))⟩, ⟨(some 5), none, .mov (.c (.t (.int .i64 0)))⟩])
 (.seq (.seq (.reg [⟨(some 6), none, .iaa (.int .i64) 2 (.s 2) (.c (.t (.int .i64 0)))⟩, ⟨(some 7), none, .ld (.int .i64) (.s 6)⟩, ⟨(some 8), none, .iaa (.int .i64) 2 (.s 2) (.c (.t (.int .i64 1)))⟩, ⟨(some 9), none, .ld (.int .i64) (.s 8)⟩, ⟨(some 10), none, .iaa (.int .i64) 2 (.s 3) (.c (.t (.int .i64 0)))⟩, ⟨(some 11), none, .ld (.int .i64) (.s 10)⟩, ⟨(some 12), none, .iaa (.int .i64) 2 (.s 3) (.c (.t (.int .i64 1)))⟩, ⟨(some 13), none, .ld (.int .i64) (.s 12)⟩, ⟨(some 14), none, .bsl (.int .i64) (.t (.int .i64 0)) 4 [(0, (.s 7)), (1, (.s 9)), (2, (.s 11)), (3, (.s 13))]⟩, ⟨(some 15), none, .call false 49 .bool [(.s 14)]⟩, ⟨(some 16), none, .un .not (.s 15)⟩])
 (.cond (.s 16)
 (.seq (.reg [⟨(some 4), none, .mov (.c (.t (.bool false)))⟩, ⟨(some 5), none, .mov (.c (.t (.int .i64 4)))⟩])
 .ret)
 .skip))
 (.seq (.reg [⟨(some 17), none, .iaa (.int .i64) 2 (.s 2) (.c (.t (.int .i64 0)))⟩, ⟨(some 18), none, .ld (.int .i64) (.s 17)⟩, ⟨(some 19), none, .iaa (.int .i64) 2 (.s 2) (.c (.t (.int .i64 1)))⟩, ⟨(some 20), none, .ld (.int .i64) (.s 19)⟩, ⟨(some 21), none, .bin .sub (.s 18) (.s 20)⟩, ⟨(some 22), none, .iaa (.int .i64) 2 (.s 3) (.c (.t (.int .i64 0)))⟩, ⟨(some 23), none, .ld (.int .i64) (.s 22)⟩, ⟨(some 24), none, .iaa (.int .i64) 2 (.s 3) (.c (.t (.int .i64 1)))⟩, ⟨(some 25), none, .ld (.int .i64) (.s 24)⟩, ⟨(some 26), none, .bin .sub (.s 23) (.s 25)⟩, ⟨(some 27), none, .bin .leq (.s 21) (.s 26)⟩, ⟨(some 4), none, .mov (.s 27)⟩, ⟨(some 5), none, .mov (.c (.t (.int .i64 0)))⟩])
 .ret))),
 [.slot 4, .slot 5]⟩
theorem ok13 : compF Try.prog 13 [] [] = some ir13 := by kernel_rfl

/-- tenet/quot.IntSame -/
def ir14 : FInfo := ⟨28,
 (.seq (.reg [⟨(some 2), none, .box (.agg [(.int .i64), (.int .i64)]) (.s 0)⟩, ⟨(some 3), none, .box (.agg [(.int .i64), (.int .i64)]) (.s 1)⟩, ⟨(some 4), none, .mov (.c (.t (.bool false)))⟩, ⟨(some 5), none, .mov (.c (.t (.int .i64 0)))⟩])
 (.seq (.seq (.reg [⟨(some 6), none, .iaa (.int .i64) 2 (.s 2) (.c (.t (.int .i64 0)))⟩, ⟨(some 7), none, .ld (.int .i64) (.s 6)⟩, ⟨(some 8), none, .iaa (.int .i64) 2 (.s 2) (.c (.t (.int .i64 1)))⟩, ⟨(some 9), none, .ld (.int .i64) (.s 8)⟩, ⟨(some 10), none, .iaa (.int .i64) 2 (.s 3) (.c (.t (.int .i64 0)))⟩, ⟨(some 11), none, .ld (.int .i64) (.s 10)⟩, ⟨(some 12), none, .iaa (.int .i64) 2 (.s 3) (.c (.t (.int .i64 1)))⟩, ⟨(some 13), none, .ld (.int .i64) (.s 12)⟩, ⟨(some 14), none, .bsl (.int .i64) (.t (.int .i64 0)) 4 [(0, (.s 7)), (1, (.s 9)), (2, (.s 11)), (3, (.s 13))]⟩, ⟨(some 15), none, .call false 49 .bool [(.s 14)]⟩, ⟨(some 16), none, .un .not (.s 15)⟩])
 (.cond (.s 16)
 (.seq (.reg [⟨(some 4), none, .mov (.c (.t (.bool false)))⟩, ⟨(some 5), none, .mov (.c (.t (.int .i64 4)))⟩])
 .ret)
 .skip))
 (.seq (.reg [⟨(some 17), none, .iaa (.int .i64) 2 (.s 2) (.c (.t (.int .i64 0)))⟩, ⟨(some 18), none, .ld (.int .i64) (.s 17)⟩, ⟨(some 19), none, .iaa (.int .i64) 2 (.s 2) (.c (.t (.int .i64 1)))⟩, ⟨(some 20), none, .ld (.int .i64) (.s 19)⟩, ⟨(some 21), none, .bin .sub (.s 18) (.s 20)⟩, ⟨(some 22), none, .iaa (.int .i64) 2 (.s 3) (.c (.t (.int .i64 0)))⟩, ⟨(some 23), none, .ld (.int .i64) (.s 22)⟩, ⟨(some 24), none, .iaa (.int .i64) 2 (.s 3) (.c (.t (.int .i64 1)))⟩, ⟨(some 25), none, .ld (.int .i64) (.s 24)⟩, ⟨(some 26), none, .bin .sub (.s 23) (.s 25)⟩, ⟨(some 27), none, .bin .eql (.s 21) (.s 26)⟩, ⟨(some 4), none, .mov (.s 27)⟩, ⟨(some 5), none, .mov (.c (.t (.int .i64 0)))⟩])
 .ret))),
 [.slot 4, .slot 5]⟩
theorem ok14 : compF Try.prog 14 [] [] = some ir14 := by kernel_rfl

/-- tenet/tenetlaw23.awake -/
def ir15 : FInfo := ⟨16,
 (.seq (.reg [⟨(some 0), none, .mov (.c (.t (.bool false)))⟩])
 (.seq (.reg [⟨(some 4), none, .build [(.t (.int .i64 0)), (.t (.int .i64 0))] [(0, (.int .i64), (.c (.t (.int .i64 0)))), (1, (.int .i64), (.c (.t (.int .i64 3))))]⟩, ⟨(some 5), none, .build [(.t (.int .i64 0)), (.t (.int .i64 0))] [(0, (.int .i64), (.c (.t (.int .i64 2)))), (1, (.int .i64), (.c (.t (.int .i64 5))))]⟩, ⟨(some 6), none, .call false 12 (.tup [(.agg [(.int .i64), (.int .i64)]), (.int .i64)]) [(.s 4), (.s 5)]⟩, ⟨(some 3), none, .mov (.s 6)⟩, ⟨(some 7), none, .ext 0 (.s 3)⟩, ⟨(some 8), none, .ext 1 (.s 3)⟩, ⟨(some 1), none, .new (.agg [(.int .i64), (.int .i64)]) (.t (.agg [(.int .i64 0), (.int .i64 0)]))⟩, ⟨none, none, .st (.agg [(.int .i64), (.int .i64)]) (.s 1) (.s 7)⟩, ⟨(some 2), none, .mov (.s 8)⟩])
 (.seq (.reg [⟨(some 9), none, .mov (.s 2)⟩, ⟨(some 10), none, .bin .eql (.s 9) (.c (.t (.int .i64 0)))⟩, ⟨(some 11), none, .mov (.s 10)⟩, ⟨(some 12), (some (11, true)), .ld (.agg [(.int .i64), (.int .i64)]) (.s 1)⟩, ⟨(some 13), (some (11, true)), .build [(.t (.int .i64 0)), (.t (.int .i64 0))] [(0, (.int .i64), (.c (.t (.int .i64 9)))), (1, (.int .i64), (.c (.t (.int .i64 0))))]⟩, ⟨(some 14), (some (11, true)), .eqs false (.agg [(.int .i64), (.int .i64)]) (.s 12) (.s 13)⟩, ⟨(some 15), none, .pick (.s 11) (.s 14) (.c (.t (.bool false)))⟩, ⟨(some 0), none, .mov (.s 15)⟩])
 .ret))),
 [.slot 0]⟩
theorem ok15 : compF Try.prog 15 [] [] = some ir15 := by kernel_rfl

/-- tenet/quot.IntNormal -/
def ir16 : FInfo := ⟨20,
 (.seq (.reg [⟨(some 1), none, .box (.agg [(.int .i64), (.int .i64)]) (.s 0)⟩, ⟨(some 2), none, .new (.agg [(.int .i64), (.int .i64)]) (.t (.agg [(.int .i64 0), (.int .i64 0)]))⟩, ⟨(some 3), none, .mov (.c (.t (.int .i64 0)))⟩])
 (.seq (.seq (.reg [⟨(some 4), none, .iaa (.int .i64) 2 (.s 1) (.c (.t (.int .i64 0)))⟩, ⟨(some 5), none, .ld (.int .i64) (.s 4)⟩, ⟨(some 6), none, .iaa (.int .i64) 2 (.s 1) (.c (.t (.int .i64 1)))⟩, ⟨(some 7), none, .ld (.int .i64) (.s 6)⟩, ⟨(some 8), none, .bsl (.int .i64) (.t (.int .i64 0)) 2 [(0, (.s 5)), (1, (.s 7))]⟩, ⟨(some 9), none, .call false 49 .bool [(.s 8)]⟩, ⟨(some 10), none, .un .not (.s 9)⟩])
 (.cond (.s 10)
 (.seq (.reg [⟨(some 11), none, .build [(.t (.int .i64 0)), (.t (.int .i64 0))] []⟩, ⟨none, none, .st (.agg [(.int .i64), (.int .i64)]) (.s 2) (.s 11)⟩, ⟨(some 3), none, .mov (.c (.t (.int .i64 4)))⟩])
 .ret)
 .skip))
 (.seq (.reg [⟨(some 12), none, .iaa (.int .i64) 2 (.s 1) (.c (.t (.int .i64 0)))⟩, ⟨(some 13), none, .ld (.int .i64) (.s 12)⟩, ⟨(some 14), none, .iaa (.int .i64) 2 (.s 1) (.c (.t (.int .i64 1)))⟩, ⟨(some 15), none, .ld (.int .i64) (.s 14)⟩, ⟨(some 16), none, .bin .sub (.s 13) (.s 15)⟩, ⟨(some 17), none, .call false 50 (.tup [(.agg [(.int .i64), (.int .i64)]), (.int .i64)]) [(.s 16)]⟩, ⟨(some 18), none, .ext 0 (.s 17)⟩, ⟨(some 19), none, .ext 1 (.s 17)⟩, ⟨none, none, .st (.agg [(.int .i64), (.int .i64)]) (.s 2) (.s 18)⟩, ⟨(some 3), none, .mov (.s 19)⟩])
 .ret))),
 [.cell 2 (.agg [(.int .i64), (.int .i64)]), .slot 3]⟩
theorem ok16 : compF Try.prog 16 [] [] = some ir16 := by kernel_rfl

/-- tenet/tenetref23.IntNormal -/
def ir17 : FInfo := ⟨16,
 (.seq (.reg [⟨(some 1), none, .box (.agg [(.int .i64), (.int .i64)]) (.s 0)⟩, ⟨(some 2), none, .new (.agg [(.int .i64), (.int .i64)]) (.t (.agg [(.int .i64 0), (.int .i64 0)]))⟩, ⟨(some 3), none, .mov (.c (.t (.int .i64 0)))⟩])
 (.seq (.seq (.reg [⟨(some 4), none, .ld (.agg [(.int .i64), (.int .i64)]) (.s 1)⟩, ⟨(some 5), none, .call false 53 .bool [(.s 4)]⟩, ⟨(some 6), none, .un .not (.s 5)⟩])
 (.cond (.s 6)
 (.seq (.reg [⟨(some 7), none, .build [(.t (.int .i64 0)), (.t (.int .i64 0))] []⟩, ⟨none, none, .st (.agg [(.int .i64), (.int .i64)]) (.s 2) (.s 7)⟩, ⟨(some 3), none, .mov (.c (.t (.int .i64 4)))⟩])
 .ret)
 .skip))
 (.seq (.reg [⟨(some 8), none, .iaa (.int .i64) 2 (.s 1) (.c (.t (.int .i64 0)))⟩, ⟨(some 9), none, .ld (.int .i64) (.s 8)⟩, ⟨(some 10), none, .iaa (.int .i64) 2 (.s 1) (.c (.t (.int .i64 1)))⟩, ⟨(some 11), none, .ld (.int .i64) (.s 10)⟩, ⟨(some 12), none, .bin .sub (.s 9) (.s 11)⟩, ⟨(some 13), none, .call false 54 (.tup [(.agg [(.int .i64), (.int .i64)]), (.int .i64)]) [(.s 12)]⟩, ⟨(some 14), none, .ext 0 (.s 13)⟩, ⟨(some 15), none, .ext 1 (.s 13)⟩, ⟨none, none, .st (.agg [(.int .i64), (.int .i64)]) (.s 2) (.s 14)⟩, ⟨(some 3), none, .mov (.s 15)⟩])
 .ret))),
 [.cell 2 (.agg [(.int .i64), (.int .i64)]), .slot 3]⟩
theorem ok17 : compF Try.prog 17 [] [] = some ir17 := by kernel_rfl

/-- tenet/tenetref23.IntAdd -/
def ir18 : FInfo := ⟨29,
 (.seq (.reg [⟨(some 2), none, .box (.agg [(.int .i64), (.int .i64)]) (.s 0)⟩, ⟨(some 3), none, .box (.agg [(.int .i64), (.int .i64)]) (.s 1)⟩, ⟨(some 4), none, .new (.agg [(.int .i64), (.int .i64)]) (.t (.agg [(.int .i64 0), (.int .i64 0)]))⟩, ⟨(some 5), none, .mov (.c (.t (.int .i64 0)))⟩])
 (.seq (.seq (.reg [⟨(some 6), none, .ld (.agg [(.int .i64), (.int .i64)]) (.s 2)⟩, ⟨(some 7), none, .call false 53 .bool [(.s 6)]⟩, ⟨(some 8), none, .un .not (.s 7)⟩, ⟨(some 9), none, .mov (.s 8)⟩, ⟨(some 10), (some (9, false)), .ld (.agg [(.int .i64), (.int .i64)]) (.s 3)⟩, ⟨(some 11), (some (9, false)), .call false 53 .bool [(.s 10)]⟩, ⟨(some 12), (some (9, false)), .un .not (.s 11)⟩, ⟨(some 13), none, .pick (.s 9) (.c (.t (.bool true))) (.s 12)⟩])
 (.cond (.s 13)
 (.seq (.reg [⟨(some 14), none, .build [(.t (.int .i64 0)), (.t (.int .i64 0))] []⟩, ⟨none, none, .st (.agg [(.int .i64), (.int .i64)]) (.s 4) (.s 14)⟩, ⟨(some 5), none, .mov (.c (.t (.int .i64 4)))⟩])
 .ret)
 .skip))
 (.seq (.reg [⟨(some 15), none, .iaa (.int .i64) 2 (.s 2) (.c (.t (.int .i64 0)))⟩, ⟨(some 16), none, .ld (.int .i64) (.s 15)⟩, ⟨(some 17), none, .iaa (.int .i64) 2 (.s 2) (.c (.t (.int .i64 1)))⟩, ⟨(some 18), none, .ld (.int .i64) (.s 17)⟩, ⟨(some 19), none, .bin .sub (.s 16) (.s 18)⟩, ⟨(some 20), none, .iaa (.int .i64) 2 (.s 3) (.c (.t (.int .i64 0)))⟩, ⟨(some 21), none, .ld (.int .i64) (.s 20)⟩, ⟨(some 22), none, .bin .add (.s 19) (.s 21)⟩, ⟨(some 23), none, .iaa (.int .i64) 2 (.s 3) (.c (.t (.int .i64 1)))⟩, ⟨(some 24), none, .ld (.int .i64) (.s 23)⟩, ⟨(some 25), none, .bin .sub (.s 22) (.s 24)⟩, ⟨(some 26), none, .call false 54 (.tup [(.agg [(.int .i64), (.int .i64)]), (.int .i64)]) [(.s 25)]⟩, ⟨(some 27), none, .ext 0 (.s 26)⟩, ⟨(some 28), none, .ext 1 (.s 26)⟩, ⟨none, none, .st (.agg [(.int .i64), (.int .i64)]) (.s 4) (.s 27)⟩, ⟨(some 5), none, .mov (.s 28)⟩])
 .ret))),
 [.cell 4 (.agg [(.int .i64), (.int .i64)]), .slot 5]⟩
theorem ok18 : compF Try.prog 18 [] [] = some ir18 := by kernel_rfl

/-- tenet/tenetref23.IntMul -/
def ir19 : FInfo := ⟨41,
 (.seq (.reg [⟨(some 2), none, .box (.agg [(.int .i64), (.int .i64)]) (.s 0)⟩, ⟨(some 3), none, .box (.agg [(.int .i64), (.int .i64)]) (.s 1)⟩, ⟨(some 4), none, .new (.agg [(.int .i64), (.int .i64)]) (.t (.agg [(.int .i64 0), (.int .i64 0)]))⟩, ⟨(some 5), none, .mov (.c (.t (.int .i64 0)))⟩])
 (.seq (.seq (.reg [⟨(some 7), none, .ld (.agg [(.int .i64), (.int .i64)]) (.s 2)⟩, ⟨(some 8), none, .call false 53 .bool [(.s 7)]⟩, ⟨(some 9), none, .un .not (.s 8)⟩, ⟨(some 10), none, .mov (.s 9)⟩, ⟨(some 11), (some (10, false)), .ld (.agg [(.int .i64), (.int .i64)]) (.s 3)⟩, ⟨(some 12), (some (10, false)), .call false 53 .bool [(.s 11)]⟩, ⟨(some 13), (some (10, false)), .un .not (.s 12)⟩, ⟨(some 14), none, .pick (.s 10) (.c (.t (.bool true))) (.s 13)⟩])
 (.cond (.s 14)
 (.seq (.reg [⟨(some 15), none, .build [(.t (.int .i64 0)), (.t (.int .i64 0))] []⟩, ⟨none, none, .st (.agg [(.int .i64), (.int .i64)]) (.s 4) (.s 15)⟩, ⟨(some 5), none, .mov (.c (.t (.int .i64 4)))⟩])
 .ret)
 .skip))
 (.seq (.reg [⟨(some 16), none, .iaa (.int .i64) 2 (.s 2) (.c (.t (.int .i64 0)))⟩, ⟨(some 17), none, .ld (.int .i64) (.s 16)⟩, ⟨(some 18), none, .iaa (.int .i64) 2 (.s 2) (.c (.t (.int .i64 1)))⟩, ⟨(some 19), none, .ld (.int .i64) (.s 18)⟩, ⟨(some 20), none, .bin .sub (.s 17) (.s 19)⟩, ⟨(some 21), none, .iaa (.int .i64) 2 (.s 3) (.c (.t (.int .i64 0)))⟩, ⟨(some 22), none, .ld (.int .i64) (.s 21)⟩, ⟨(some 23), none, .iaa (.int .i64) 2 (.s 3) (.c (.t (.int .i64 1)))⟩, ⟨(some 24), none, .ld (.int .i64) (.s 23)⟩, ⟨(some 25), none, .bin .sub (.s 22) (.s 24)⟩, ⟨(some 26), none, .call false 55 (.agg [.bool, (.int .u64), (.int .u64)]) [(.s 20), (.s 25)]⟩, ⟨(some 6), none, .new (.agg [.bool, (.int .u64), (.int .u64)]) (.t (.agg [(.bool false), (.int .u64 0), (.int .u64 0)]))⟩, ⟨none, none, .st (.agg [.bool, (.int .u64), (.int .u64)]) (.s 6) (.s 26)⟩])
 (.seq (.seq (.reg [⟨(some 27), none, .fa 1 (.s 6)⟩, ⟨(some 28), none, .ld (.int .u64) (.s 27)⟩, ⟨(some 29), none, .bin .neq (.s 28) (.c (.t (.int .u64 0)))⟩, ⟨(some 30), none, .mov (.s 29)⟩, ⟨(some 31), (some (30, false)), .fa 2 (.s 6)⟩, ⟨(some 32), (some (30, false)), .ld (.int .u64) (.s 31)⟩, ⟨(some 33), (some (30, false)), .bin .gtr (.s 32) (.c (.t (.int .u64 1099511627776)))⟩, ⟨(some 34), none, .pick (.s 30) (.c (.t (.bool true))) (.s 33)⟩])
 (.cond (.s 34)
 (.seq (.reg [⟨(some 35), none, .build [(.t (.int .i64 0)), (.t (.int .i64 0))] []⟩, ⟨none, none, .st (.agg [(.int .i64), (.int .i64)]) (.s 4) (.s 35)⟩, ⟨(some 5), none, .mov (.c (.t (.int .i64 2)))⟩])
 .ret)
 .skip))
 (.seq (.reg [⟨(some 36), none, .ld (.agg [.bool, (.int .u64), (.int .u64)]) (.s 6)⟩, ⟨(some 37), none, .call false 56 (.int .i64) [(.s 36)]⟩, ⟨(some 38), none, .call false 54 (.tup [(.agg [(.int .i64), (.int .i64)]), (.int .i64)]) [(.s 37)]⟩, ⟨(some 39), none, .ext 0 (.s 38)⟩, ⟨(some 40), none, .ext 1 (.s 38)⟩, ⟨none, none, .st (.agg [(.int .i64), (.int .i64)]) (.s 4) (.s 39)⟩, ⟨(some 5), none, .mov (.s 40)⟩])
 .ret))))),
 [.cell 4 (.agg [(.int .i64), (.int .i64)]), .slot 5]⟩
theorem ok19 : compF Try.prog 19 [] [] = some ir19 := by kernel_rfl

/-- tenet/tenetref23.IntNeg -/
def ir20 : FInfo := ⟨16,
 (.seq (.reg [⟨(some 1), none, .box (.agg [(.int .i64), (.int .i64)]) (.s 0)⟩, ⟨(some 2), none, .new (.agg [(.int .i64), (.int .i64)]) (.t (.agg [(.int .i64 0), (.int .i64 0)]))⟩, ⟨(some 3), none, .mov (.c (.t (.int .i64 0)))⟩])
 (.seq (.seq (.reg [⟨(some 4), none, .ld (.agg [(.int .i64), (.int .i64)]) (.s 1)⟩, ⟨(some 5), none, .call false 53 .bool [(.s 4)]⟩, ⟨(some 6), none, .un .not (.s 5)⟩])
 (.cond (.s 6)
 (.seq (.reg [⟨(some 7), none, .build [(.t (.int .i64 0)), (.t (.int .i64 0))] []⟩, ⟨none, none, .st (.agg [(.int .i64), (.int .i64)]) (.s 2) (.s 7)⟩, ⟨(some 3), none, .mov (.c (.t (.int .i64 4)))⟩])
 .ret)
 .skip))
 (.seq (.reg [⟨(some 8), none, .iaa (.int .i64) 2 (.s 1) (.c (.t (.int .i64 1)))⟩, ⟨(some 9), none, .ld (.int .i64) (.s 8)⟩, ⟨(some 10), none, .iaa (.int .i64) 2 (.s 1) (.c (.t (.int .i64 0)))⟩, ⟨(some 11), none, .ld (.int .i64) (.s 10)⟩, ⟨(some 12), none, .bin .sub (.s 9) (.s 11)⟩, ⟨(some 13), none, .call false 54 (.tup [(.agg [(.int .i64), (.int .i64)]), (.int .i64)]) [(.s 12)]⟩, ⟨(some 14), none, .ext 0 (.s 13)⟩, ⟨(some 15), none, .ext 1 (.s 13)⟩, ⟨none, none, .st (.agg [(.int .i64), (.int .i64)]) (.s 2) (.s 14)⟩, ⟨(some 3), none, .mov (.s 15)⟩])
 .ret))),
 [.cell 2 (.agg [(.int .i64), (.int .i64)]), .slot 3]⟩
theorem ok20 : compF Try.prog 20 [] [] = some ir20 := by kernel_rfl

/-- tenet/tenetref23.IntLeq -/
def ir21 : FInfo := ⟨25,
 (.seq (.reg [⟨(some 2), none, .box (.agg [(.int .i64), (.int .i64)]) (.s 0)⟩, ⟨(some 3), none, .box (.agg [(.int .i64), (.int .i64)]) (.s 1)⟩, ⟨(some 4), none, .mov (.c (.t (.bool false)))⟩, ⟨(some 5), none, .mov (.c (.t (.int .i64 0)))⟩])
 (.seq (.seq (.reg [⟨(some 6), none, .ld (.agg [(.int .i64), (.int .i64)]) (.s 2)⟩, ⟨(some 7), none, .call false 53 .bool [(.s 6)]⟩, ⟨(some 8), none, .un .not (.s 7)⟩, ⟨(some 9), none, .mov (.s 8)⟩, ⟨(some 10), (some (9, false)), .ld (.agg [(.int .i64), (.int .i64)]) (.s 3)⟩, ⟨(some 11), (some (9, false)), .call false 53 .bool [(.s 10)]⟩, ⟨(some 12), (some (9, false)), .un .not (.s 11)⟩, ⟨(some 13), none, .pick (.s 9) (.c (.t (.bool true))) (.s 12)⟩])
 (.cond (.s 13)
 (.seq (.reg [⟨(some 4), none, .mov (.c (.t (.bool false)))⟩, ⟨(some 5), none, .mov (.c (.t (.int .i64 4)))⟩])
 .ret)
 .skip))
 (.seq (.reg [⟨(some 14), none, .iaa (.int .i64) 2 (.s 2) (.c (.t (.int .i64 0)))⟩, ⟨(some 15), none, .ld (.int .i64) (.s 14)⟩, ⟨(some 16), none, .iaa (.int .i64) 2 (.s 2) (.c (.t (.int .i64 1)))⟩, ⟨(some 17), none, .ld (.int .i64) (.s 16)⟩, ⟨(some 18), none, .bin .sub (.s 15) (.s 17)⟩, ⟨(some 19), none, .iaa (.int .i64) 2 (.s 3) (.c (.t (.int .i64 0)))⟩, ⟨(some 20), none, .ld (.int .i64) (.s 19)⟩, ⟨(some 21), none, .iaa (.int .i64) 2 (.s 3) (.c (.t (.int .i64 1)))⟩, ⟨(some 22), none, .ld (.int .i64) (.s 21)⟩, ⟨(some 23), none, .bin .sub (.s 20) (.s 22)⟩, ⟨(some 24), none, .bin .leq (.s 18) (.s 23)⟩, ⟨(some 4), none, .mov (.s 24)⟩, ⟨(some 5), none, .mov (.c (.t (.int .i64 0)))⟩])
 .ret))),
 [.slot 4, .slot 5]⟩
theorem ok21 : compF Try.prog 21 [] [] = some ir21 := by kernel_rfl

/-- tenet/tenetref23.IntSame -/
def ir22 : FInfo := ⟨25,
 (.seq (.reg [⟨(some 2), none, .box (.agg [(.int .i64), (.int .i64)]) (.s 0)⟩, ⟨(some 3), none, .box (.agg [(.int .i64), (.int .i64)]) (.s 1)⟩, ⟨(some 4), none, .mov (.c (.t (.bool false)))⟩, ⟨(some 5), none, .mov (.c (.t (.int .i64 0)))⟩])
 (.seq (.seq (.reg [⟨(some 6), none, .ld (.agg [(.int .i64), (.int .i64)]) (.s 2)⟩, ⟨(some 7), none, .call false 53 .bool [(.s 6)]⟩, ⟨(some 8), none, .un .not (.s 7)⟩, ⟨(some 9), none, .mov (.s 8)⟩, ⟨(some 10), (some (9, false)), .ld (.agg [(.int .i64), (.int .i64)]) (.s 3)⟩, ⟨(some 11), (some (9, false)), .call false 53 .bool [(.s 10)]⟩, ⟨(some 12), (some (9, false)), .un .not (.s 11)⟩, ⟨(some 13), none, .pick (.s 9) (.c (.t (.bool true))) (.s 12)⟩])
 (.cond (.s 13)
 (.seq (.reg [⟨(some 4), none, .mov (.c (.t (.bool false)))⟩, ⟨(some 5), none, .mov (.c (.t (.int .i64 4)))⟩])
 .ret)
 .skip))
 (.seq (.reg [⟨(some 14), none, .iaa (.int .i64) 2 (.s 2) (.c (.t (.int .i64 0)))⟩, ⟨(some 15), none, .ld (.int .i64) (.s 14)⟩, ⟨(some 16), none, .iaa (.int .i64) 2 (.s 2) (.c (.t (.int .i64 1)))⟩, ⟨(some 17), none, .ld (.int .i64) (.s 16)⟩, ⟨(some 18), none, .bin .sub (.s 15) (.s 17)⟩, ⟨(some 19), none, .iaa (.int .i64) 2 (.s 3) (.c (.t (.int .i64 0)))⟩, ⟨(some 20), none, .ld (.int .i64) (.s 19)⟩, ⟨(some 21), none, .iaa (.int .i64) 2 (.s 3) (.c (.t (.int .i64 1)))⟩, ⟨(some 22), none, .ld (.int .i64) (.s 21)⟩, ⟨(some 23), none, .bin .sub (.s 20) (.s 22)⟩, ⟨(some 24), none, .bin .eql (.s 18) (.s 23)⟩, ⟨(some 4), none, .mov (.s 24)⟩, ⟨(some 5), none, .mov (.c (.t (.int .i64 0)))⟩])
 .ret))),
 [.slot 4, .slot 5]⟩
theorem ok22 : compF Try.prog 22 [] [] = some ir22 := by kernel_rfl

/-- tenet/quot.RatNormal -/
def ir23 : FInfo := ⟨10,
 (.seq (.reg [⟨(some 1), none, .box (.agg [(.int .i64), (.int .i64)]) (.s 0)⟩, ⟨(some 2), none, .new (.agg [(.int .i64), (.int .i64)]) (.t (.agg [(.int .i64 0), (.int .i64 0)]))⟩, ⟨(some 3), none, .mov (.c (.t (.int .i64 0)))⟩])
 (.seq (.seq (.reg [⟨(some 4), none, .ld (.agg [(.int .i64), (.int .i64)]) (.s 1)⟩, ⟨(some 5), none, .call false 57 .bool [(.s 4)]⟩, ⟨(some 6), none, .un .not (.s 5)⟩])
 (.cond (.s 6)
 (.seq (.reg [⟨(some 7), none, .build [(.t (.int .i64 0)), (.t (.int .i64 0))] []⟩, ⟨none, none, .st (.agg [(.int .i64), (.int .i64)]) (.s 2) (.s 7)⟩, ⟨(some 3), none, .mov (.c (.t (.int .i64 4)))⟩])
 .ret)
 .skip))
 (.seq (.reg [⟨(some 8), none, .ld (.agg [(.int .i64), (.int .i64)]) (.s 1)⟩, ⟨(some 9), none, .call false 58 (.agg [(.int .i64), (.int .i64)]) [(.s 8)]⟩, ⟨none, none, .st (.agg [(.int .i64), (.int .i64)]) (.s 2) (.s 9)⟩, ⟨(some 3), none, .mov (.c (.t (.int .i64 0)))⟩])
 .ret))),
 [.cell 2 (.agg [(.int .i64), (.int .i64)]), .slot 3]⟩
theorem ok23 : compF Try.prog 23 [] [] = some ir23 := by kernel_rfl

/-- tenet/tenetref23.RatNormal -/
def ir24 : FInfo := ⟨10,
 (.seq (.reg [⟨(some 1), none, .box (.agg [(.int .i64), (.int .i64)]) (.s 0)⟩, ⟨(some 2), none, .new (.agg [(.int .i64), (.int .i64)]) (.t (.agg [(.int .i64 0), (.int .i64 0)]))⟩, ⟨(some 3), none, .mov (.c (.t (.int .i64 0)))⟩])
 (.seq (.seq (.reg [⟨(some 4), none, .ld (.agg [(.int .i64), (.int .i64)]) (.s 1)⟩, ⟨(some 5), none, .call false 59 .bool [(.s 4)]⟩, ⟨(some 6), none, .un .not (.s 5)⟩])
 (.cond (.s 6)
 (.seq (.reg [⟨(some 7), none, .build [(.t (.int .i64 0)), (.t (.int .i64 0))] []⟩, ⟨none, none, .st (.agg [(.int .i64), (.int .i64)]) (.s 2) (.s 7)⟩, ⟨(some 3), none, .mov (.c (.t (.int .i64 4)))⟩])
 .ret)
 .skip))
 (.seq (.reg [⟨(some 8), none, .ld (.agg [(.int .i64), (.int .i64)]) (.s 1)⟩, ⟨(some 9), none, .call false 60 (.agg [(.int .i64), (.int .i64)]) [(.s 8)]⟩, ⟨none, none, .st (.agg [(.int .i64), (.int .i64)]) (.s 2) (.s 9)⟩, ⟨(some 3), none, .mov (.c (.t (.int .i64 0)))⟩])
 .ret))),
 [.cell 2 (.agg [(.int .i64), (.int .i64)]), .slot 3]⟩
theorem ok24 : compF Try.prog 24 [] [] = some ir24 := by kernel_rfl

/-- tenet/quot.RatAdd -/
def ir25 : FInfo := ⟨38,
 (.seq (.reg [⟨(some 2), none, .box (.agg [(.int .i64), (.int .i64)]) (.s 0)⟩, ⟨(some 3), none, .box (.agg [(.int .i64), (.int .i64)]) (.s 1)⟩, ⟨(some 4), none, .new (.agg [(.int .i64), (.int .i64)]) (.t (.agg [(.int .i64 0), (.int .i64 0)]))⟩, ⟨(some 5), none, .mov (.c (.t (.int .i64 0)))⟩])
 (.seq (.seq (.reg [⟨(some 6), none, .ld (.agg [(.int .i64), (.int .i64)]) (.s 2)⟩, ⟨(some 7), none, .call false 57 .bool [(.s 6)]⟩, ⟨(some 8), none, .un .not (.s 7)⟩, ⟨(some 9), none, .mov (.s 8)⟩, ⟨(some 10), (some (9, false)), .ld (.agg [(.int .i64), (.int .i64)]) (.s 3)⟩, ⟨(some 11), (some (9, false)), .call false 57 .bool [(.s 10)]⟩, ⟨(some 12), (some (9, false)), .un .not (.s 11)⟩, ⟨(some 13), none, .pick (.s 9) (.c (.t (.bool true))) (.s 12)⟩])
 (.cond (.s 13)
 (.seq (.reg [⟨(some 14), none, .build [(.t (.int .i64 0)), (.t (.int .i64 0))] []⟩, ⟨none, none, .st (.agg [(.int .i64), (.int .i64)]) (.s 4) (.s 14)⟩, ⟨(some 5), none, .mov (.c (.t (.int .i64 4)))⟩])
 .ret)
 .skip))
 (.seq (.dreg [⟨(some 15), none, .ld (.agg [(.int .i64), (.int .i64)]) (.s 2)⟩, ⟨(some 16), none, .call false 58 (.agg [(.int .i64), (.int .i64)]) [(.s 15)]⟩, ⟨(some 17), none, .ld (.agg [(.int .i64), (.int .i64)]) (.s 3)⟩, ⟨(some 18), none, .call false 58 (.agg [(.int .i64), (.int .i64)]) [(.s 17)]⟩, ⟨none, none, .st (.agg [(.int .i64), (.int .i64)]) (.s 2) (.s 16)⟩, ⟨none, none, .st (.agg [(.int .i64), (.int .i64)]) (.s 3) (.s 18)⟩] [0, 1, 0, 7, 15, 31])
 (.seq (.dreg [⟨(some 19), none, .fa 0 (.s 2)⟩, ⟨(some 20), none, .ld (.int .i64) (.s 19)⟩, ⟨(some 21), none, .fa 1 (.s 3)⟩, ⟨(some 22), none, .ld (.int .i64) (.s 21)⟩, ⟨(some 23), none, .call false 51 (.agg [.bool, (.int .u64), (.int .u64)]) [(.s 20), (.s 22)]⟩, ⟨(some 24), none, .fa 0 (.s 3)⟩, ⟨(some 25), none, .ld (.int .i64) (.s 24)⟩, ⟨(some 26), none, .fa 1 (.s 2)⟩, ⟨(some 27), none, .ld (.int .i64) (.s 26)⟩, ⟨(some 28), none, .call false 51 (.agg [.bool, (.int .u64), (.int .u64)]) [(.s 25), (.s 27)]⟩, ⟨(some 29), none, .call false 62 (.agg [.bool, (.int .u64), (.int .u64)]) [(.s 23), (.s 28)]⟩, ⟨(some 30), none, .fa 1 (.s 2)⟩, ⟨(some 31), none, .ld (.int .i64) (.s 30)⟩, ⟨(some 32), none, .fa 1 (.s 3)⟩, ⟨(some 33), none, .ld (.int .i64) (.s 32)⟩, ⟨(some 34), none, .call false 51 (.agg [.bool, (.int .u64), (.int .u64)]) [(.s 31), (.s 33)]⟩, ⟨(some 35), none, .call false 61 (.tup [(.agg [(.int .i64), (.int .i64)]), (.int .i64)]) [(.s 29), (.s 34)]⟩, ⟨(some 36), none, .ext 0 (.s 35)⟩, ⟨(some 37), none, .ext 1 (.s 35)⟩, ⟨none, none, .st (.agg [(.int .i64), (.int .i64)]) (.s 4) (.s 36)⟩, ⟨(some 5), none, .mov (.s 37)⟩] [0, 1, 0, 4, 15, 0, 32, 0, 128, 511, 1023, 0, 2048, 0, 8192, 32767, 65535, 131071, 131071, 524287, 1048575])
 .ret)))),
 [.cell 4 (.agg [(.int .i64), (.int .i64)]), .slot 5]⟩
theorem ok25 : compF Try.prog 25 [] [] = some ir25 := by kernel_rfl

/-- tenet/tenetref23.RatAdd -/
def ir26 : FInfo := ⟨63,
 (.seq (.reg [⟨(some 2), none, .box (.agg [(.int .i64), (.int .i64)]) (.s 0)⟩, ⟨(some 3), none, .box (.agg [(.int .i64), (.int .i64)]) (.s 1)⟩, ⟨(some 4), none, .new (.agg [(.int .i64), (.int .i64)]) (.t (.agg [(.int .i64 0), (.int .i64 0)]))⟩, ⟨(some 5), none, .mov (.c (.t (.int .i64 0)))⟩])
 (.seq (.seq (.reg [⟨(some 8), none, .ld (.agg [(.int .i64), (.int .i64)]) (.s 2)⟩, ⟨(some 9), none, .call false 59 .bool [(.s 8)]⟩, ⟨(some 10), none, .un .not (.s 9)⟩, ⟨(some 11), none, .mov (.s 10)⟩, ⟨(some 12), (some (11, false)), .ld (.agg [(.int .i64), (.int .i64)]) (.s 3)⟩, ⟨(some 13), (some (11, false)), .call false 59 .bool [(.s 12)]⟩, ⟨(some 14), (some (11, false)), .un .not (.s 13)⟩, ⟨(some 15), none, .pick (.s 11) (.c (.t (.bool true))) (.s 14)⟩])
 (.cond (.s 15)
 (.seq (.reg [⟨(some 16), none, .build [(.t (.int .i64 0)), (.t (.int .i64 0))] []⟩, ⟨none, none, .st (.agg [(.int .i64), (.int .i64)]) (.s 4) (.s 16)⟩, ⟨(some 5), none, .mov (.c (.t (.int .i64 4)))⟩])
 .ret)
 .skip))
 (.seq (.dreg [⟨(some 17), none, .ld (.agg [(.int .i64), (.int .i64)]) (.s 2)⟩, ⟨(some 18), none, .call false 60 (.agg [(.int .i64), (.int .i64)]) [(.s 17)]⟩, ⟨(some 19), none, .ld (.agg [(.int .i64), (.int .i64)]) (.s 3)⟩, ⟨(some 20), none, .call false 60 (.agg [(.int .i64), (.int .i64)]) [(.s 19)]⟩, ⟨none, none, .st (.agg [(.int .i64), (.int .i64)]) (.s 2) (.s 18)⟩, ⟨none, none, .st (.agg [(.int .i64), (.int .i64)]) (.s 3) (.s 20)⟩] [0, 1, 0, 7, 15, 31])
 (.seq (.reg [⟨(some 21), none, .fa 1 (.s 2)⟩, ⟨(some 22), none, .ld (.int .i64) (.s 21)⟩, ⟨(some 23), none, .fa 1 (.s 3)⟩, ⟨(some 24), none, .ld (.int .i64) (.s 23)⟩, ⟨(some 25), none, .call false 63 (.int .i64) [(.s 22), (.s 24)]⟩, ⟨(some 6), none, .mov (.s 25)⟩])
 (.seq (.dreg [⟨(some 26), none, .fa 0 (.s 2)⟩, ⟨(some 27), none, .ld (.int .i64) (.s 26)⟩, ⟨(some 28), none, .fa 1 (.s 3)⟩, ⟨(some 29), none, .ld (.int .i64) (.s 28)⟩, ⟨(some 30), none, .mov (.s 6)⟩, ⟨(some 31), none, .bin .quo (.s 29) (.s 30)⟩, ⟨(some 32), none, .call false 55 (.agg [.bool, (.int .u64), (.int .u64)]) [(.s 27), (.s 31)]⟩, ⟨(some 33), none, .fa 0 (.s 3)⟩, ⟨(some 34), none, .ld (.int .i64) (.s 33)⟩, ⟨(some 35), none, .fa 1 (.s 2)⟩, ⟨(some 36), none, .ld (.int .i64) (.s 35)⟩, ⟨(some 37), none, .mov (.s 6)⟩, ⟨(some 38), none, .bin .quo (.s 36) (.s 37)⟩, ⟨(some 39), none, .call false 55 (.agg [.bool, (.int .u64), (.int .u64)]) [(.s 34), (.s 38)]⟩, ⟨(some 40), none, .call false 64 (.agg [.bool, (.int .u64), (.int .u64)]) [(.s 32), (.s 39)]⟩, ⟨(some 7), none, .new (.agg [.bool, (.int .u64), (.int .u64)]) (.t (.agg [(.bool false), (.int .u64 0), (.int .u64 0)]))⟩, ⟨none, none, .st (.agg [.bool, (.int .u64), (.int .u64)]) (.s 7) (.s 40)⟩] [0, 1, 0, 4, 0, 28, 63, 0, 128, 0, 512, 0, 3584, 8191, 16383, 0, 65535])
 (.seq (.seq (.reg [⟨(some 41), none, .fa 1 (.s 7)⟩, ⟨(some 42), none, .ld (.int .u64) (.s 41)⟩, ⟨(some 43), none, .bin .eql (.s 42) (.c (.t (.int .u64 0)))⟩, ⟨(some 44), none, .mov (.s 43)⟩, ⟨(some 45), (some (44, true)), .fa 2 (.s 7)⟩, ⟨(some 46), (some (44, true)), .ld (.int .u64) (.s 45)⟩, ⟨(some 47), (some (44, true)), .bin .eql (.s 46) (.c (.t (.int .u64 0)))⟩, ⟨(some 48), none, .pick (.s 44) (.s 47) (.c (.t (.bool false)))⟩])
 (.cond (.s 48)
 (.seq (.reg [⟨(some 49), none, .build [(.t (.int .i64 0)), (.t (.int .i64 0))] [(1, (.int .i64), (.c (.t (.int .i64 1))))]⟩, ⟨none, none, .st (.agg [(.int .i64), (.int .i64)]) (.s 4) (.s 49)⟩, ⟨(some 5), none, .mov (.c (.t (.int .i64 0)))⟩])
 .ret)
 .skip))
 (.seq (.dreg [⟨(some 50), none, .ld (.agg [.bool, (.int .u64), (.int .u64)]) (.s 7)⟩, ⟨(some 51), none, .mov (.s 6)⟩, ⟨(some 52), none, .fa 1 (.s 2)⟩, ⟨(some 53), none, .ld (.int .i64) (.s 52)⟩, ⟨(some 54), none, .mov (.s 6)⟩, ⟨(some 55), none, .bin .quo (.s 53) (.s 54)⟩, ⟨(some 56), none, .fa 1 (.s 3)⟩, ⟨(some 57), none, .ld (.int .i64) (.s 56)⟩, ⟨(some 58), none, .mov (.s 6)⟩, ⟨(some 59), none, .bin .quo (.s 57) (.s 58)⟩, ⟨(some 60), none, .call false 65 (.tup [(.agg [(.int .i64), (.int .i64)]), (.int .i64)]) [(.s 50), (.s 51), (.s 55), (.s 59)]⟩, ⟨(some 61), none, .ext 0 (.s 60)⟩, ⟨(some 62), none, .ext 1 (.s 60)⟩, ⟨none, none, .st (.agg [(.int .i64), (.int .i64)]) (.s 4) (.s 61)⟩, ⟨(some 5), none, .mov (.s 62)⟩] [0, 0, 0, 4, 0, 28, 0, 64, 0, 448, 1023, 2047, 2047, 8191, 16383])
 .ret))))))),
 [.cell 4 (.agg [(.int .i64), (.int .i64)]), .slot 5]⟩
theorem ok26 : compF Try.prog 26 [] [] = some ir26 := by kernel_rfl

/-- tenet/quot.RatMul -/
def ir27 : FInfo := ⟨32,
 (.seq (.reg [⟨(some 2), none, .box (.agg [(.int .i64), (.int .i64)]) (.s 0)⟩, ⟨(some 3), none, .box (.agg [(.int .i64), (.int .i64)]) (.s 1)⟩, ⟨(some 4), none, .new (.agg [(.int .i64), (.int .i64)]) (.t (.agg [(.int .i64 0), (.int .i64 0)]))⟩, ⟨(some 5), none, .mov (.c (.t (.int .i64 0)))⟩])
 (.seq (.seq (.reg [⟨(some 6), none, .ld (.agg [(.int .i64), (.int .i64)]) (.s 2)⟩, ⟨(some 7), none, .call false 57 .bool [(.s 6)]⟩, ⟨(some 8), none, .un .not (.s 7)⟩, ⟨(some 9), none, .mov (.s 8)⟩, ⟨(some 10), (some (9, false)), .ld (.agg [(.int .i64), (.int .i64)]) (.s 3)⟩, ⟨(some 11), (some (9, false)), .call false 57 .bool [(.s 10)]⟩, ⟨(some 12), (some (9, false)), .un .not (.s 11)⟩, ⟨(some 13), none, .pick (.s 9) (.c (.t (.bool true))) (.s 12)⟩])
 (.cond (.s 13)
 (.seq (.reg [⟨(some 14), none, .build [(.t (.int .i64 0)), (.t (.int .i64 0))] []⟩, ⟨none, none, .st (.agg [(.int .i64), (.int .i64)]) (.s 4) (.s 14)⟩, ⟨(some 5), none, .mov (.c (.t (.int .i64 4)))⟩])
 .ret)
 .skip))
 (.seq (.dreg [⟨(some 15), none, .ld (.agg [(.int .i64), (.int .i64)]) (.s 2)⟩, ⟨(some 16), none, .call false 58 (.agg [(.int .i64), (.int .i64)]) [(.s 15)]⟩, ⟨(some 17), none, .ld (.agg [(.int .i64), (.int .i64)]) (.s 3)⟩, ⟨(some 18), none, .call false 58 (.agg [(.int .i64), (.int .i64)]) [(.s 17)]⟩, ⟨none, none, .st (.agg [(.int .i64), (.int .i64)]) (.s 2) (.s 16)⟩, ⟨none, none, .st (.agg [(.int .i64), (.int .i64)]) (.s 3) (.s 18)⟩] [0, 1, 0, 7, 15, 31])
 (.seq (.dreg [⟨(some 19), none, .fa 0 (.s 2)⟩, ⟨(some 20), none, .ld (.int .i64) (.s 19)⟩, ⟨(some 21), none, .fa 0 (.s 3)⟩, ⟨(some 22), none, .ld (.int .i64) (.s 21)⟩, ⟨(some 23), none, .call false 51 (.agg [.bool, (.int .u64), (.int .u64)]) [(.s 20), (.s 22)]⟩, ⟨(some 24), none, .fa 1 (.s 2)⟩, ⟨(some 25), none, .ld (.int .i64) (.s 24)⟩, ⟨(some 26), none, .fa 1 (.s 3)⟩, ⟨(some 27), none, .ld (.int .i64) (.s 26)⟩, ⟨(some 28), none, .call false 51 (.agg [.bool, (.int .u64), (.int .u64)]) [(.s 25), (.s 27)]⟩, ⟨(some 29), none, .call false 61 (.tup [(.agg [(.int .i64), (.int .i64)]), (.int .i64)]) [(.s 23), (.s 28)]⟩, ⟨(some 30), none, .ext 0 (.s 29)⟩, ⟨(some 31), none, .ext 1 (.s 29)⟩, ⟨none, none, .st (.agg [(.int .i64), (.int .i64)]) (.s 4) (.s 30)⟩, ⟨(some 5), none, .mov (.s 31)⟩] [0, 1, 0, 4, 15, 0, 32, 0, 128, 511, 1023, 2047, 2047, 8191, 16383])
 .ret)))),
 [.cell 4 (.agg [(.int .i64), (.int .i64)]), .slot 5]⟩
theorem ok27 : compF Try.prog 27 [] [] = some ir27 := by kernel_rfl

/-- tenet/tenetref23.RatMul -/
def ir28 : FInfo := ⟨70,
 (.seq (.reg [⟨(some 2), none, .box (.agg [(.int .i64), (.int .i64)]) (.s 0)⟩, ⟨(some 3), none, .box (.agg [(.int .i64), (.int .i64)]) (.s 1)⟩, ⟨(some 4), none, .new (.agg [(.int .i64), (.int .i64)]) (.t (.agg [(.int .i64 0), (.int .i64 0)]))⟩, ⟨(some 5), none, .mov (.c (.t (.int .i64 0)))⟩])
 (.seq (.seq (.reg [⟨(some 10), none, .ld (.agg [(.int .i64), (.int .i64)]) (.s 2)⟩, ⟨(some 11), none, .call false 59 .bool [(.s 10)]⟩, ⟨(some 12), none, .un .not (.s 11)⟩, ⟨(some 13), none, .mov (.s 12)⟩, ⟨(some 14), (some (13, false)), .ld (.agg [(.int .i64), (.int .i64)]) (.s 3)⟩, ⟨(some 15), (some (13, false)), .call false 59 .bool [(.s 14)]⟩, ⟨(some 16), (some (13, false)), .un .not (.s 15)⟩, ⟨(some 17), none, .pick (.s 13) (.c (.t (.bool true))) (.s 16)⟩])
 (.cond (.s 17)
 (.seq (.reg [⟨(some 18), none, .build [(.t (.int .i64 0)), (.t (.int .i64 0))] []⟩, ⟨none, none, .st (.agg [(.int .i64), (.int .i64)]) (.s 4) (.s 18)⟩, ⟨(some 5), none, .mov (.c (.t (.int .i64 4)))⟩])
 .ret)
 .skip))
 (.seq (.dreg [⟨(some 19), none, .ld (.agg [(.int .i64), (.int .i64)]) (.s 2)⟩, ⟨(some 20), none, .call false 60 (.agg [(.int .i64), (.int .i64)]) [(.s 19)]⟩, ⟨(some 21), none, .ld (.agg [(.int .i64), (.int .i64)]) (.s 3)⟩, ⟨(some 22), none, .call false 60 (.agg [(.int .i64), (.int .i64)]) [(.s 21)]⟩, ⟨none, none, .st (.agg [(.int .i64), (.int .i64)]) (.s 2) (.s 20)⟩, ⟨none, none, .st (.agg [(.int .i64), (.int .i64)]) (.s 3) (.s 22)⟩] [0, 1, 0, 7, 15, 31])
 (.seq (.dreg [⟨(some 23), none, .fa 0 (.s 2)⟩, ⟨(some 24), none, .ld (.int .i64) (.s 23)⟩, ⟨(some 25), none, .fa 1 (.s 3)⟩, ⟨(some 26), none, .ld (.int .i64) (.s 25)⟩, ⟨(some 27), none, .build [(.t (.int .i64 0)), (.t (.int .i64 0))] [(0, (.int .i64), (.s 24)), (1, (.int .i64), (.s 26))]⟩, ⟨(some 28), none, .call false 60 (.agg [(.int .i64), (.int .i64)]) [(.s 27)]⟩, ⟨(some 29), none, .fa 0 (.s 3)⟩, ⟨(some 30), none, .ld (.int .i64) (.s 29)⟩, ⟨(some 31), none, .fa 1 (.s 2)⟩, ⟨(some 32), none, .ld (.int .i64) (.s 31)⟩, ⟨(some 33), none, .build [(.t (.int .i64 0)), (.t (.int .i64 0))] [(0, (.int .i64), (.s 30)), (1, (.int .i64), (.s 32))]⟩, ⟨(some 34), none, .call false 60 (.agg [(.int .i64), (.int .i64)]) [(.s 33)]⟩, ⟨(some 6), none, .new (.agg [(.int .i64), (.int .i64)]) (.t (.agg [(.int .i64 0), (.int .i64 0)]))⟩, ⟨(some 7), none, .new (.agg [(.int .i64), (.int .i64)]) (.t (.agg [(.int .i64 0), (.int .i64 0)]))⟩, ⟨none, none, .st (.agg [(.int .i64), (.int .i64)]) (.s 6) (.s 28)⟩, ⟨none, none, .st (.agg [(.int .i64), (.int .i64)]) (.s 7) (.s 34)⟩] [0, 1, 0, 4, 15, 31, 0, 64, 0, 256, 960, 2047, 0, 0, 16383, 32767])
 (.seq (.dreg [⟨(some 35), none, .fa 0 (.s 6)⟩, ⟨(some 36), none, .ld (.int .i64) (.s 35)⟩, ⟨(some 37), none, .fa 0 (.s 7)⟩, ⟨(some 38), none, .ld (.int .i64) (.s 37)⟩, ⟨(some 39), none, .call false 55 (.agg [.bool, (.int .u64), (.int .u64)]) [(.s 36), (.s 38)]⟩, ⟨(some 40), none, .fa 1 (.s 6)⟩, ⟨(some 41), none, .ld (.int .i64) (.s 40)⟩, ⟨(some 42), none, .fa 1 (.s 7)⟩, ⟨(some 43), none, .ld (.int .i64) (.s 42)⟩, ⟨(some 44), none, .call false 55 (.agg [.bool, (.int .u64), (.int .u64)]) [(.s 41), (.s 43)]⟩, ⟨(some 8), none, .new (.agg [.bool, (.int .u64), (.int .u64)]) (.t (.agg [(.bool false), (.int .u64 0), (.int .u64 0)]))⟩, ⟨(some 9), none, .new (.agg [.bool, (.int .u64), (.int .u64)]) (.t (.agg [(.bool false), (.int .u64 0), (.int .u64 0)]))⟩, ⟨none, none, .st (.agg [.bool, (.int .u64), (.int .u64)]) (.s 8) (.s 39)⟩, ⟨none, none, .st (.agg [.bool, (.int .u64), (.int .u64)]) (.s 9) (.s 44)⟩] [0, 1, 0, 4, 15, 0, 32, 0, 128, 511, 0, 0, 4095, 8191])
 (.seq (.seq (.reg [⟨(some 45), none, .fa 1 (.s 8)⟩, ⟨(some 46), none, .ld (.int .u64) (.s 45)⟩, ⟨(some 47), none, .bin .neq (.s 46) (.c (.t (.int .u64 0)))⟩, ⟨(some 48), none, .mov (.s 47)⟩, ⟨(some 49), (some (48, false)), .fa 2 (.s 8)⟩, ⟨(some 50), (some (48, false)), .ld (.int .u64) (.s 49)⟩, ⟨(some 51), (some (48, false)), .bin .gtr (.s 50) (.c (.t (.int .u64 1099511627776)))⟩, ⟨(some 52), none, .pick (.s 48) (.c (.t (.bool true))) (.s 51)⟩, ⟨(some 53), none, .mov (.s 52)⟩, ⟨(some 54), (some (53, false)), .fa 1 (.s 9)⟩, ⟨(some 55), (some (53, false)), .ld (.int .u64) (.s 54)⟩, ⟨(some 56), (some (53, false)), .bin .neq (.s 55) (.c (.t (.int .u64 0)))⟩, ⟨(some 57), none, .pick (.s 53) (.c (.t (.bool true))) (.s 56)⟩, ⟨(some 58), none, .mov (.s 57)⟩, ⟨(some 59), (some (58, false)), .fa 2 (.s 9)⟩, ⟨(some 60), (some (58, false)), .ld (.int .u64) (.s 59)⟩, ⟨(some 61), (some (58, false)), .bin .gtr (.s 60) (.c (.t (.int .u64 1099511627776)))⟩, ⟨(some 62), none, .pick (.s 58) (.c (.t (.bool true))) (.s 61)⟩])
 (.cond (.s 62)
 (.seq (.reg [⟨(some 63), none, .build [(.t (.int .i64 0)), (.t (.int .i64 0))] []⟩, ⟨none, none, .st (.agg [(.int .i64), (.int .i64)]) (.s 4) (.s 63)⟩, ⟨(some 5), none, .mov (.c (.t (.int .i64 2)))⟩])
 .ret)
 .skip))
 (.seq (.dreg [⟨(some 64), none, .ld (.agg [.bool, (.int .u64), (.int .u64)]) (.s 8)⟩, ⟨(some 65), none, .call false 56 (.int .i64) [(.s 64)]⟩, ⟨(some 66), none, .ld (.agg [.bool, (.int .u64), (.int .u64)]) (.s 9)⟩, ⟨(some 67), none, .call false 56 (.int .i64) [(.s 66)]⟩, ⟨(some 68), none, .build [(.t (.int .i64 0)), (.t (.int .i64 0))] [(0, (.int .i64), (.s 65)), (1, (.int .i64), (.s 67))]⟩, ⟨(some 69), none, .call false 60 (.agg [(.int .i64), (.int .i64)]) [(.s 68)]⟩, ⟨none, none, .st (.agg [(.int .i64), (.int .i64)]) (.s 4) (.s 69)⟩, ⟨(some 5), none, .mov (.c (.t (.int .i64 0)))⟩] [0, 1, 0, 7, 15, 31, 63, 127])
 .ret))))))),
 [.cell 4 (.agg [(.int .i64), (.int .i64)]), .slot 5]⟩
theorem ok28 : compF Try.prog 28 [] [] = some ir28 := by kernel_rfl

/-- tenet/quot.RatInverse -/
def ir29 : FInfo := ⟨20,
 (.seq (.reg [⟨(some 1), none, .box (.agg [(.int .i64), (.int .i64)]) (.s 0)⟩, ⟨(some 2), none, .new (.agg [(.int .i64), (.int .i64)]) (.t (.agg [(.int .i64 0), (.int .i64 0)]))⟩, ⟨(some 3), none, .mov (.c (.t (.int .i64 0)))⟩])
 (.seq (.block 0 (.seq (.reg [⟨(some 5), none, .ld (.agg [(.int .i64), (.int .i64)]) (.s 1)⟩, ⟨(some 6), none, .call false 57 .bool [(.s 5)]⟩, ⟨(some 7), none, .un .not (.s 6)⟩, ⟨(some 4), none, .mov (.s 7)⟩])
 (.cond (.s 4)
 (.seq (.reg [⟨(some 8), none, .build [(.t (.int .i64 0)), (.t (.int .i64 0))] []⟩, ⟨none, none, .st (.agg [(.int .i64), (.int .i64)]) (.s 2) (.s 8)⟩, ⟨(some 3), none, .mov (.c (.t (.int .i64 4)))⟩])
 .ret)
 (.seq (.reg [⟨(some 10), none, .fa 0 (.s 1)⟩, ⟨(some 11), none, .ld (.int .i64) (.s 10)⟩, ⟨(some 12), none, .bin .eql (.s 11) (.c (.t (.int .i64 0)))⟩, ⟨(some 9), none, .mov (.s 12)⟩])
 (.cond (.s 9)
 (.seq (.reg [⟨(some 13), none, .build [(.t (.int .i64 0)), (.t (.int .i64 0))] []⟩, ⟨none, none, .st (.agg [(.int .i64), (.int .i64)]) (.s 2) (.s 13)⟩, ⟨(some 3), none, .mov (.c (.t (.int .i64 230)))⟩])
 .ret)
 .skip)))))
 (.seq (.reg [⟨(some 14), none, .fa 1 (.s 1)⟩, ⟨(some 15), none, .ld (.int .i64) (.s 14)⟩, ⟨(some 16), none, .fa 0 (.s 1)⟩, ⟨(some 17), none, .ld (.int .i64) (.s 16)⟩, ⟨(some 18), none, .build [(.t (.int .i64 0)), (.t (.int .i64 0))] [(0, (.int .i64), (.s 15)), (1, (.int .i64), (.s 17))]⟩, ⟨(some 19), none, .call false 58 (.agg [(.int .i64), (.int .i64)]) [(.s 18)]⟩, ⟨none, none, .st (.agg [(.int .i64), (.int .i64)]) (.s 2) (.s 19)⟩, ⟨(some 3), none, .mov (.c (.t (.int .i64 0)))⟩])
 .ret))),
 [.cell 2 (.agg [(.int .i64), (.int .i64)]), .slot 3]⟩
theorem ok29 : compF Try.prog 29 [] [] = some ir29 := by kernel_rfl

/-- tenet/tenetref23.RatInverse -/
def ir30 : FInfo := ⟨18,
 (.seq (.reg [⟨(some 1), none, .box (.agg [(.int .i64), (.int .i64)]) (.s 0)⟩, ⟨(some 2), none, .new (.agg [(.int .i64), (.int .i64)]) (.t (.agg [(.int .i64 0), (.int .i64 0)]))⟩, ⟨(some 3), none, .mov (.c (.t (.int .i64 0)))⟩])
 (.seq (.seq (.reg [⟨(some 4), none, .ld (.agg [(.int .i64), (.int .i64)]) (.s 1)⟩, ⟨(some 5), none, .call false 59 .bool [(.s 4)]⟩, ⟨(some 6), none, .un .not (.s 5)⟩])
 (.cond (.s 6)
 (.seq (.reg [⟨(some 7), none, .build [(.t (.int .i64 0)), (.t (.int .i64 0))] []⟩, ⟨none, none, .st (.agg [(.int .i64), (.int .i64)]) (.s 2) (.s 7)⟩, ⟨(some 3), none, .mov (.c (.t (.int .i64 4)))⟩])
 .ret)
 .skip))
 (.seq (.seq (.reg [⟨(some 8), none, .fa 0 (.s 1)⟩, ⟨(some 9), none, .ld (.int .i64) (.s 8)⟩, ⟨(some 10), none, .bin .eql (.s 9) (.c (.t (.int .i64 0)))⟩])
 (.cond (.s 10)
 (.seq (.reg [⟨(some 11), none, .build [(.t (.int .i64 0)), (.t (.int .i64 0))] []⟩, ⟨none, none, .st (.agg [(.int .i64), (.int .i64)]) (.s 2) (.s 11)⟩, ⟨(some 3), none, .mov (.c (.t (.int .i64 230)))⟩])
 .ret)
 .skip))
 (.seq (.reg [⟨(some 12), none, .fa 1 (.s 1)⟩, ⟨(some 13), none, .ld (.int .i64) (.s 12)⟩, ⟨(some 14), none, .fa 0 (.s 1)⟩, ⟨(some 15), none, .ld (.int .i64) (.s 14)⟩, ⟨(some 16), none, .build [(.t (.int .i64 0)), (.t (.int .i64 0))] [(0, (.int .i64), (.s 13)), (1, (.int .i64), (.s 15))]⟩, ⟨(some 17), none, .call false 60 (.agg [(.int .i64), (.int .i64)]) [(.s 16)]⟩, ⟨none, none, .st (.agg [(.int .i64), (.int .i64)]) (.s 2) (.s 17)⟩, ⟨(some 3), none, .mov (.c (.t (.int .i64 0)))⟩])
 .ret)))),
 [.cell 2 (.agg [(.int .i64), (.int .i64)]), .slot 3]⟩
theorem ok30 : compF Try.prog 30 [] [] = some ir30 := by kernel_rfl

/-- tenet/quot.RatLeq -/
def ir31 : FInfo := ⟨48,
 (.seq (.reg [⟨(some 2), none, .box (.agg [(.int .i64), (.int .i64)]) (.s 0)⟩, ⟨(some 3), none, .box (.agg [(.int .i64), (.int .i64)]) (.s 1)⟩, ⟨(some 4), none, .mov (.c (.t (.bool false)))⟩, ⟨(some 5), none, .mov (.c (.t (.int .i64 0)))⟩])
 (.seq (.seq (.reg [⟨(some 9), none, .ld (.agg [(.int .i64), (.int .i64)]) (.s 2)⟩, ⟨(some 10), none, .call false 57 .bool [(.s 9)]⟩, ⟨(some 11), none, .un .not (.s 10)⟩, ⟨(some 12), none, .mov (.s 11)⟩, ⟨(some 13), (some (12, false)), .ld (.agg [(.int .i64), (.int .i64)]) (.s 3)⟩, ⟨(some 14), (some (12, false)), .call false 57 .bool [(.s 13)]⟩, ⟨(some 15), (some (12, false)), .un .not (.s 14)⟩, ⟨(some 16), none, .pick (.s 12) (.c (.t (.bool true))) (.s 15)⟩])
 (.cond (.s 16)
 (.seq (.reg [⟨(some 4), none, .mov (.c (.t (.bool false)))⟩, ⟨(some 5), none, .mov (.c (.t (.int .i64 4)))⟩])
 .ret)
 .skip))
 (.seq (.dreg [⟨(some 17), none, .ld (.agg [(.int .i64), (.int .i64)]) (.s 2)⟩, ⟨(some 18), none, .call false 58 (.agg [(.int .i64), (.int .i64)]) [(.s 17)]⟩, ⟨(some 19), none, .ld (.agg [(.int .i64), (.int .i64)]) (.s 3)⟩, ⟨(some 20), none, .call false 58 (.agg [(.int .i64), (.int .i64)]) [(.s 19)]⟩, ⟨none, none, .st (.agg [(.int .i64), (.int .i64)]) (.s 2) (.s 18)⟩, ⟨none, none, .st (.agg [(.int .i64), (.int .i64)]) (.s 3) (.s 20)⟩] [0, 1, 0, 7, 15, 31])
 (.seq (.dreg [⟨(some 21), none, .fa 0 (.s 2)⟩, ⟨(some 22), none, .ld (.int .i64) (.s 21)⟩, ⟨(some 23), none, .fa 1 (.s 3)⟩, ⟨(some 24), none, .ld (.int .i64) (.s 23)⟩, ⟨(some 25), none, .call false 51 (.agg [.bool, (.int .u64), (.int .u64)]) [(.s 22), (.s 24)]⟩, ⟨(some 26), none, .fa 0 (.s 3)⟩, ⟨(some 27), none, .ld (.int .i64) (.s 26)⟩, ⟨(some 28), none, .fa 1 (.s 2)⟩, ⟨(some 29), none, .ld (.int .i64) (.s 28)⟩, ⟨(some 30), none, .call false 51 (.agg [.bool, (.int .u64), (.int .u64)]) [(.s 27), (.s 29)]⟩, ⟨(some 6), none, .new (.agg [.bool, (.int .u64), (.int .u64)]) (.t (.agg [(.bool false), (.int .u64 0), (.int .u64 0)]))⟩, ⟨(some 7), none, .new (.agg [.bool, (.int .u64), (.int .u64)]) (.t (.agg [(.bool false), (.int .u64 0), (.int .u64 0)]))⟩, ⟨none, none, .st (.agg [.bool, (.int .u64), (.int .u64)]) (.s 6) (.s 25)⟩, ⟨none, none, .st (.agg [.bool, (.int .u64), (.int .u64)]) (.s 7) (.s 30)⟩] [0, 1, 0, 4, 15, 0, 32, 0, 128, 511, 0, 0, 4095, 8191])
 (.seq (.reg [⟨(some 31), none, .fa 0 (.s 7)⟩, ⟨(some 32), none, .ld .bool (.s 31)⟩, ⟨(some 33), none, .un .not (.s 32)⟩, ⟨(some 34), none, .fa 0 (.s 7)⟩, ⟨none, none, .st .bool (.s 34) (.s 33)⟩])
 (.seq (.reg [⟨(some 35), none, .ld (.agg [.bool, (.int .u64), (.int .u64)]) (.s 6)⟩, ⟨(some 36), none, .ld (.agg [.bool, (.int .u64), (.int .u64)]) (.s 7)⟩, ⟨(some 37), none, .call false 62 (.agg [.bool, (.int .u64), (.int .u64)]) [(.s 35), (.s 36)]⟩, ⟨(some 8), none, .new (.agg [.bool, (.int .u64), (.int .u64)]) (.t (.agg [(.bool false), (.int .u64 0), (.int .u64 0)]))⟩, ⟨none, none, .st (.agg [.bool, (.int .u64), (.int .u64)]) (.s 8) (.s 37)⟩])
 (.seq (.reg [⟨(some 38), none, .fa 0 (.s 8)⟩, ⟨(some 39), none, .ld .bool (.s 38)⟩, ⟨(some 40), none, .mov (.s 39)⟩, ⟨(some 41), (some (40, false)), .fa 1 (.s 8)⟩, ⟨(some 42), (some (40, false)), .ld (.int .u64) (.s 41)⟩, ⟨(some 43), (some (40, false)), .fa 2 (.s 8)⟩, ⟨(some 44), (some (40, false)), .ld (.int .u64) (.s 43)⟩, ⟨(some 45), (some (40, false)), .bin .or (.s 42) (.s 44)⟩, ⟨(some 46), (some (40, false)), .bin .eql (.s 45) (.c (.t (.int .u64 0)))⟩, ⟨(some 47), none, .pick (.s 40) (.c (.t (.bool true))) (.s 46)⟩, ⟨(some 4), none, .mov (.s 47)⟩, ⟨(some 5), none, .mov (.c (.t (.int .i64 0)))⟩])
 .ret))))))),
 [.slot 4, .slot 5]⟩
theorem ok31 : compF Try.prog 31 [] [] = some ir31 := by kernel_rfl

/-- tenet/tenetref23.RatLeq -/
def ir32 : FInfo := ⟨43,
 (.seq (.reg [⟨(some 2), none, .box (.agg [(.int .i64), (.int .i64)]) (.s 0)⟩, ⟨(some 3), none, .box (.agg [(.int .i64), (.int .i64)]) (.s 1)⟩, ⟨(some 4), none, .mov (.c (.t (.bool false)))⟩, ⟨(some 5), none, .mov (.c (.t (.int .i64 0)))⟩])
 (.seq (.seq (.reg [⟨(some 7), none, .ld (.agg [(.int .i64), (.int .i64)]) (.s 2)⟩, ⟨(some 8), none, .call false 59 .bool [(.s 7)]⟩, ⟨(some 9), none, .un .not (.s 8)⟩, ⟨(some 10), none, .mov (.s 9)⟩, ⟨(some 11), (some (10, false)), .ld (.agg [(.int .i64), (.int .i64)]) (.s 3)⟩, ⟨(some 12), (some (10, false)), .call false 59 .bool [(.s 11)]⟩, ⟨(some 13), (some (10, false)), .un .not (.s 12)⟩, ⟨(some 14), none, .pick (.s 10) (.c (.t (.bool true))) (.s 13)⟩])
 (.cond (.s 14)
 (.seq (.reg [⟨(some 4), none, .mov (.c (.t (.bool false)))⟩, ⟨(some 5), none, .mov (.c (.t (.int .i64 4)))⟩])
 .ret)
 .skip))
 (.seq (.dreg [⟨(some 15), none, .ld (.agg [(.int .i64), (.int .i64)]) (.s 2)⟩, ⟨(some 16), none, .call false 60 (.agg [(.int .i64), (.int .i64)]) [(.s 15)]⟩, ⟨(some 17), none, .ld (.agg [(.int .i64), (.int .i64)]) (.s 3)⟩, ⟨(some 18), none, .call false 60 (.agg [(.int .i64), (.int .i64)]) [(.s 17)]⟩, ⟨none, none, .st (.agg [(.int .i64), (.int .i64)]) (.s 2) (.s 16)⟩, ⟨none, none, .st (.agg [(.int .i64), (.int .i64)]) (.s 3) (.s 18)⟩] [0, 1, 0, 7, 15, 31])
 (.seq (.dreg [⟨(some 19), none, .fa 0 (.s 2)⟩, ⟨(some 20), none, .ld (.int .i64) (.s 19)⟩, ⟨(some 21), none, .fa 1 (.s 3)⟩, ⟨(some 22), none, .ld (.int .i64) (.s 21)⟩, ⟨(some 23), none, .call false 55 (.agg [.bool, (.int .u64), (.int .u64)]) [(.s 20), (.s 22)]⟩, ⟨(some 24), none, .fa 0 (.s 3)⟩, ⟨(some 25), none, .ld (.int .i64) (.s 24)⟩, ⟨(some 26), none, .un .neg (.s 25)⟩, ⟨(some 27), none, .fa 1 (.s 2)⟩, ⟨(some 28), none, .ld (.int .i64) (.s 27)⟩, ⟨(some 29), none, .call false 55 (.agg [.bool, (.int .u64), (.int .u64)]) [(.s 26), (.s 28)]⟩, ⟨(some 30), none, .call false 64 (.agg [.bool, (.int .u64), (.int .u64)]) [(.s 23), (.s 29)]⟩, ⟨(some 6), none, .new (.agg [.bool, (.int .u64), (.int .u64)]) (.t (.agg [(.bool false), (.int .u64 0), (.int .u64 0)]))⟩, ⟨none, none, .st (.agg [.bool, (.int .u64), (.int .u64)]) (.s 6) (.s 30)⟩] [0, 1, 0, 4, 15, 0, 32, 96, 0, 256, 1023, 2047, 0, 8191])
 (.seq (.reg [⟨(some 31), none, .fa 0 (.s 6)⟩, ⟨(some 32), none, .ld .bool (.s 31)⟩, ⟨(some 33), none, .mov (.s 32)⟩, ⟨(some 34), (some (33, false)), .fa 1 (.s 6)⟩, ⟨(some 35), (some (33, false)), .ld (.int .u64) (.s 34)⟩, ⟨(some 36), (some (33, false)), .bin .eql (.s 35) (.c (.t (.int .u64 0)))⟩, ⟨(some 37), (some (33, false)), .mov (.s 36)⟩, ⟨(some 38), (some (37, true)), .fa 2 (.s 6)⟩, ⟨(some 39), (some (37, true)), .ld (.int .u64) (.s 38)⟩, ⟨(some 40), (some (37, true)), .bin .eql (.s 39) (.c (.t (.int .u64 0)))⟩, ⟨(some 41), (some (33, false)), .pick (.s 37) (.s 40) (.c (.t (.bool false)))⟩, ⟨(some 42), none, .pick (.s 33) (.c (.t (.bool true))) (.s 41)⟩, ⟨(some 4), none, .mov (.s 42)⟩, ⟨(some 5), none, .mov (.c (.t (.int .i64 0)))⟩])
 .ret))))),
 [.slot 4, .slot 5]⟩
theorem ok32 : compF Try.prog 32 [] [] = some ir32 := by kernel_rfl

/-- tenet/quot.natural -/
def ir49 : FInfo := ⟨6,
 (.seq (.reg [⟨(some 2), none, .mov (.c (.t (.bool false)))⟩])
 (.seq (.reg [⟨(some 3), none, .mov (.s 0)⟩, ⟨(some 4), none, .call false 80 .bool [(.s 3), (.f 81)]⟩, ⟨(some 5), none, .un .not (.s 4)⟩, ⟨(some 2), none, .mov (.s 5)⟩])
 .ret)),
 [.slot 2]⟩
theorem ok49 : compF Try.prog 49 [] [] = some ir49 := by kernel_rfl

/-- tenet/quot.pair -/
def ir50 : FInfo := ⟨18,
 (.seq (.reg [⟨(some 2), none, .new (.agg [(.int .i64), (.int .i64)]) (.t (.agg [(.int .i64 0), (.int .i64 0)]))⟩, ⟨(some 3), none, .mov (.c (.t (.int .i64 0)))⟩])
 (.seq (.block 0 (.seq (.reg [⟨(some 5), none, .mov (.s 0)⟩, ⟨(some 6), none, .bsl (.int .i64) (.t (.int .i64 0)) 1 [(0, (.s 5))]⟩, ⟨(some 7), none, .call false 70 .bool [(.s 6)]⟩, ⟨(some 8), none, .un .not (.s 7)⟩, ⟨(some 4), none, .mov (.s 8)⟩])
 (.cond (.s 4)
 (.seq (.reg [⟨(some 9), none, .build [(.t (.int .i64 0)), (.t (.int .i64 0))] []⟩, ⟨none, none, .st (.agg [(.int .i64), (.int .i64)]) (.s 2) (.s 9)⟩, ⟨(some 3), none, .mov (.c (.t (.int .i64 2)))⟩])
 .ret)
 (.seq (.reg [⟨(some 11), none, .mov (.s 0)⟩, ⟨(some 12), none, .bin .lss (.s 11) (.c (.t (.int .i64 0)))⟩, ⟨(some 10), none, .mov (.s 12)⟩])
 (.cond (.s 10)
 (.seq (.reg [⟨(some 13), none, .mov (.s 0)⟩, ⟨(some 14), none, .un .neg (.s 13)⟩, ⟨(some 15), none, .build [(.t (.int .i64 0)), (.t (.int .i64 0))] [(0, (.int .i64), (.c (.t (.int .i64 0)))), (1, (.int .i64), (.s 14))]⟩, ⟨none, none, .st (.agg [(.int .i64), (.int .i64)]) (.s 2) (.s 15)⟩, ⟨(some 3), none, .mov (.c (.t (.int .i64 0)))⟩])
 .ret)
 .skip)))))
 (.seq (.reg [⟨(some 16), none, .mov (.s 0)⟩, ⟨(some 17), none, .build [(.t (.int .i64 0)), (.t (.int .i64 0))] [(0, (.int .i64), (.s 16)), (1, (.int .i64), (.c (.t (.int .i64 0))))]⟩, ⟨none, none, .st (.agg [(.int .i64), (.int .i64)]) (.s 2) (.s 17)⟩, ⟨(some 3), none, .mov (.c (.t (.int .i64 0)))⟩])
 .ret))),
 [.cell 2 (.agg [(.int .i64), (.int .i64)]), .slot 3]⟩
theorem ok50 : compF Try.prog 50 [] [] = some ir50 := by kernel_rfl

/-- tenet/quot.times -/
def ir51 : FInfo := ⟨29,
 (.seq (.reg [⟨(some 4), none, .new (.agg [.bool, (.int .u64), (.int .u64)]) (.t (.agg [(.bool false), (.int .u64 0), (.int .u64 0)]))⟩])
 (.seq (.reg [⟨(some 8), none, .mov (.s 0)⟩, ⟨(some 9), none, .call false 83 (.int .u64) [(.s 8)]⟩, ⟨(some 10), none, .mov (.s 1)⟩, ⟨(some 11), none, .call false 83 (.int .u64) [(.s 10)]⟩, ⟨(some 12), none, .call false 82 (.tup [(.int .u64), (.int .u64)]) [(.s 9), (.s 11)]⟩, ⟨(some 7), none, .mov (.s 12)⟩, ⟨(some 13), none, .ext 0 (.s 7)⟩, ⟨(some 14), none, .ext 1 (.s 7)⟩, ⟨(some 5), none, .mov (.s 13)⟩, ⟨(some 6), none, .mov (.s 14)⟩])
 (.seq (.reg [⟨(some 15), none, .mov (.s 0)⟩, ⟨(some 16), none, .bin .lss (.s 15) (.c (.t (.int .i64 0)))⟩, ⟨(some 17), none, .mov (.s 1)⟩, ⟨(some 18), none, .bin .lss (.s 17) (.c (.t (.int .i64 0)))⟩, ⟨(some 19), none, .eqs true .bool (.s 16) (.s 18)⟩, ⟨(some 20), none, .mov (.s 19)⟩, ⟨(some 21), (some (20, true)), .mov (.s 5)⟩, ⟨(some 22), (some (20, true)), .mov (.s 6)⟩, ⟨(some 23), (some (20, true)), .bin .or (.s 21) (.s 22)⟩, ⟨(some 24), (some (20, true)), .bin .neq (.s 23) (.c (.t (.int .u64 0)))⟩, ⟨(some 25), none, .pick (.s 20) (.s 24) (.c (.t (.bool false)))⟩, ⟨(some 26), none, .mov (.s 5)⟩, ⟨(some 27), none, .mov (.s 6)⟩, ⟨(some 28), none, .build [(.t (.bool false)), (.t (.int .u64 0)), (.t (.int .u64 0))] [(0, .bool, (.s 25)), (1, (.int .u64), (.s 26)), (2, (.int .u64), (.s 27))]⟩, ⟨none, none, .st (.agg [.bool, (.int .u64), (.int .u64)]) (.s 4) (.s 28)⟩])
 .ret))),
 [.cell 4 (.agg [.bool, (.int .u64), (.int .u64)])]⟩
theorem ok51 : compF Try.prog 51 [] [] = some ir51 := by kernel_rfl

/-- (tenet/quot.wide).small -/
def ir52 : FInfo := ⟨21,
 (.seq (.reg [⟨(some 1), none, .box (.agg [.bool, (.int .u64), (.int .u64)]) (.s 0)⟩, ⟨(some 2), none, .mov (.c (.t (.int .i64 0)))⟩, ⟨(some 3), none, .mov (.c (.t (.bool false)))⟩])
 (.seq (.seq (.reg [⟨(some 4), none, .fa 1 (.s 1)⟩, ⟨(some 5), none, .ld (.int .u64) (.s 4)⟩, ⟨(some 6), none, .bin .neq (.s 5) (.c (.t (.int .u64 0)))⟩, ⟨(some 7), none, .mov (.s 6)⟩, ⟨(some 8), (some (7, false)), .fa 2 (.s 1)⟩, ⟨(some 9), (some (7, false)), .ld (.int .u64) (.s 8)⟩, ⟨(some 10), (some (7, false)), .bin .gtr (.s 9) (.c (.t (.int .u64 1099511627776)))⟩, ⟨(some 11), none, .pick (.s 7) (.c (.t (.bool true))) (.s 10)⟩])
 (.cond (.s 11)
 (.seq (.reg [⟨(some 2), none, .mov (.c (.t (.int .i64 0)))⟩, ⟨(some 3), none, .mov (.c (.t (.bool false)))⟩])
 .ret)
 .skip))
 (.seq (.seq (.reg [⟨(some 12), none, .fa 0 (.s 1)⟩, ⟨(some 13), none, .ld .bool (.s 12)⟩])
 (.cond (.s 13)
 (.seq (.reg [⟨(some 14), none, .fa 2 (.s 1)⟩, ⟨(some 15), none, .ld (.int .u64) (.s 14)⟩, ⟨(some 16), none, .conv .i64 (.s 15)⟩, ⟨(some 17), none, .un .neg (.s 16)⟩, ⟨(some 2), none, .mov (.s 17)⟩, ⟨(some 3), none, .mov (.c (.t (.bool true)))⟩])
 .ret)
 .skip))
 (.seq (.reg [⟨(some 18), none, .fa 2 (.s 1)⟩, ⟨(some 19), none, .ld (.int .u64) (.s 18)⟩, ⟨(some 20), none, .conv .i64 (.s 19)⟩, ⟨(some 2), none, .mov (.s 20)⟩, ⟨(some 3), none, .mov (.c (.t (.bool true)))⟩])
 .ret)))),
 [.slot 2, .slot 3]⟩
theorem ok52 : compF Try.prog 52 [] [] = some ir52 := by kernel_rfl

/-- tenet/tenetref23.pairOK -/
def ir53 : FInfo := ⟨21,
 (.seq (.reg [⟨(some 1), none, .box (.agg [(.int .i64), (.int .i64)]) (.s 0)⟩, ⟨(some 2), none, .mov (.c (.t (.bool false)))⟩])
 (.seq (.reg [⟨(some 3), none, .iaa (.int .i64) 2 (.s 1) (.c (.t (.int .i64 0)))⟩, ⟨(some 4), none, .ld (.int .i64) (.s 3)⟩, ⟨(some 5), none, .bin .geq (.s 4) (.c (.t (.int .i64 0)))⟩, ⟨(some 6), none, .mov (.s 5)⟩, ⟨(some 7), (some (6, true)), .iaa (.int .i64) 2 (.s 1) (.c (.t (.int .i64 0)))⟩, ⟨(some 8), (some (6, true)), .ld (.int .i64) (.s 7)⟩, ⟨(some 9), (some (6, true)), .bin .leq (.s 8) (.c (.t (.int .i64 1099511627776)))⟩, ⟨(some 10), none, .pick (.s 6) (.s 9) (.c (.t (.bool false)))⟩, ⟨(some 11), none, .mov (.s 10)⟩, ⟨(some 12), (some (11, true)), .iaa (.int .i64) 2 (.s 1) (.c (.t (.int .i64 1)))⟩, ⟨(some 13), (some (11, true)), .ld (.int .i64) (.s 12)⟩, ⟨(some 14), (some (11, true)), .bin .geq (.s 13) (.c (.t (.int .i64 0)))⟩, ⟨(some 15), none, .pick (.s 11) (.s 14) (.c (.t (.bool false)))⟩, ⟨(some 16), none, .mov (.s 15)⟩, ⟨(some 17), (some (16, true)), .iaa (.int .i64) 2 (.s 1) (.c (.t (.int .i64 1)))⟩, ⟨(some 18), (some (16, true)), .ld (.int .i64) (.s 17)⟩, ⟨(some 19), (some (16, true)), .bin .leq (.s 18) (.c (.t (.int .i64 1099511627776)))⟩, ⟨(some 20), none, .pick (.s 16) (.s 19) (.c (.t (.bool false)))⟩, ⟨(some 2), none, .mov (.s 20)⟩])
 .ret)),
 [.slot 2]⟩
theorem ok53 : compF Try.prog 53 [] [] = some ir53 := by kernel_rfl

/-- tenet/tenetref23.whole -/
def ir54 : FInfo := ⟨17,
 (.seq (.reg [⟨(some 2), none, .new (.agg [(.int .i64), (.int .i64)]) (.t (.agg [(.int .i64 0), (.int .i64 0)]))⟩, ⟨(some 3), none, .mov (.c (.t (.int .i64 0)))⟩])
 (.seq (.seq (.reg [⟨(some 4), none, .mov (.s 0)⟩, ⟨(some 5), none, .bin .gtr (.s 4) (.c (.t (.int .i64 1099511627776)))⟩, ⟨(some 6), none, .mov (.s 5)⟩, ⟨(some 7), (some (6, false)), .mov (.s 0)⟩, ⟨(some 8), (some (6, false)), .bin .lss (.s 7) (.c (.t (.int .i64 (-1099511627776))))⟩, ⟨(some 9), none, .pick (.s 6) (.c (.t (.bool true))) (.s 8)⟩])
 (.cond (.s 9)
 (.seq (.reg [⟨(some 10), none, .build [(.t (.int .i64 0)), (.t (.int .i64 0))] []⟩, ⟨none, none, .st (.agg [(.int .i64), (.int .i64)]) (.s 2) (.s 10)⟩, ⟨(some 3), none, .mov (.c (.t (.int .i64 2)))⟩])
 .ret)
 .skip))
 (.seq (.reg [⟨(some 11), none, .mov (.s 0)⟩, ⟨(some 12), none, .mx (.s 11) (.c (.t (.int .i64 0)))⟩, ⟨(some 13), none, .mov (.s 0)⟩, ⟨(some 14), none, .un .neg (.s 13)⟩, ⟨(some 15), none, .mx (.s 14) (.c (.t (.int .i64 0)))⟩, ⟨(some 16), none, .build [(.t (.int .i64 0)), (.t (.int .i64 0))] [(0, (.int .i64), (.s 12)), (1, (.int .i64), (.s 15))]⟩, ⟨none, none, .st (.agg [(.int .i64), (.int .i64)]) (.s 2) (.s 16)⟩, ⟨(some 3), none, .mov (.c (.t (.int .i64 0)))⟩])
 .ret))),
 [.cell 2 (.agg [(.int .i64), (.int .i64)]), .slot 3]⟩
theorem ok54 : compF Try.prog 54 [] [] = some ir54 := by kernel_rfl

/-- tenet/tenetref23.times -/
def ir55 : FInfo := ⟨31,
 (.seq (.reg [⟨(some 4), none, .new (.agg [.bool, (.int .u64), (.int .u64)]) (.t (.agg [(.bool false), (.int .u64 0), (.int .u64 0)]))⟩])
 (.seq (.reg [⟨(some 8), none, .mov (.s 0)⟩, ⟨(some 9), none, .call false 84 (.int .u64) [(.s 8)]⟩, ⟨(some 10), none, .mov (.s 1)⟩, ⟨(some 11), none, .call false 84 (.int .u64) [(.s 10)]⟩, ⟨(some 12), none, .call false 82 (.tup [(.int .u64), (.int .u64)]) [(.s 9), (.s 11)]⟩, ⟨(some 7), none, .mov (.s 12)⟩, ⟨(some 13), none, .ext 0 (.s 7)⟩, ⟨(some 14), none, .ext 1 (.s 7)⟩, ⟨(some 5), none, .mov (.s 13)⟩, ⟨(some 6), none, .mov (.s 14)⟩])
 (.seq (.reg [⟨(some 15), none, .mov (.s 0)⟩, ⟨(some 16), none, .bin .lss (.s 15) (.c (.t (.int .i64 0)))⟩, ⟨(some 17), none, .mov (.s 1)⟩, ⟨(some 18), none, .bin .lss (.s 17) (.c (.t (.int .i64 0)))⟩, ⟨(some 19), none, .eqs true .bool (.s 16) (.s 18)⟩, ⟨(some 20), none, .mov (.s 19)⟩, ⟨(some 21), (some (20, true)), .mov (.s 5)⟩, ⟨(some 22), (some (20, true)), .bin .neq (.s 21) (.c (.t (.int .u64 0)))⟩, ⟨(some 23), (some (20, true)), .mov (.s 22)⟩, ⟨(some 24), (some (23, false)), .mov (.s 6)⟩, ⟨(some 25), (some (23, false)), .bin .neq (.s 24) (.c (.t (.int .u64 0)))⟩, ⟨(some 26), (some (20, true)), .pick (.s 23) (.c (.t (.bool true))) (.s 25)⟩, ⟨(some 27), none, .pick (.s 20) (.s 26) (.c (.t (.bool false)))⟩, ⟨(some 28), none, .mov (.s 5)⟩, ⟨(some 29), none, .mov (.s 6)⟩, ⟨(some 30), none, .build [(.t (.bool false)), (.t (.int .u64 0)), (.t (.int .u64 0))] [(0, .bool, (.s 27)), (1, (.int .u64), (.s 28)), (2, (.int .u64), (.s 29))]⟩, ⟨none, none, .st (.agg [.bool, (.int .u64), (.int .u64)]) (.s 4) (.s 30)⟩])
 .ret))),
 [.cell 4 (.agg [.bool, (.int .u64), (.int .u64)])]⟩
theorem ok55 : compF Try.prog 55 [] [] = some ir55 := by kernel_rfl

/-- (tenet/tenetref23.wide).small -/
def ir56 : FInfo := ⟨12,
 (.seq (.reg [⟨(some 1), none, .box (.agg [.bool, (.int .u64), (.int .u64)]) (.s 0)⟩, ⟨(some 2), none, .mov (.c (.t (.int .i64 0)))⟩])
 (.seq (.seq (.reg [⟨(some 3), none, .fa 0 (.s 1)⟩, ⟨(some 4), none, .ld .bool (.s 3)⟩])
 (.cond (.s 4)
 (.seq (.reg [⟨(some 5), none, .fa 2 (.s 1)⟩, ⟨(some 6), none, .ld (.int .u64) (.s 5)⟩, ⟨(some 7), none, .conv .i64 (.s 6)⟩, ⟨(some 8), none, .un .neg (.s 7)⟩, ⟨(some 2), none, .mov (.s 8)⟩])
 .ret)
 .skip))
 (.seq (.reg [⟨(some 9), none, .fa 2 (.s 1)⟩, ⟨(some 10), none, .ld (.int .u64) (.s 9)⟩, ⟨(some 11), none, .conv .i64 (.s 10)⟩, ⟨(some 2), none, .mov (.s 11)⟩])
 .ret))),
 [.slot 2]⟩
theorem ok56 : compF Try.prog 56 [] [] = some ir56 := by kernel_rfl

/-- tenet/quot.isRat -/
def ir57 : FInfo := ⟨14,
 (.seq (.reg [⟨(some 1), none, .box (.agg [(.int .i64), (.int .i64)]) (.s 0)⟩, ⟨(some 2), none, .mov (.c (.t (.bool false)))⟩])
 (.seq (.reg [⟨(some 3), none, .fa 0 (.s 1)⟩, ⟨(some 4), none, .ld (.int .i64) (.s 3)⟩, ⟨(some 5), none, .fa 1 (.s 1)⟩, ⟨(some 6), none, .ld (.int .i64) (.s 5)⟩, ⟨(some 7), none, .bsl (.int .i64) (.t (.int .i64 0)) 2 [(0, (.s 4)), (1, (.s 6))]⟩, ⟨(some 8), none, .call false 70 .bool [(.s 7)]⟩, ⟨(some 9), none, .mov (.s 8)⟩, ⟨(some 10), (some (9, true)), .fa 1 (.s 1)⟩, ⟨(some 11), (some (9, true)), .ld (.int .i64) (.s 10)⟩, ⟨(some 12), (some (9, true)), .bin .neq (.s 11) (.c (.t (.int .i64 0)))⟩, ⟨(some 13), none, .pick (.s 9) (.s 12) (.c (.t (.bool false)))⟩, ⟨(some 2), none, .mov (.s 13)⟩])
 .ret)),
 [.slot 2]⟩
theorem ok57 : compF Try.prog 57 [] [] = some ir57 := by kernel_rfl

/-- tenet/quot.reduced -/
def ir58 : FInfo := ⟨24,
 (.seq (.reg [⟨(some 1), none, .box (.agg [(.int .i64), (.int .i64)]) (.s 0)⟩, ⟨(some 2), none, .new (.agg [(.int .i64), (.int .i64)]) (.t (.agg [(.int .i64 0), (.int .i64 0)]))⟩])
 (.seq (.reg [⟨(some 7), none, .ld (.agg [(.int .i64), (.int .i64)]) (.s 1)⟩, ⟨(some 8), none, .call false 85 (.tup [(.int .i64), (.int .i64)]) [(.s 7)]⟩, ⟨(some 6), none, .mov (.s 8)⟩, ⟨(some 9), none, .ext 0 (.s 6)⟩, ⟨(some 10), none, .ext 1 (.s 6)⟩, ⟨(some 3), none, .mov (.s 9)⟩, ⟨(some 4), none, .mov (.s 10)⟩])
 (.seq (.reg [⟨(some 11), none, .mov (.s 3)⟩, ⟨(some 12), none, .call false 83 (.int .u64) [(.s 11)]⟩, ⟨(some 13), none, .mov (.s 4)⟩, ⟨(some 14), none, .call false 83 (.int .u64) [(.s 13)]⟩, ⟨(some 15), none, .call false 86 (.int .u64) [(.s 12), (.s 14)]⟩, ⟨(some 16), none, .conv .i64 (.s 15)⟩, ⟨(some 5), none, .mov (.s 16)⟩])
 (.seq (.dreg [⟨(some 17), none, .mov (.s 3)⟩, ⟨(some 18), none, .mov (.s 5)⟩, ⟨(some 19), none, .bin .quo (.s 17) (.s 18)⟩, ⟨(some 20), none, .mov (.s 4)⟩, ⟨(some 21), none, .mov (.s 5)⟩, ⟨(some 22), none, .bin .quo (.s 20) (.s 21)⟩, ⟨(some 23), none, .build [(.t (.int .i64 0)), (.t (.int .i64 0))] [(0, (.int .i64), (.s 19)), (1, (.int .i64), (.s 22))]⟩, ⟨none, none, .st (.agg [(.int .i64), (.int .i64)]) (.s 2) (.s 23)⟩] [0, 0, 3, 0, 0, 24, 63, 127])
 .ret)))),
 [.cell 2 (.agg [(.int .i64), (.int .i64)])]⟩
theorem ok58 : compF Try.prog 58 [] [] = some ir58 := by kernel_rfl

/-- tenet/tenetref23.ratOK -/
def ir59 : FInfo := ⟨26,
 (.seq (.reg [⟨(some 1), none, .box (.agg [(.int .i64), (.int .i64)]) (.s 0)⟩, ⟨(some 2), none, .mov (.c (.t (.bool false)))⟩])
 (.seq (.reg [⟨(some 3), none, .fa 1 (.s 1)⟩, ⟨(some 4), none, .ld (.int .i64) (.s 3)⟩, ⟨(some 5), none, .bin .neq (.s 4) (.c (.t (.int .i64 0)))⟩, ⟨(some 6), none, .mov (.s 5)⟩, ⟨(some 7), (some (6, true)), .fa 0 (.s 1)⟩, ⟨(some 8), (some (6, true)), .ld (.int .i64) (.s 7)⟩, ⟨(some 9), (some (6, true)), .bin .geq (.s 8) (.c (.t (.int .i64 (-1099511627776))))⟩, ⟨(some 10), none, .pick (.s 6) (.s 9) (.c (.t (.bool false)))⟩, ⟨(some 11), none, .mov (.s 10)⟩, ⟨(some 12), (some (11, true)), .fa 0 (.s 1)⟩, ⟨(some 13), (some (11, true)), .ld (.int .i64) (.s 12)⟩, ⟨(some 14), (some (11, true)), .bin .leq (.s 13) (.c (.t (.int .i64 1099511627776)))⟩, ⟨(some 15), none, .pick (.s 11) (.s 14) (.c (.t (.bool false)))⟩, ⟨(some 16), none, .mov (.s 15)⟩, ⟨(some 17), (some (16, true)), .fa 1 (.s 1)⟩, ⟨(some 18), (some (16, true)), .ld (.int .i64) (.s 17)⟩, ⟨(some 19), (some (16, true)), .bin .geq (.s 18) (.c (.t (.int .i64 (-1099511627776))))⟩, ⟨(some 20), none, .pick (.s 16) (.s 19) (.c (.t (.bool false)))⟩, ⟨(some 21), none, .mov (.s 20)⟩, ⟨(some 22), (some (21, true)), .fa 1 (.s 1)⟩, ⟨(some 23), (some (21, true)), .ld (.int .i64) (.s 22)⟩, ⟨(some 24), (some (21, true)), .bin .leq (.s 23) (.c (.t (.int .i64 1099511627776)))⟩, ⟨(some 25), none, .pick (.s 21) (.s 24) (.c (.t (.bool false)))⟩, ⟨(some 2), none, .mov (.s 25)⟩])
 .ret)),
 [.slot 2]⟩
theorem ok59 : compF Try.prog 59 [] [] = some ir59 := by kernel_rfl


end Go.Proofs.Aw.Qa
