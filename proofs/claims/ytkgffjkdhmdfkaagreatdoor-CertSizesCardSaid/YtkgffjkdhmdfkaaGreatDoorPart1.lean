/- What the functions that the law reaches come to, and why. -/
import Derived.Test.YtkgffjkdhmdfkaaGreatDoorRows
import Derived.Test.YtkgffjkdhmdfkaaGreatDoorDw4
set_option linter.unusedSimpArgs false
set_option linter.unusedVariables false

/-
  THE RECKONED CODE, part 1: printed by program.
-/
section
set_option maxRecDepth 100000
namespace Go.Proofs.Dw.Zl
open Go.Proofs

/-- tenet/tenetlaw08.CertSizes -/
def ir3 : FInfo := ⟨44,
 (.seq (.reg [⟨(some 2), none, .box (.agg [(.int .i64), .slc, .slc]) (.s 0)⟩, ⟨(some 3), none, .box (.agg [(.int .i64), .slc, .slc]) (.s 1)⟩, ⟨(some 4), none, .mov (.c (.t (.bool false)))⟩])
 (.seq (.seq (.reg [⟨(some 9), none, .ld (.agg [(.int .i64), .slc, .slc]) (.s 2)⟩, ⟨(some 10), none, .ld (.agg [(.int .i64), .slc, .slc]) (.s 3)⟩, ⟨(some 11), none, .bsl (.agg [(.int .i64), .slc, .slc]) (.agg [(.t (.int .i64 0)), .nilS, .nilS]) 2 [(0, (.s 9)), (1, (.s 10))]⟩, ⟨(some 12), none, .call false 4 .bool [(.s 11)]⟩])
 (.cond (.s 12)
 (.seq (.reg [⟨(some 13), none, .call false 5 .bool []⟩, ⟨(some 4), none, .mov (.s 13)⟩])
 .ret)
 .skip))
 (.seq (.reg [⟨(some 15), none, .ld (.agg [(.int .i64), .slc, .slc]) (.s 2)⟩, ⟨(some 16), none, .call false 6 (.tup [(.int .i64), (.int .i64)]) [(.s 15)]⟩, ⟨(some 14), none, .mov (.s 16)⟩, ⟨(some 17), none, .ext 0 (.s 14)⟩, ⟨(some 18), none, .ext 1 (.s 14)⟩, ⟨(some 5), none, .mov (.s 17)⟩, ⟨(some 6), none, .mov (.s 18)⟩])
 (.seq (.reg [⟨(some 20), none, .ld (.agg [(.int .i64), .slc, .slc]) (.s 2)⟩, ⟨(some 21), none, .call false 7 (.tup [(.int .i64), (.int .i64)]) [(.s 20)]⟩, ⟨(some 19), none, .mov (.s 21)⟩, ⟨(some 22), none, .ext 0 (.s 19)⟩, ⟨(some 23), none, .ext 1 (.s 19)⟩, ⟨(some 7), none, .mov (.s 22)⟩, ⟨(some 8), none, .mov (.s 23)⟩])
 (.seq (.dreg [⟨(some 24), none, .mov (.s 5)⟩, ⟨(some 25), none, .mov (.s 7)⟩, ⟨(some 26), none, .bin .eql (.s 24) (.s 25)⟩, ⟨(some 27), none, .mov (.s 26)⟩, ⟨(some 28), (some (27, true)), .mov (.s 6)⟩, ⟨(some 29), (some (27, true)), .mov (.s 8)⟩, ⟨(some 30), (some (27, true)), .bin .eql (.s 28) (.s 29)⟩, ⟨(some 31), none, .pick (.s 27) (.s 30) (.c (.t (.bool false)))⟩, ⟨(some 32), none, .mov (.s 31)⟩, ⟨(some 33), (some (32, true)), .ld (.agg [(.int .i64), .slc, .slc]) (.s 2)⟩, ⟨(some 34), (some (32, true)), .ld (.agg [(.int .i64), .slc, .slc]) (.s 3)⟩, ⟨(some 35), (some (32, true)), .call false 8 .bool [(.s 33), (.s 34)]⟩, ⟨(some 36), (some (32, true)), .ld (.agg [(.int .i64), .slc, .slc]) (.s 2)⟩, ⟨(some 37), (some (32, true)), .ld (.agg [(.int .i64), .slc, .slc]) (.s 3)⟩, ⟨(some 38), (some (32, true)), .call false 9 .bool [(.s 36), (.s 37)]⟩, ⟨(some 39), (some (32, true)), .eqs false .bool (.s 35) (.s 38)⟩, ⟨(some 40), none, .pick (.s 32) (.s 39) (.c (.t (.bool false)))⟩, ⟨(some 41), none, .mov (.s 40)⟩, ⟨(some 42), (some (41, true)), .call false 5 .bool []⟩, ⟨(some 43), none, .pick (.s 41) (.s 42) (.c (.t (.bool false)))⟩, ⟨(some 4), none, .mov (.s 43)⟩] [0, 0, 3, 7, 15, 15, 63, 127, 255, 511, 511, 2047, 511, 511, 16383, 32767, 65535, 131071, 262143, 524287, 1048575])
 .ret))))),
 [.slot 4]⟩
theorem ok3 : compF Tryz.prog 3 [] (Cfg.mk [] [] [] [] []) = some ir3 := by kernel_rfl

/-- tenet/tenetlaw08.big -/
def ir4 : FInfo := ⟨19,
 (.seq (.reg [⟨(some 2), none, .mov (.c (.t (.bool false)))⟩])
 (.seq (.seq (.reg [⟨(some 3), none, .mov (.c (.t (.int .i64 0)))⟩])
 (.block 0 (.loop [0, 3] (.seq (.seq (.reg [⟨(some 4), none, .mov (.s 3)⟩, ⟨(some 5), none, .mov (.s 0)⟩, ⟨(some 6), none, .len (.s 5)⟩, ⟨(some 7), none, .bin .lss (.s 4) (.s 6)⟩])
 (.cond (.s 7)
 .skip
 (.exit 0)))
 (.seq (.block 1 (.seq (.reg [⟨(some 10), none, .mov (.s 0)⟩, ⟨(some 11), none, .mov (.s 3)⟩, ⟨(some 12), none, .ia (.agg [(.int .i64), .slc, .slc]) (.s 10) (.s 11)⟩, ⟨(some 13), none, .ld (.agg [(.int .i64), .slc, .slc]) (.s 12)⟩, ⟨(some 14), none, .call false 10 (.int .i64) [(.s 13), (.c (.t (.int .i64 3000)))]⟩, ⟨(some 15), none, .bin .gtr (.s 14) (.c (.t (.int .i64 3000)))⟩])
 (.cond (.s 15)
 (.seq (.reg [⟨(some 2), none, .mov (.c (.t (.bool true)))⟩])
 .ret)
 .skip)))
 (.reg [⟨(some 8), none, .mov (.s 3)⟩, ⟨(some 9), none, .bin .add (.s 8) (.c (.t (.int .i64 1)))⟩, ⟨(some 3), none, .mov (.s 9)⟩]))))))
 (.seq (.reg [⟨(some 16), none, .mov (.s 0)⟩, ⟨(some 17), none, .len (.s 16)⟩, ⟨(some 18), none, .bin .gtr (.s 17) (.c (.t (.int .i64 40)))⟩, ⟨(some 2), none, .mov (.s 18)⟩])
 .ret))),
 [.slot 2]⟩
theorem ok4 : compF Tryz.prog 4 [[0, 3]] (Cfg.mk [] [] [] [] []) = some ir4 := by kernel_rfl

/-- tenet/cert.Size -/
def ir6 : FInfo := ⟨42,
 (.seq (.reg [⟨(some 1), none, .box (.agg [(.int .i64), .slc, .slc]) (.s 0)⟩, ⟨(some 2), none, .mov (.c (.t (.int .i64 0)))⟩, ⟨(some 3), none, .mov (.c (.t (.int .i64 0)))⟩])
 (.seq (.reg [⟨(some 2), none, .mov (.c (.t (.int .i64 1)))⟩])
 (.seq (.seq (.reg [⟨(some 10), none, .fa 1 (.s 1)⟩, ⟨(some 11), none, .ld .slc (.s 10)⟩, ⟨(some 12), none, .len (.s 11)⟩, ⟨(some 13), none, .mov (.c (.t (.int .i64 0)))⟩])
 (.block 0 (.loop [1, 2, 3, 11, 12, 13] (.seq (.reg [⟨(some 14), none, .bin .lss (.s 13) (.s 12)⟩])
 (.seq (.cond (.s 14)
 .skip
 (.exit 0))
 (.seq (.block 1 (.seq (.reg [⟨(some 15), none, .ia (.int .i64) (.s 11) (.s 13)⟩, ⟨(some 16), none, .ld (.int .i64) (.s 15)⟩, ⟨(some 5), none, .mov (.s 16)⟩])
 (.reg [⟨(some 17), none, .mov (.s 3)⟩, ⟨(some 18), none, .mov (.s 5)⟩, ⟨(some 19), none, .call false 13 (.int .i64) [(.s 17), (.s 18)]⟩, ⟨(some 3), none, .mov (.s 19)⟩])))
 (.reg [⟨(some 20), none, .bin .add (.s 13) (.c (.t (.int .i64 1)))⟩, ⟨(some 13), none, .mov (.s 20)⟩])))))))
 (.seq (.seq (.reg [⟨(some 21), none, .fa 2 (.s 1)⟩, ⟨(some 22), none, .ld .slc (.s 21)⟩, ⟨(some 23), none, .len (.s 22)⟩, ⟨(some 24), none, .mov (.c (.t (.int .i64 0)))⟩])
 (.block 2 (.loop [2, 3, 22, 23, 24] (.seq (.reg [⟨(some 25), none, .bin .lss (.s 24) (.s 23)⟩])
 (.seq (.cond (.s 25)
 .skip
 (.exit 2))
 (.seq (.block 3 (.seq (.reg [⟨(some 26), none, .ia (.agg [(.int .i64), .slc, .slc]) (.s 22) (.s 24)⟩, ⟨(some 27), none, .ld (.agg [(.int .i64), .slc, .slc]) (.s 26)⟩, ⟨(some 7), none, .new (.agg [(.int .i64), .slc, .slc]) (.agg [(.t (.int .i64 0)), .nilS, .nilS])⟩, ⟨none, none, .st (.agg [(.int .i64), .slc, .slc]) (.s 7) (.s 27)⟩])
 (.seq (.reg [⟨(some 29), none, .ld (.agg [(.int .i64), .slc, .slc]) (.s 7)⟩, ⟨(some 30), none, .call false 6 (.tup [(.int .i64), (.int .i64)]) [(.s 29)]⟩, ⟨(some 28), none, .mov (.s 30)⟩, ⟨(some 31), none, .ext 0 (.s 28)⟩, ⟨(some 32), none, .ext 1 (.s 28)⟩, ⟨(some 8), none, .mov (.s 31)⟩, ⟨(some 9), none, .mov (.s 32)⟩])
 (.reg [⟨(some 33), none, .mov (.s 2)⟩, ⟨(some 34), none, .mov (.s 8)⟩, ⟨(some 35), none, .bin .add (.s 33) (.s 34)⟩, ⟨(some 36), none, .mov (.s 3)⟩, ⟨(some 37), none, .mov (.s 9)⟩, ⟨(some 38), none, .call false 13 (.int .i64) [(.s 36), (.s 37)]⟩, ⟨(some 2), none, .mov (.s 35)⟩, ⟨(some 3), none, .mov (.s 38)⟩]))))
 (.reg [⟨(some 39), none, .bin .add (.s 24) (.c (.t (.int .i64 1)))⟩, ⟨(some 24), none, .mov (.s 39)⟩])))))))
 (.seq (.reg [⟨(some 40), none, .mov (.s 2)⟩, ⟨(some 41), none, .mov (.s 3)⟩, ⟨(some 2), none, .mov (.s 40)⟩, ⟨(some 3), none, .mov (.s 41)⟩])
 .ret))))),
 [.slot 2, .slot 3]⟩
theorem ok6 : compF Tryz.prog 6 [[1, 2, 3, 11, 12, 13], [2, 3, 22, 23, 24]] (Cfg.mk [] [] [] [] []) = some ir6 := by kernel_rfl

/-- tenet/tenetref08.Size -/
def ir7 : FInfo := ⟨48,
 (.seq (.reg [⟨(some 1), none, .box (.agg [(.int .i64), .slc, .slc]) (.s 0)⟩, ⟨(some 2), none, .mov (.c (.t (.int .i64 0)))⟩, ⟨(some 3), none, .mov (.c (.t (.int .i64 0)))⟩])
 (.seq (.reg [⟨(some 4), none, .mov (.c (.t (.int .i64 1)))⟩, ⟨(some 5), none, .mov (.c (.t (.int .i64 0)))⟩])
 (.seq (.seq (.reg [⟨(some 6), none, .mov (.c (.t (.int .i64 0)))⟩])
 (.block 0 (.loop [1, 4, 5, 6] (.seq (.seq (.reg [⟨(some 10), none, .mov (.s 6)⟩, ⟨(some 11), none, .fa 1 (.s 1)⟩, ⟨(some 12), none, .ld .slc (.s 11)⟩, ⟨(some 13), none, .len (.s 12)⟩, ⟨(some 14), none, .bin .lss (.s 10) (.s 13)⟩])
 (.cond (.s 14)
 .skip
 (.exit 0)))
 (.seq (.block 1 (.reg [⟨(some 17), none, .mov (.s 5)⟩, ⟨(some 18), none, .fa 1 (.s 1)⟩, ⟨(some 19), none, .ld .slc (.s 18)⟩, ⟨(some 20), none, .mov (.s 6)⟩, ⟨(some 21), none, .ia (.int .i64) (.s 19) (.s 20)⟩, ⟨(some 22), none, .ld (.int .i64) (.s 21)⟩, ⟨(some 23), none, .call false 14 (.int .i64) [(.s 17), (.s 22)]⟩, ⟨(some 5), none, .mov (.s 23)⟩]))
 (.reg [⟨(some 15), none, .mov (.s 6)⟩, ⟨(some 16), none, .bin .add (.s 15) (.c (.t (.int .i64 1)))⟩, ⟨(some 6), none, .mov (.s 16)⟩]))))))
 (.seq (.seq (.reg [⟨(some 7), none, .mov (.c (.t (.int .i64 0)))⟩])
 (.block 2 (.loop [1, 4, 5, 7] (.seq (.seq (.reg [⟨(some 24), none, .mov (.s 7)⟩, ⟨(some 25), none, .fa 2 (.s 1)⟩, ⟨(some 26), none, .ld .slc (.s 25)⟩, ⟨(some 27), none, .len (.s 26)⟩, ⟨(some 28), none, .bin .lss (.s 24) (.s 27)⟩])
 (.cond (.s 28)
 .skip
 (.exit 2)))
 (.seq (.block 3 (.seq (.reg [⟨(some 32), none, .fa 2 (.s 1)⟩, ⟨(some 33), none, .ld .slc (.s 32)⟩, ⟨(some 34), none, .mov (.s 7)⟩, ⟨(some 35), none, .ia (.agg [(.int .i64), .slc, .slc]) (.s 33) (.s 34)⟩, ⟨(some 36), none, .ld (.agg [(.int .i64), .slc, .slc]) (.s 35)⟩, ⟨(some 37), none, .call false 7 (.tup [(.int .i64), (.int .i64)]) [(.s 36)]⟩, ⟨(some 31), none, .mov (.s 37)⟩, ⟨(some 38), none, .ext 0 (.s 31)⟩, ⟨(some 39), none, .ext 1 (.s 31)⟩, ⟨(some 8), none, .mov (.s 38)⟩, ⟨(some 9), none, .mov (.s 39)⟩])
 (.reg [⟨(some 40), none, .mov (.s 4)⟩, ⟨(some 41), none, .mov (.s 8)⟩, ⟨(some 42), none, .bin .add (.s 40) (.s 41)⟩, ⟨(some 43), none, .mov (.s 5)⟩, ⟨(some 44), none, .mov (.s 9)⟩, ⟨(some 45), none, .call false 14 (.int .i64) [(.s 43), (.s 44)]⟩, ⟨(some 4), none, .mov (.s 42)⟩, ⟨(some 5), none, .mov (.s 45)⟩])))
 (.reg [⟨(some 29), none, .mov (.s 7)⟩, ⟨(some 30), none, .bin .add (.s 29) (.c (.t (.int .i64 1)))⟩, ⟨(some 7), none, .mov (.s 30)⟩]))))))
 (.seq (.reg [⟨(some 46), none, .mov (.s 4)⟩, ⟨(some 47), none, .mov (.s 5)⟩, ⟨(some 2), none, .mov (.s 46)⟩, ⟨(some 3), none, .mov (.s 47)⟩])
 .ret))))),
 [.slot 2, .slot 3]⟩
theorem ok7 : compF Tryz.prog 7 [[1, 4, 5, 6], [1, 4, 5, 7]] (Cfg.mk [] [] [] [] []) = some ir7 := by kernel_rfl

/-- tenet/cert.Same -/
def ir8 : FInfo := ⟨24,
 (.seq (.reg [⟨(some 2), none, .box (.agg [(.int .i64), .slc, .slc]) (.s 0)⟩, ⟨(some 3), none, .box (.agg [(.int .i64), .slc, .slc]) (.s 1)⟩, ⟨(some 4), none, .mov (.c (.t (.bool false)))⟩])
 (.seq (.reg [⟨(some 5), none, .fa 0 (.s 2)⟩, ⟨(some 6), none, .ld (.int .i64) (.s 5)⟩, ⟨(some 7), none, .fa 0 (.s 3)⟩, ⟨(some 8), none, .ld (.int .i64) (.s 7)⟩, ⟨(some 9), none, .bin .eql (.s 6) (.s 8)⟩, ⟨(some 10), none, .mov (.s 9)⟩, ⟨(some 11), (some (10, true)), .fa 1 (.s 2)⟩, ⟨(some 12), (some (10, true)), .ld .slc (.s 11)⟩, ⟨(some 13), (some (10, true)), .fa 1 (.s 3)⟩, ⟨(some 14), (some (10, true)), .ld .slc (.s 13)⟩, ⟨(some 15), (some (10, true)), .call false 15 .bool [(.s 12), (.s 14)]⟩, ⟨(some 16), none, .pick (.s 10) (.s 15) (.c (.t (.bool false)))⟩, ⟨(some 17), none, .mov (.s 16)⟩, ⟨(some 18), (some (17, true)), .fa 2 (.s 2)⟩, ⟨(some 19), (some (17, true)), .ld .slc (.s 18)⟩, ⟨(some 20), (some (17, true)), .fa 2 (.s 3)⟩, ⟨(some 21), (some (17, true)), .ld .slc (.s 20)⟩, ⟨(some 22), (some (17, true)), .call false 16 .bool [(.s 19), (.s 21), (.f 8)]⟩, ⟨(some 23), none, .pick (.s 17) (.s 22) (.c (.t (.bool false)))⟩, ⟨(some 4), none, .mov (.s 23)⟩])
 .ret)),
 [.slot 4]⟩
theorem ok8 : compF Tryz.prog 8 [] (Cfg.mk [] [] [] [] []) = some ir8 := by kernel_rfl

/-- tenet/tenetref08.Same -/
def ir9 : FInfo := ⟨47,
 (.seq (.reg [⟨(some 2), none, .box (.agg [(.int .i64), .slc, .slc]) (.s 0)⟩, ⟨(some 3), none, .box (.agg [(.int .i64), .slc, .slc]) (.s 1)⟩, ⟨(some 4), none, .mov (.c (.t (.bool false)))⟩])
 (.seq (.seq (.reg [⟨(some 6), none, .fa 0 (.s 2)⟩, ⟨(some 7), none, .ld (.int .i64) (.s 6)⟩, ⟨(some 8), none, .fa 0 (.s 3)⟩, ⟨(some 9), none, .ld (.int .i64) (.s 8)⟩, ⟨(some 10), none, .bin .neq (.s 7) (.s 9)⟩, ⟨(some 11), none, .mov (.s 10)⟩, ⟨(some 12), (some (11, false)), .fa 1 (.s 2)⟩, ⟨(some 13), (some (11, false)), .ld .slc (.s 12)⟩, ⟨(some 14), (some (11, false)), .fa 1 (.s 3)⟩, ⟨(some 15), (some (11, false)), .ld .slc (.s 14)⟩, ⟨(some 16), (some (11, false)), .call false 17 .bool [(.s 13), (.s 15)]⟩, ⟨(some 17), (some (11, false)), .un .not (.s 16)⟩, ⟨(some 18), none, .pick (.s 11) (.c (.t (.bool true))) (.s 17)⟩, ⟨(some 19), none, .mov (.s 18)⟩, ⟨(some 20), (some (19, false)), .fa 2 (.s 2)⟩, ⟨(some 21), (some (19, false)), .ld .slc (.s 20)⟩, ⟨(some 22), (some (19, false)), .len (.s 21)⟩, ⟨(some 23), (some (19, false)), .fa 2 (.s 3)⟩, ⟨(some 24), (some (19, false)), .ld .slc (.s 23)⟩, ⟨(some 25), (some (19, false)), .len (.s 24)⟩, ⟨(some 26), (some (19, false)), .bin .neq (.s 22) (.s 25)⟩, ⟨(some 27), none, .pick (.s 19) (.c (.t (.bool true))) (.s 26)⟩])
 (.cond (.s 27)
 (.seq (.reg [⟨(some 4), none, .mov (.c (.t (.bool false)))⟩])
 .ret)
 .skip))
 (.seq (.seq (.reg [⟨(some 5), none, .mov (.c (.t (.int .i64 0)))⟩])
 (.block 0 (.loop [2, 3, 5] (.seq (.seq (.reg [⟨(some 28), none, .mov (.s 5)⟩, ⟨(some 29), none, .fa 2 (.s 2)⟩, ⟨(some 30), none, .ld .slc (.s 29)⟩, ⟨(some 31), none, .len (.s 30)⟩, ⟨(some 32), none, .bin .lss (.s 28) (.s 31)⟩])
 (.cond (.s 32)
 .skip
 (.exit 0)))
 (.seq (.block 1 (.seq (.dreg [⟨(some 35), none, .fa 2 (.s 2)⟩, ⟨(some 36), none, .ld .slc (.s 35)⟩, ⟨(some 37), none, .mov (.s 5)⟩, ⟨(some 38), none, .ia (.agg [(.int .i64), .slc, .slc]) (.s 36) (.s 37)⟩, ⟨(some 39), none, .ld (.agg [(.int .i64), .slc, .slc]) (.s 38)⟩, ⟨(some 40), none, .fa 2 (.s 3)⟩, ⟨(some 41), none, .ld .slc (.s 40)⟩, ⟨(some 42), none, .mov (.s 5)⟩, ⟨(some 43), none, .ia (.agg [(.int .i64), .slc, .slc]) (.s 41) (.s 42)⟩, ⟨(some 44), none, .ld (.agg [(.int .i64), .slc, .slc]) (.s 43)⟩, ⟨(some 45), none, .call false 9 .bool [(.s 39), (.s 44)]⟩, ⟨(some 46), none, .un .not (.s 45)⟩] [0, 1, 0, 7, 15, 0, 32, 0, 224, 480, 1023, 2047])
 (.cond (.s 46)
 (.seq (.reg [⟨(some 4), none, .mov (.c (.t (.bool false)))⟩])
 .ret)
 .skip)))
 (.reg [⟨(some 33), none, .mov (.s 5)⟩, ⟨(some 34), none, .bin .add (.s 33) (.c (.t (.int .i64 1)))⟩, ⟨(some 5), none, .mov (.s 34)⟩]))))))
 (.seq (.reg [⟨(some 4), none, .mov (.c (.t (.bool true)))⟩])
 .ret)))),
 [.slot 4]⟩
theorem ok9 : compF Tryz.prog 9 [[2, 3, 5]] (Cfg.mk [] [] [] [] []) = some ir9 := by kernel_rfl

/-- tenet/tenetlaw08.nodes -/
def ir10 : FInfo := ⟨40,
 (.seq (.reg [⟨(some 2), none, .box (.agg [(.int .i64), .slc, .slc]) (.s 0)⟩, ⟨(some 4), none, .mov (.c (.t (.int .i64 0)))⟩])
 (.seq (.reg [⟨(some 7), none, .fa 1 (.s 2)⟩, ⟨(some 8), none, .ld .slc (.s 7)⟩, ⟨(some 9), none, .len (.s 8)⟩, ⟨(some 10), none, .mov (.s 1)⟩, ⟨(some 11), none, .mn (.s 9) (.s 10)⟩, ⟨(some 12), none, .bin .add (.c (.t (.int .i64 1))) (.s 11)⟩, ⟨(some 5), none, .mov (.s 12)⟩])
 (.seq (.seq (.reg [⟨(some 6), none, .mov (.c (.t (.int .i64 0)))⟩])
 (.block 0 (.loop [1, 2, 5, 6] (.seq (.seq (.reg [⟨(some 13), none, .mov (.s 6)⟩, ⟨(some 14), none, .fa 2 (.s 2)⟩, ⟨(some 15), none, .ld .slc (.s 14)⟩, ⟨(some 16), none, .len (.s 15)⟩, ⟨(some 17), none, .bin .lss (.s 13) (.s 16)⟩, ⟨(some 18), none, .mov (.s 17)⟩, ⟨(some 19), (some (18, true)), .mov (.s 5)⟩, ⟨(some 20), (some (18, true)), .mov (.s 1)⟩, ⟨(some 21), (some (18, true)), .bin .leq (.s 19) (.s 20)⟩, ⟨(some 22), none, .pick (.s 18) (.s 21) (.c (.t (.bool false)))⟩])
 (.cond (.s 22)
 .skip
 (.exit 0)))
 (.seq (.block 1 (.reg [⟨(some 25), none, .mov (.s 5)⟩, ⟨(some 26), none, .fa 2 (.s 2)⟩, ⟨(some 27), none, .ld .slc (.s 26)⟩, ⟨(some 28), none, .mov (.s 6)⟩, ⟨(some 29), none, .ia (.agg [(.int .i64), .slc, .slc]) (.s 27) (.s 28)⟩, ⟨(some 30), none, .ld (.agg [(.int .i64), .slc, .slc]) (.s 29)⟩, ⟨(some 31), none, .mov (.s 1)⟩, ⟨(some 32), none, .mov (.s 5)⟩, ⟨(some 33), none, .bin .sub (.s 31) (.s 32)⟩, ⟨(some 34), none, .call false 10 (.int .i64) [(.s 30), (.s 33)]⟩, ⟨(some 35), none, .bin .add (.s 25) (.s 34)⟩, ⟨(some 5), none, .mov (.s 35)⟩]))
 (.reg [⟨(some 23), none, .mov (.s 6)⟩, ⟨(some 24), none, .bin .add (.s 23) (.c (.t (.int .i64 1)))⟩, ⟨(some 6), none, .mov (.s 24)⟩]))))))
 (.seq (.reg [⟨(some 36), none, .mov (.s 5)⟩, ⟨(some 37), none, .mov (.s 1)⟩, ⟨(some 38), none, .bin .add (.s 37) (.c (.t (.int .i64 1)))⟩, ⟨(some 39), none, .mn (.s 36) (.s 38)⟩, ⟨(some 4), none, .mov (.s 39)⟩])
 .ret)))),
 [.slot 4]⟩
theorem ok10 : compF Tryz.prog 10 [[1, 2, 5, 6]] (Cfg.mk [] [] [] [] []) = some ir10 := by kernel_rfl

/-- tenet/cert.sum -/
def ir13 : FInfo := ⟨20,
 (.seq (.reg [⟨(some 4), none, .mov (.c (.t (.int .i64 0)))⟩])
 (.seq (.seq (.reg [⟨(some 5), none, .mov (.s 0)⟩, ⟨(some 6), none, .bin .lss (.s 5) (.c (.t (.int .i64 0)))⟩, ⟨(some 7), none, .mov (.s 6)⟩, ⟨(some 8), (some (7, false)), .mov (.s 1)⟩, ⟨(some 9), (some (7, false)), .bin .lss (.s 8) (.c (.t (.int .i64 0)))⟩, ⟨(some 10), none, .pick (.s 7) (.c (.t (.bool true))) (.s 9)⟩, ⟨(some 11), none, .mov (.s 10)⟩, ⟨(some 12), (some (11, false)), .mov (.s 1)⟩, ⟨(some 13), (some (11, false)), .mov (.s 0)⟩, ⟨(some 14), (some (11, false)), .bin .sub (.c (.t (.int .i64 20000))) (.s 13)⟩, ⟨(some 15), (some (11, false)), .bin .gtr (.s 12) (.s 14)⟩, ⟨(some 16), none, .pick (.s 11) (.c (.t (.bool true))) (.s 15)⟩])
 (.cond (.s 16)
 (.seq (.reg [⟨(some 4), none, .mov (.c (.t (.int .i64 (-1))))⟩])
 .ret)
 .skip))
 (.seq (.reg [⟨(some 17), none, .mov (.s 0)⟩, ⟨(some 18), none, .mov (.s 1)⟩, ⟨(some 19), none, .bin .add (.s 17) (.s 18)⟩, ⟨(some 4), none, .mov (.s 19)⟩])
 .ret))),
 [.slot 4]⟩
theorem ok13 : compF Tryz.prog 13 [] (Cfg.mk [] [] [] [] []) = some ir13 := by kernel_rfl

/-- tenet/tenetref08.add -/
def ir14 : FInfo := ⟨20,
 (.seq (.reg [⟨(some 4), none, .mov (.c (.t (.int .i64 0)))⟩])
 (.seq (.seq (.reg [⟨(some 5), none, .mov (.s 0)⟩, ⟨(some 6), none, .bin .lss (.s 5) (.c (.t (.int .i64 0)))⟩, ⟨(some 7), none, .mov (.s 6)⟩, ⟨(some 8), (some (7, false)), .mov (.s 1)⟩, ⟨(some 9), (some (7, false)), .bin .lss (.s 8) (.c (.t (.int .i64 0)))⟩, ⟨(some 10), none, .pick (.s 7) (.c (.t (.bool true))) (.s 9)⟩, ⟨(some 11), none, .mov (.s 10)⟩, ⟨(some 12), (some (11, false)), .mov (.s 1)⟩, ⟨(some 13), (some (11, false)), .mov (.s 0)⟩, ⟨(some 14), (some (11, false)), .bin .sub (.c (.t (.int .i64 20000))) (.s 13)⟩, ⟨(some 15), (some (11, false)), .bin .gtr (.s 12) (.s 14)⟩, ⟨(some 16), none, .pick (.s 11) (.c (.t (.bool true))) (.s 15)⟩])
 (.cond (.s 16)
 (.seq (.reg [⟨(some 4), none, .mov (.c (.t (.int .i64 (-1))))⟩])
 .ret)
 .skip))
 (.seq (.reg [⟨(some 17), none, .mov (.s 0)⟩, ⟨(some 18), none, .mov (.s 1)⟩, ⟨(some 19), none, .bin .add (.s 17) (.s 18)⟩, ⟨(some 4), none, .mov (.s 19)⟩])
 .ret))),
 [.slot 4]⟩
theorem ok14 : compF Tryz.prog 14 [] (Cfg.mk [] [] [] [] []) = some ir14 := by kernel_rfl

/-- slices.Equal[[]int,int] -/
def ir15 : FInfo := ⟨26,
 (.seq (.reg [⟨(some 4), none, .mov (.c (.t (.bool false)))⟩])
 (.seq (.seq (.reg [⟨(some 6), none, .mov (.s 0)⟩, ⟨(some 7), none, .len (.s 6)⟩, ⟨(some 8), none, .mov (.s 1)⟩, ⟨(some 9), none, .len (.s 8)⟩, ⟨(some 10), none, .bin .neq (.s 7) (.s 9)⟩])
 (.cond (.s 10)
 (.seq (.reg [⟨(some 4), none, .mov (.c (.t (.bool false)))⟩])
 .ret)
 .skip))
 (.seq (.seq (.reg [⟨(some 11), none, .mov (.s 0)⟩, ⟨(some 12), none, .len (.s 11)⟩, ⟨(some 13), none, .mov (.c (.t (.int .i64 0)))⟩])
 (.block 0 (.loop [0, 1, 12, 13] (.seq (.reg [⟨(some 14), none, .bin .lss (.s 13) (.s 12)⟩])
 (.seq (.cond (.s 14)
 .skip
 (.exit 0))
 (.seq (.block 1 (.seq (.reg [⟨(some 15), none, .mov (.s 13)⟩, ⟨(some 5), none, .mov (.s 15)⟩])
 (.seq (.dreg [⟨(some 16), none, .mov (.s 0)⟩, ⟨(some 17), none, .mov (.s 5)⟩, ⟨(some 18), none, .ia (.int .i64) (.s 16) (.s 17)⟩, ⟨(some 19), none, .ld (.int .i64) (.s 18)⟩, ⟨(some 20), none, .mov (.s 1)⟩, ⟨(some 21), none, .mov (.s 5)⟩, ⟨(some 22), none, .ia (.int .i64) (.s 20) (.s 21)⟩, ⟨(some 23), none, .ld (.int .i64) (.s 22)⟩, ⟨(some 24), none, .bin .neq (.s 19) (.s 23)⟩] [0, 0, 3, 7, 0, 0, 48, 112, 255])
 (.cond (.s 24)
 (.seq (.reg [⟨(some 4), none, .mov (.c (.t (.bool false)))⟩])
 .ret)
 .skip))))
 (.reg [⟨(some 25), none, .bin .add (.s 13) (.c (.t (.int .i64 1)))⟩, ⟨(some 13), none, .mov (.s 25)⟩])))))))
 (.seq (.reg [⟨(some 4), none, .mov (.c (.t (.bool true)))⟩])
 .ret)))),
 [.slot 4]⟩
theorem ok15 : compF Tryz.prog 15 [[0, 1, 12, 13]] (Cfg.mk [] [] [] [] []) = some ir15 := by kernel_rfl

/-- slices.EqualFunc[[]tenet/api.Cert,[]tenet/api.Cert,tenet/api.Cert,tenet/api.Cert] -/
def ir16 : FInfo := ⟨32,
 (.seq (.reg [⟨(some 6), none, .mov (.c (.t (.bool false)))⟩])
 (.seq (.seq (.reg [⟨(some 10), none, .mov (.s 0)⟩, ⟨(some 11), none, .len (.s 10)⟩, ⟨(some 12), none, .mov (.s 1)⟩, ⟨(some 13), none, .len (.s 12)⟩, ⟨(some 14), none, .bin .neq (.s 11) (.s 13)⟩])
 (.cond (.s 14)
 (.seq (.reg [⟨(some 6), none, .mov (.c (.t (.bool false)))⟩])
 .ret)
 .skip))
 (.seq (.seq (.reg [⟨(some 15), none, .mov (.s 0)⟩, ⟨(some 16), none, .len (.s 15)⟩, ⟨(some 17), none, .mov (.c (.t (.int .i64 0)))⟩])
 (.block 0 (.loop [1, 2, 15, 16, 17] (.seq (.reg [⟨(some 18), none, .bin .lss (.s 17) (.s 16)⟩])
 (.seq (.cond (.s 18)
 .skip
 (.exit 0))
 (.seq (.block 1 (.seq (.reg [⟨(some 19), none, .mov (.s 17)⟩, ⟨(some 20), none, .ia (.agg [(.int .i64), .slc, .slc]) (.s 15) (.s 17)⟩, ⟨(some 21), none, .ld (.agg [(.int .i64), .slc, .slc]) (.s 20)⟩, ⟨(some 8), none, .new (.agg [(.int .i64), .slc, .slc]) (.agg [(.t (.int .i64 0)), .nilS, .nilS])⟩, ⟨(some 7), none, .mov (.s 19)⟩, ⟨none, none, .st (.agg [(.int .i64), .slc, .slc]) (.s 8) (.s 21)⟩])
 (.seq (.reg [⟨(some 22), none, .mov (.s 1)⟩, ⟨(some 23), none, .mov (.s 7)⟩, ⟨(some 24), none, .ia (.agg [(.int .i64), .slc, .slc]) (.s 22) (.s 23)⟩, ⟨(some 25), none, .ld (.agg [(.int .i64), .slc, .slc]) (.s 24)⟩, ⟨(some 9), none, .new (.agg [(.int .i64), .slc, .slc]) (.agg [(.t (.int .i64 0)), .nilS, .nilS])⟩, ⟨none, none, .st (.agg [(.int .i64), .slc, .slc]) (.s 9) (.s 25)⟩])
 (.seq (.reg [⟨(some 26), none, .mov (.s 2)⟩, ⟨(some 27), none, .ld (.agg [(.int .i64), .slc, .slc]) (.s 8)⟩, ⟨(some 28), none, .ld (.agg [(.int .i64), .slc, .slc]) (.s 9)⟩, ⟨(some 29), none, .callv (.s 26) .bool [(.s 27), (.s 28)]⟩, ⟨(some 30), none, .un .not (.s 29)⟩])
 (.cond (.s 30)
 (.seq (.reg [⟨(some 6), none, .mov (.c (.t (.bool false)))⟩])
 .ret)
 .skip)))))
 (.reg [⟨(some 31), none, .bin .add (.s 17) (.c (.t (.int .i64 1)))⟩, ⟨(some 17), none, .mov (.s 31)⟩])))))))
 (.seq (.reg [⟨(some 6), none, .mov (.c (.t (.bool true)))⟩])
 .ret)))),
 [.slot 6]⟩
theorem ok16 : compF Tryz.prog 16 [[1, 2, 15, 16, 17]] (Cfg.mk [] [] [] [] []) = some ir16 := by kernel_rfl

/-- tenet/tenetref00.EqInts -/
def ir17 : FInfo := ⟨26,
 (.seq (.reg [⟨(some 4), none, .mov (.c (.t (.bool false)))⟩])
 (.seq (.seq (.reg [⟨(some 6), none, .mov (.s 0)⟩, ⟨(some 7), none, .len (.s 6)⟩, ⟨(some 8), none, .mov (.s 1)⟩, ⟨(some 9), none, .len (.s 8)⟩, ⟨(some 10), none, .bin .neq (.s 7) (.s 9)⟩])
 (.cond (.s 10)
 (.seq (.reg [⟨(some 4), none, .mov (.c (.t (.bool false)))⟩])
 .ret)
 .skip))
 (.seq (.seq (.reg [⟨(some 5), none, .mov (.c (.t (.int .i64 0)))⟩])
 (.block 0 (.loop [0, 1, 5] (.seq (.seq (.reg [⟨(some 11), none, .mov (.s 5)⟩, ⟨(some 12), none, .mov (.s 0)⟩, ⟨(some 13), none, .len (.s 12)⟩, ⟨(some 14), none, .bin .lss (.s 11) (.s 13)⟩])
 (.cond (.s 14)
 .skip
 (.exit 0)))
 (.seq (.block 1 (.seq (.dreg [⟨(some 17), none, .mov (.s 0)⟩, ⟨(some 18), none, .mov (.s 5)⟩, ⟨(some 19), none, .ia (.int .i64) (.s 17) (.s 18)⟩, ⟨(some 20), none, .ld (.int .i64) (.s 19)⟩, ⟨(some 21), none, .mov (.s 1)⟩, ⟨(some 22), none, .mov (.s 5)⟩, ⟨(some 23), none, .ia (.int .i64) (.s 21) (.s 22)⟩, ⟨(some 24), none, .ld (.int .i64) (.s 23)⟩, ⟨(some 25), none, .bin .neq (.s 20) (.s 24)⟩] [0, 0, 3, 7, 0, 0, 48, 112, 255])
 (.cond (.s 25)
 (.seq (.reg [⟨(some 4), none, .mov (.c (.t (.bool false)))⟩])
 .ret)
 .skip)))
 (.reg [⟨(some 15), none, .mov (.s 5)⟩, ⟨(some 16), none, .bin .add (.s 15) (.c (.t (.int .i64 1)))⟩, ⟨(some 5), none, .mov (.s 16)⟩]))))))
 (.seq (.reg [⟨(some 4), none, .mov (.c (.t (.bool true)))⟩])
 .ret)))),
 [.slot 4]⟩
theorem ok17 : compF Tryz.prog 17 [[0, 1, 5]] (Cfg.mk [] [] [] [] []) = some ir17 := by kernel_rfl


end Go.Proofs.Dw.Zl
end

/-
  THE RECKONED CODE, part 1: printed by program.
-/
section
set_option maxRecDepth 100000
namespace Go.Proofs.Dw.Za
open Go.Proofs

/-- tenet/tenetlaw08.awake -/
def ir5 : FInfo := ⟨42,
 (.seq (.reg [⟨(some 0), none, .mov (.c (.t (.bool false)))⟩])
 (.seq (.reg [⟨(some 10), none, .call false 11 (.tup [(.agg [(.int .i64), (.int .i64), .str, .slc, .slc]), (.agg [(.int .i64), .slc, .slc])]) [(.c (.t (.int .i64 0)))]⟩, ⟨(some 9), none, .mov (.s 10)⟩, ⟨(some 11), none, .ext 0 (.s 9)⟩, ⟨(some 12), none, .ext 1 (.s 9)⟩, ⟨(some 1), none, .new (.agg [(.int .i64), (.int .i64), .str, .slc, .slc]) (.agg [(.t (.int .i64 0)), (.t (.int .i64 0)), (.t (.str [])), .nilS, .nilS])⟩, ⟨(some 2), none, .new (.agg [(.int .i64), .slc, .slc]) (.agg [(.t (.int .i64 0)), .nilS, .nilS])⟩, ⟨none, none, .st (.agg [(.int .i64), (.int .i64), .str, .slc, .slc]) (.s 1) (.s 11)⟩, ⟨none, none, .st (.agg [(.int .i64), .slc, .slc]) (.s 2) (.s 12)⟩])
 (.seq (.reg [⟨(some 14), none, .call false 11 (.tup [(.agg [(.int .i64), (.int .i64), .str, .slc, .slc]), (.agg [(.int .i64), .slc, .slc])]) [(.c (.t (.int .i64 1)))]⟩, ⟨(some 13), none, .mov (.s 14)⟩, ⟨(some 15), none, .ext 0 (.s 13)⟩, ⟨(some 16), none, .ext 1 (.s 13)⟩, ⟨(some 3), none, .new (.agg [(.int .i64), (.int .i64), .str, .slc, .slc]) (.agg [(.t (.int .i64 0)), (.t (.int .i64 0)), (.t (.str [])), .nilS, .nilS])⟩, ⟨(some 4), none, .new (.agg [(.int .i64), .slc, .slc]) (.agg [(.t (.int .i64 0)), .nilS, .nilS])⟩, ⟨none, none, .st (.agg [(.int .i64), (.int .i64), .str, .slc, .slc]) (.s 3) (.s 15)⟩, ⟨none, none, .st (.agg [(.int .i64), .slc, .slc]) (.s 4) (.s 16)⟩])
 (.seq (.reg [⟨(some 18), none, .build [.nilS] []⟩, ⟨(some 19), none, .ld (.agg [(.int .i64), (.int .i64), .str, .slc, .slc]) (.s 1)⟩, ⟨(some 20), none, .ld (.agg [(.int .i64), .slc, .slc]) (.s 2)⟩, ⟨(some 21), none, .call false 12 (.tup [(.agg [(.int .i64), (.int .i64), .str, .slc, .slc]), (.int .i64)]) [(.s 18), (.c .nilS), (.s 19), (.s 20)]⟩, ⟨(some 17), none, .mov (.s 21)⟩, ⟨(some 22), none, .ext 0 (.s 17)⟩, ⟨(some 23), none, .ext 1 (.s 17)⟩, ⟨(some 5), none, .new (.agg [(.int .i64), (.int .i64), .str, .slc, .slc]) (.agg [(.t (.int .i64 0)), (.t (.int .i64 0)), (.t (.str [])), .nilS, .nilS])⟩, ⟨none, none, .st (.agg [(.int .i64), (.int .i64), .str, .slc, .slc]) (.s 5) (.s 22)⟩, ⟨(some 6), none, .mov (.s 23)⟩])
 (.seq (.reg [⟨(some 25), none, .build [.nilS] []⟩, ⟨(some 26), none, .ld (.agg [(.int .i64), (.int .i64), .str, .slc, .slc]) (.s 1)⟩, ⟨(some 27), none, .ld (.agg [(.int .i64), .slc, .slc]) (.s 4)⟩, ⟨(some 28), none, .call false 12 (.tup [(.agg [(.int .i64), (.int .i64), .str, .slc, .slc]), (.int .i64)]) [(.s 25), (.c .nilS), (.s 26), (.s 27)]⟩, ⟨(some 24), none, .mov (.s 28)⟩, ⟨(some 29), none, .ext 0 (.s 24)⟩, ⟨(some 30), none, .ext 1 (.s 24)⟩, ⟨(some 7), none, .new (.agg [(.int .i64), (.int .i64), .str, .slc, .slc]) (.agg [(.t (.int .i64 0)), (.t (.int .i64 0)), (.t (.str [])), .nilS, .nilS])⟩, ⟨none, none, .st (.agg [(.int .i64), (.int .i64), .str, .slc, .slc]) (.s 7) (.s 29)⟩, ⟨(some 8), none, .mov (.s 30)⟩])
 (.seq (.reg [⟨(some 31), none, .mov (.s 6)⟩, ⟨(some 32), none, .bin .eql (.s 31) (.c (.t (.int .i64 0)))⟩, ⟨(some 33), none, .mov (.s 32)⟩, ⟨(some 34), (some (33, true)), .fa 0 (.s 5)⟩, ⟨(some 35), (some (33, true)), .ld (.int .i64) (.s 34)⟩, ⟨(some 36), (some (33, true)), .bin .eql (.s 35) (.c (.t (.int .i64 12)))⟩, ⟨(some 37), none, .pick (.s 33) (.s 36) (.c (.t (.bool false)))⟩, ⟨(some 38), none, .mov (.s 37)⟩, ⟨(some 39), (some (38, true)), .mov (.s 8)⟩, ⟨(some 40), (some (38, true)), .bin .eql (.s 39) (.c (.t (.int .i64 80)))⟩, ⟨(some 41), none, .pick (.s 38) (.s 40) (.c (.t (.bool false)))⟩, ⟨(some 0), none, .mov (.s 41)⟩])
 .ret)))))),
 [.slot 0]⟩
theorem ok5 : compF Tryz.prog 5 [] (Cfg.mk [] [] [] [] []) = some ir5 := by kernel_rfl

/-- tenet/cert.Size -/
def ir6 : FInfo := ⟨42,
 (.seq (.reg [⟨(some 1), none, .box (.agg [(.int .i64), .slc, .slc]) (.s 0)⟩, ⟨(some 2), none, .mov (.c (.t (.int .i64 0)))⟩, ⟨(some 3), none, .mov (.c (.t (.int .i64 0)))⟩])
 (.seq (.reg [⟨(some 2), none, .mov (.c (.t (.int .i64 1)))⟩])
 (.seq (.seq (.reg [⟨(some 10), none, .fa 1 (.s 1)⟩, ⟨(some 11), none, .ld .slc (.s 10)⟩, ⟨(some 12), none, .len (.s 11)⟩, ⟨(some 13), none, .mov (.c (.t (.int .i64 0)))⟩])
 (.block 0 (.loop [1, 2, 3, 11, 12, 13] (.seq (.reg [⟨(some 14), none, .bin .lss (.s 13) (.s 12)⟩])
 (.seq (.cond (.s 14)
 .skip
 (.exit 0))
 (.seq (.block 1 (.seq (.reg [⟨(some 15), none, .ia (.int .i64) (.s 11) (.s 13)⟩, ⟨(some 16), none, .ld (.int .i64) (.s 15)⟩, ⟨(some 5), none, .mov (.s 16)⟩])
 (.reg [⟨(some 17), none, .mov (.s 3)⟩, ⟨(some 18), none, .mov (.s 5)⟩, ⟨(some 19), none, .call false 13 (.int .i64) [(.s 17), (.s 18)]⟩, ⟨(some 3), none, .mov (.s 19)⟩])))
 (.reg [⟨(some 20), none, .bin .add (.s 13) (.c (.t (.int .i64 1)))⟩, ⟨(some 13), none, .mov (.s 20)⟩])))))))
 (.seq (.seq (.reg [⟨(some 21), none, .fa 2 (.s 1)⟩, ⟨(some 22), none, .ld .slc (.s 21)⟩, ⟨(some 23), none, .len (.s 22)⟩, ⟨(some 24), none, .mov (.c (.t (.int .i64 0)))⟩])
 (.block 2 (.loop [2, 3, 22, 23, 24] (.seq (.reg [⟨(some 25), none, .bin .lss (.s 24) (.s 23)⟩])
 (.seq (.cond (.s 25)
 .skip
 (.exit 2))
 (.seq (.block 3 (.seq (.reg [⟨(some 26), none, .ia (.agg [(.int .i64), .slc, .slc]) (.s 22) (.s 24)⟩, ⟨(some 27), none, .ld (.agg [(.int .i64), .slc, .slc]) (.s 26)⟩, ⟨(some 7), none, .new (.agg [(.int .i64), .slc, .slc]) (.agg [(.t (.int .i64 0)), .nilS, .nilS])⟩, ⟨none, none, .st (.agg [(.int .i64), .slc, .slc]) (.s 7) (.s 27)⟩])
 (.seq (.reg [⟨(some 29), none, .ld (.agg [(.int .i64), .slc, .slc]) (.s 7)⟩, ⟨(some 30), none, .call false 6 (.tup [(.int .i64), (.int .i64)]) [(.s 29)]⟩, ⟨(some 28), none, .mov (.s 30)⟩, ⟨(some 31), none, .ext 0 (.s 28)⟩, ⟨(some 32), none, .ext 1 (.s 28)⟩, ⟨(some 8), none, .mov (.s 31)⟩, ⟨(some 9), none, .mov (.s 32)⟩])
 (.reg [⟨(some 33), none, .mov (.s 2)⟩, ⟨(some 34), none, .mov (.s 8)⟩, ⟨(some 35), none, .bin .add (.s 33) (.s 34)⟩, ⟨(some 36), none, .mov (.s 3)⟩, ⟨(some 37), none, .mov (.s 9)⟩, ⟨(some 38), none, .call false 13 (.int .i64) [(.s 36), (.s 37)]⟩, ⟨(some 2), none, .mov (.s 35)⟩, ⟨(some 3), none, .mov (.s 38)⟩]))))
 (.reg [⟨(some 39), none, .bin .add (.s 24) (.c (.t (.int .i64 1)))⟩, ⟨(some 24), none, .mov (.s 39)⟩])))))))
 (.seq (.reg [⟨(some 40), none, .mov (.s 2)⟩, ⟨(some 41), none, .mov (.s 3)⟩, ⟨(some 2), none, .mov (.s 40)⟩, ⟨(some 3), none, .mov (.s 41)⟩])
 .ret))))),
 [.slot 2, .slot 3]⟩
theorem ok6 : compF Tryz.prog 6 [[1, 2, 3, 11, 12, 13], [2, 3, 22, 23, 24]] (Cfg.mk [] [] [] [] []) = some ir6 := by kernel_rfl

/-- tenet/tenetlaw08.example -/
def ir11 : FInfo := ⟨41,
 (.seq (.reg [⟨(some 2), none, .new (.agg [(.int .i64), (.int .i64), .str, .slc, .slc]) (.agg [(.t (.int .i64 0)), (.t (.int .i64 0)), (.t (.str [])), .nilS, .nilS])⟩, ⟨(some 3), none, .new (.agg [(.int .i64), .slc, .slc]) (.agg [(.t (.int .i64 0)), .nilS, .nilS])⟩])
 (.seq (.reg [⟨(some 10), none, .call false 18 (.agg [(.int .i64), (.int .i64), .str, .slc, .slc]) [(.c (.t (.int .i64 12))), (.c (.t (.int .i64 0))), (.c .nilS)]⟩, ⟨(some 11), none, .call false 18 (.agg [(.int .i64), (.int .i64), .str, .slc, .slc]) [(.c (.t (.int .i64 13))), (.c (.t (.int .i64 0))), (.c .nilS)]⟩, ⟨(some 4), none, .new (.agg [(.int .i64), (.int .i64), .str, .slc, .slc]) (.agg [(.t (.int .i64 0)), (.t (.int .i64 0)), (.t (.str [])), .nilS, .nilS])⟩, ⟨(some 5), none, .new (.agg [(.int .i64), (.int .i64), .str, .slc, .slc]) (.agg [(.t (.int .i64 0)), (.t (.int .i64 0)), (.t (.str [])), .nilS, .nilS])⟩, ⟨none, none, .st (.agg [(.int .i64), (.int .i64), .str, .slc, .slc]) (.s 4) (.s 10)⟩, ⟨none, none, .st (.agg [(.int .i64), (.int .i64), .str, .slc, .slc]) (.s 5) (.s 11)⟩])
 (.seq (.dreg [⟨(some 12), none, .ld (.agg [(.int .i64), (.int .i64), .str, .slc, .slc]) (.s 4)⟩, ⟨(some 13), none, .call false 19 (.agg [(.int .i64), (.int .i64), .str, .slc, .slc]) [(.c (.t (.int .i64 0)))]⟩, ⟨(some 14), none, .bsl (.agg [(.int .i64), (.int .i64), .str, .slc, .slc]) (.agg [(.t (.int .i64 0)), (.t (.int .i64 0)), (.t (.str [])), .nilS, .nilS]) 2 [(0, (.s 12)), (1, (.s 13))]⟩, ⟨(some 15), none, .call false 18 (.agg [(.int .i64), (.int .i64), .str, .slc, .slc]) [(.c (.t (.int .i64 6))), (.c (.t (.int .i64 0))), (.s 14)]⟩, ⟨(some 16), none, .ld (.agg [(.int .i64), (.int .i64), .str, .slc, .slc]) (.s 5)⟩, ⟨(some 17), none, .bsl (.agg [(.int .i64), (.int .i64), .str, .slc, .slc]) (.agg [(.t (.int .i64 0)), (.t (.int .i64 0)), (.t (.str [])), .nilS, .nilS]) 2 [(0, (.s 15)), (1, (.s 16))]⟩, ⟨(some 18), none, .call false 18 (.agg [(.int .i64), (.int .i64), .str, .slc, .slc]) [(.c (.t (.int .i64 7))), (.c (.t (.int .i64 0))), (.s 17)]⟩, ⟨(some 6), none, .new (.agg [(.int .i64), (.int .i64), .str, .slc, .slc]) (.agg [(.t (.int .i64 0)), (.t (.int .i64 0)), (.t (.str [])), .nilS, .nilS])⟩, ⟨none, none, .st (.agg [(.int .i64), (.int .i64), .str, .slc, .slc]) (.s 6) (.s 18)⟩] [0, 0, 3, 7, 0, 31, 63, 0, 255])
 (.seq (.reg [⟨(some 19), none, .call false 20 (.agg [(.int .i64), .slc, .slc]) [(.c (.t (.int .i64 1))), (.c .nilS), (.c .nilS)]⟩, ⟨(some 7), none, .new (.agg [(.int .i64), .slc, .slc]) (.agg [(.t (.int .i64 0)), .nilS, .nilS])⟩, ⟨none, none, .st (.agg [(.int .i64), .slc, .slc]) (.s 7) (.s 19)⟩])
 (.seq (.reg [⟨(some 20), none, .bsl (.int .i64) (.t (.int .i64 0)) 1 [(0, (.c (.t (.int .i64 0))))]⟩, ⟨(some 21), none, .ld (.agg [(.int .i64), .slc, .slc]) (.s 7)⟩, ⟨(some 22), none, .bsl (.agg [(.int .i64), .slc, .slc]) (.agg [(.t (.int .i64 0)), .nilS, .nilS]) 1 [(0, (.s 21))]⟩, ⟨(some 23), none, .call false 20 (.agg [(.int .i64), .slc, .slc]) [(.c (.t (.int .i64 3))), (.s 20), (.s 22)]⟩, ⟨(some 8), none, .new (.agg [(.int .i64), .slc, .slc]) (.agg [(.t (.int .i64 0)), .nilS, .nilS])⟩, ⟨none, none, .st (.agg [(.int .i64), .slc, .slc]) (.s 8) (.s 23)⟩])
 (.seq (.reg [⟨(some 24), none, .ld (.agg [(.int .i64), .slc, .slc]) (.s 8)⟩, ⟨(some 25), none, .ld (.agg [(.int .i64), .slc, .slc]) (.s 7)⟩, ⟨(some 26), none, .ld (.agg [(.int .i64), .slc, .slc]) (.s 8)⟩, ⟨(some 27), none, .bsl (.agg [(.int .i64), .slc, .slc]) (.agg [(.t (.int .i64 0)), .nilS, .nilS]) 3 [(0, (.s 24)), (1, (.s 25)), (2, (.s 26))]⟩, ⟨(some 28), none, .call false 20 (.agg [(.int .i64), .slc, .slc]) [(.c (.t (.int .i64 1))), (.c .nilS), (.s 27)]⟩, ⟨(some 9), none, .new (.agg [(.int .i64), .slc, .slc]) (.agg [(.t (.int .i64 0)), .nilS, .nilS])⟩, ⟨none, none, .st (.agg [(.int .i64), .slc, .slc]) (.s 9) (.s 28)⟩])
 (.seq (.dreg [⟨(some 29), none, .ld (.agg [(.int .i64), (.int .i64), .str, .slc, .slc]) (.s 6)⟩, ⟨(some 30), none, .mov (.s 0)⟩, ⟨(some 31), none, .bsl (.int .i64) (.t (.int .i64 0)) 1 [(0, (.s 30))]⟩, ⟨(some 32), none, .ld (.agg [(.int .i64), .slc, .slc]) (.s 9)⟩, ⟨(some 33), none, .bsl (.agg [(.int .i64), .slc, .slc]) (.agg [(.t (.int .i64 0)), .nilS, .nilS]) 1 [(0, (.s 32))]⟩, ⟨(some 34), none, .call false 20 (.agg [(.int .i64), .slc, .slc]) [(.c (.t (.int .i64 2))), (.s 31), (.s 33)]⟩, ⟨(some 35), none, .ld (.agg [(.int .i64), .slc, .slc]) (.s 7)⟩, ⟨(some 36), none, .call false 20 (.agg [(.int .i64), .slc, .slc]) [(.c (.t (.int .i64 10))), (.c .nilS), (.c .nilS)]⟩, ⟨(some 37), none, .bsl (.agg [(.int .i64), .slc, .slc]) (.agg [(.t (.int .i64 0)), .nilS, .nilS]) 2 [(0, (.s 35)), (1, (.s 36))]⟩, ⟨(some 38), none, .call false 20 (.agg [(.int .i64), .slc, .slc]) [(.c (.t (.int .i64 4))), (.c .nilS), (.s 37)]⟩, ⟨(some 39), none, .bsl (.agg [(.int .i64), .slc, .slc]) (.agg [(.t (.int .i64 0)), .nilS, .nilS]) 2 [(0, (.s 34)), (1, (.s 38))]⟩, ⟨(some 40), none, .call false 20 (.agg [(.int .i64), .slc, .slc]) [(.c (.t (.int .i64 1))), (.c .nilS), (.s 39)]⟩, ⟨none, none, .st (.agg [(.int .i64), (.int .i64), .str, .slc, .slc]) (.s 2) (.s 29)⟩, ⟨none, none, .st (.agg [(.int .i64), .slc, .slc]) (.s 3) (.s 40)⟩] [0, 0, 2, 0, 8, 30, 0, 62, 254, 510, 1022, 2046, 4095, 8191])
 .ret))))))),
 [.cell 2 (.agg [(.int .i64), (.int .i64), .str, .slc, .slc]), .cell 3 (.agg [(.int .i64), .slc, .slc])]⟩
theorem ok11 : compF Tryz.prog 11 [] (Cfg.mk [] [] [] [] []) = some ir11 := by kernel_rfl

/-- tenet/cert.Follow -/
def ir12 : FInfo := ⟨48,
 (.seq (.reg [⟨(some 4), none, .box (.agg [.slc]) (.s 0)⟩, ⟨(some 5), none, .box .slc (.s 1)⟩, ⟨(some 6), none, .wbox (.agg [(.int .i64), (.int .i64), .str, .slc, .slc]) (.s 2)⟩, ⟨(some 7), none, .box (.agg [(.int .i64), .slc, .slc]) (.s 3)⟩, ⟨(some 8), none, .wnew (.agg [(.int .i64), (.int .i64), .str, .slc, .slc]) (.agg [(.t (.int .i64 0)), (.t (.int .i64 0)), (.t (.str [])), .nilS, .nilS])⟩, ⟨(some 9), none, .mov (.c (.t (.int .i64 0)))⟩])
 (.seq (.seq (.dreg [⟨(some 12), none, .ld .slc (.s 5)⟩, ⟨(some 13), none, .call false 21 .bool [(.s 12)]⟩, ⟨(some 14), none, .un .not (.s 13)⟩, ⟨(some 15), none, .mov (.s 14)⟩, ⟨(some 16), (some (15, false)), .ld (.agg [(.int .i64), (.int .i64), .str, .slc, .slc]) (.s 6)⟩, ⟨(some 17), (some (15, false)), .call false 22 .bool [(.s 16)]⟩, ⟨(some 18), (some (15, false)), .un .not (.s 17)⟩, ⟨(some 19), none, .pick (.s 15) (.c (.t (.bool true))) (.s 18)⟩, ⟨(some 20), none, .mov (.s 19)⟩, ⟨(some 21), (some (20, false)), .ld (.agg [(.int .i64), (.int .i64), .str, .slc, .slc]) (.s 6)⟩, ⟨(some 22), (some (20, false)), .call false 23 (.int .i64) [(.s 21)]⟩, ⟨(some 23), (some (20, false)), .ld .slc (.s 5)⟩, ⟨(some 24), (some (20, false)), .len (.s 23)⟩, ⟨(some 25), (some (20, false)), .bin .gtr (.s 22) (.s 24)⟩, ⟨(some 26), none, .pick (.s 20) (.c (.t (.bool true))) (.s 25)⟩] [0, 1, 3, 7, 15, 31, 63, 127, 255, 511, 1023, 511, 2559, 8191, 16383])
 (.cond (.s 26)
 (.seq (.reg [⟨(some 27), none, .build [(.t (.int .i64 0)), (.t (.int .i64 0)), (.t (.str [])), .nilS, .nilS] []⟩, ⟨none, none, .st (.agg [(.int .i64), (.int .i64), .str, .slc, .slc]) (.s 8) (.s 27)⟩, ⟨(some 9), none, .mov (.c (.t (.int .i64 4)))⟩])
 .ret)
 .skip))
 (.seq (.seq (.reg [⟨(some 28), none, .ld (.agg [.slc]) (.s 4)⟩, ⟨(some 29), none, .ld (.agg [(.int .i64), (.int .i64), .str, .slc, .slc]) (.s 6)⟩, ⟨(some 30), none, .call false 24 (.agg [(.int .i64), .slc]) [(.s 28), (.s 29)]⟩, ⟨(some 10), none, .new (.agg [(.int .i64), .slc]) (.agg [(.t (.int .i64 0)), .nilS])⟩, ⟨none, none, .st (.agg [(.int .i64), .slc]) (.s 10) (.s 30)⟩])
 (.seq (.reg [⟨(some 31), none, .fa 0 (.s 10)⟩, ⟨(some 32), none, .ld (.int .i64) (.s 31)⟩, ⟨(some 33), none, .bin .neq (.s 32) (.c (.t (.int .i64 0)))⟩])
 (.cond (.s 33)
 (.seq (.reg [⟨(some 34), none, .build [(.t (.int .i64 0)), (.t (.int .i64 0)), (.t (.str [])), .nilS, .nilS] []⟩, ⟨none, none, .st (.agg [(.int .i64), (.int .i64), .str, .slc, .slc]) (.s 8) (.s 34)⟩, ⟨(some 9), none, .mov (.c (.t (.int .i64 4)))⟩])
 .ret)
 .skip)))
 (.seq (.reg [⟨(some 35), none, .ld (.agg [.slc]) (.s 4)⟩, ⟨(some 36), none, .build [.nilS] [(0, (.agg [.slc]), (.s 35))]⟩, ⟨(some 37), none, .box (.agg [.slc]) (.s 36)⟩, ⟨(some 11), none, .new .any (.t .nilp)⟩, ⟨none, none, .st .any (.s 11) (.s 37)⟩])
 (.seq (.seq (.reg [⟨(some 38), none, .ld (.agg [(.int .i64), .slc, .slc]) (.s 7)⟩, ⟨(some 39), none, .call false 25 .bool [(.s 38)]⟩, ⟨(some 40), none, .un .not (.s 39)⟩, ⟨(some 41), none, .mov (.s 40)⟩, ⟨(some 42), (some (41, false)), .mkf 27 [] [(.s 11), (.s 5), (.s 6), (.s 7), (.s 8)]⟩, ⟨(some 43), (some (41, false)), .callw 26 .bool [(.s 42)]⟩, ⟨(some 44), (some (41, false)), .un .not (.s 43)⟩, ⟨(some 45), none, .pick (.s 41) (.c (.t (.bool true))) (.s 44)⟩])
 (.cond (.s 45)
 (.seq (.reg [⟨(some 46), none, .build [(.t (.int .i64 0)), (.t (.int .i64 0)), (.t (.str [])), .nilS, .nilS] []⟩, ⟨none, none, .st (.agg [(.int .i64), (.int .i64), .str, .slc, .slc]) (.s 8) (.s 46)⟩, ⟨(some 9), none, .mov (.c (.t (.int .i64 80)))⟩])
 .ret)
 .skip))
 (.seq (.reg [⟨(some 47), none, .ld (.agg [(.int .i64), (.int .i64), .str, .slc, .slc]) (.s 8)⟩, ⟨none, none, .st (.agg [(.int .i64), (.int .i64), .str, .slc, .slc]) (.s 8) (.s 47)⟩, ⟨(some 9), none, .mov (.c (.t (.int .i64 0)))⟩])
 .ret)))))),
 [.cell 8 (.agg [(.int .i64), (.int .i64), .str, .slc, .slc]), .slot 9]⟩
theorem ok12 : compF Tryz.prog 12 [] (Cfg.mk [] [35] [43] [] []) = some ir12 := by kernel_rfl

/-- tenet/cert.sum -/
def ir13 : FInfo := ⟨20,
 (.seq (.reg [⟨(some 4), none, .mov (.c (.t (.int .i64 0)))⟩])
 (.seq (.seq (.reg [⟨(some 5), none, .mov (.s 0)⟩, ⟨(some 6), none, .bin .lss (.s 5) (.c (.t (.int .i64 0)))⟩, ⟨(some 7), none, .mov (.s 6)⟩, ⟨(some 8), (some (7, false)), .mov (.s 1)⟩, ⟨(some 9), (some (7, false)), .bin .lss (.s 8) (.c (.t (.int .i64 0)))⟩, ⟨(some 10), none, .pick (.s 7) (.c (.t (.bool true))) (.s 9)⟩, ⟨(some 11), none, .mov (.s 10)⟩, ⟨(some 12), (some (11, false)), .mov (.s 1)⟩, ⟨(some 13), (some (11, false)), .mov (.s 0)⟩, ⟨(some 14), (some (11, false)), .bin .sub (.c (.t (.int .i64 20000))) (.s 13)⟩, ⟨(some 15), (some (11, false)), .bin .gtr (.s 12) (.s 14)⟩, ⟨(some 16), none, .pick (.s 11) (.c (.t (.bool true))) (.s 15)⟩])
 (.cond (.s 16)
 (.seq (.reg [⟨(some 4), none, .mov (.c (.t (.int .i64 (-1))))⟩])
 .ret)
 .skip))
 (.seq (.reg [⟨(some 17), none, .mov (.s 0)⟩, ⟨(some 18), none, .mov (.s 1)⟩, ⟨(some 19), none, .bin .add (.s 17) (.s 18)⟩, ⟨(some 4), none, .mov (.s 19)⟩])
 .ret))),
 [.slot 4]⟩
theorem ok13 : compF Tryz.prog 13 [] (Cfg.mk [] [] [] [] []) = some ir13 := by kernel_rfl

/-- tenet/tenetlaw08.node -/
def ir18 : FInfo := ⟨11,
 (.seq (.reg [⟨(some 6), none, .new (.agg [(.int .i64), (.int .i64), .str, .slc, .slc]) (.agg [(.t (.int .i64 0)), (.t (.int .i64 0)), (.t (.str [])), .nilS, .nilS])⟩])
 (.seq (.reg [⟨(some 7), none, .mov (.s 0)⟩, ⟨(some 8), none, .mov (.s 1)⟩, ⟨(some 9), none, .mov (.s 2)⟩, ⟨(some 10), none, .build [(.t (.int .i64 0)), (.t (.int .i64 0)), (.t (.str [])), .nilS, .nilS] [(0, (.int .i64), (.s 7)), (1, (.int .i64), (.s 8)), (4, .slc, (.s 9))]⟩, ⟨none, none, .st (.agg [(.int .i64), (.int .i64), .str, .slc, .slc]) (.s 6) (.s 10)⟩])
 .ret)),
 [.cell 6 (.agg [(.int .i64), (.int .i64), .str, .slc, .slc])]⟩
theorem ok18 : compF Tryz.prog 18 [] (Cfg.mk [] [] [] [] []) = some ir18 := by kernel_rfl

/-- tenet/tenetref06.Var -/
def ir19 : FInfo := ⟨5,
 (.seq (.reg [⟨(some 2), none, .new (.agg [(.int .i64), (.int .i64), .str, .slc, .slc]) (.agg [(.t (.int .i64 0)), (.t (.int .i64 0)), (.t (.str [])), .nilS, .nilS])⟩])
 (.seq (.reg [⟨(some 3), none, .mov (.s 0)⟩, ⟨(some 4), none, .build [(.t (.int .i64 0)), (.t (.int .i64 0)), (.t (.str [])), .nilS, .nilS] [(0, (.int .i64), (.c (.t (.int .i64 1)))), (1, (.int .i64), (.s 3))]⟩, ⟨none, none, .st (.agg [(.int .i64), (.int .i64), .str, .slc, .slc]) (.s 2) (.s 4)⟩])
 .ret)),
 [.cell 2 (.agg [(.int .i64), (.int .i64), .str, .slc, .slc])]⟩
theorem ok19 : compF Tryz.prog 19 [] (Cfg.mk [] [] [] [] []) = some ir19 := by kernel_rfl

/-- tenet/tenetlaw08.made -/
def ir20 : FInfo := ⟨11,
 (.seq (.reg [⟨(some 6), none, .new (.agg [(.int .i64), .slc, .slc]) (.agg [(.t (.int .i64 0)), .nilS, .nilS])⟩])
 (.seq (.reg [⟨(some 7), none, .mov (.s 0)⟩, ⟨(some 8), none, .mov (.s 1)⟩, ⟨(some 9), none, .mov (.s 2)⟩, ⟨(some 10), none, .build [(.t (.int .i64 0)), .nilS, .nilS] [(0, (.int .i64), (.s 7)), (1, .slc, (.s 8)), (2, .slc, (.s 9))]⟩, ⟨none, none, .st (.agg [(.int .i64), .slc, .slc]) (.s 6) (.s 10)⟩])
 .ret)),
 [.cell 6 (.agg [(.int .i64), .slc, .slc])]⟩
theorem ok20 : compF Tryz.prog 20 [] (Cfg.mk [] [] [] [] []) = some ir20 := by kernel_rfl

/-- tenet/conv.Scope -/
def ir21 : FInfo := ⟨33,
 (.seq (.reg [⟨(some 2), none, .mov (.c (.t (.bool false)))⟩])
 (.seq (.seq (.reg [⟨(some 5), none, .mov (.s 0)⟩, ⟨(some 6), none, .len (.s 5)⟩, ⟨(some 7), none, .bin .gtr (.s 6) (.c (.t (.int .i64 40)))⟩])
 (.cond (.s 7)
 (.seq (.reg [⟨(some 2), none, .mov (.c (.t (.bool false)))⟩])
 .ret)
 .skip))
 (.seq (.seq (.reg [⟨(some 8), none, .mov (.s 0)⟩, ⟨(some 9), none, .len (.s 8)⟩, ⟨(some 10), none, .mov (.c (.t (.int .i64 0)))⟩])
 (.block 0 (.loop [8, 9, 10] (.seq (.reg [⟨(some 11), none, .bin .lss (.s 10) (.s 9)⟩])
 (.seq (.cond (.s 11)
 .skip
 (.exit 0))
 (.seq (.block 1 (.seq (.reg [⟨(some 12), none, .mov (.s 10)⟩, ⟨(some 13), none, .ia (.agg [(.int .i64), (.int .i64), .str, .slc, .slc, .bool]) (.s 8) (.s 10)⟩, ⟨(some 14), none, .ld (.agg [(.int .i64), (.int .i64), .str, .slc, .slc, .bool]) (.s 13)⟩, ⟨(some 4), none, .new (.agg [(.int .i64), (.int .i64), .str, .slc, .slc, .bool]) (.agg [(.t (.int .i64 0)), (.t (.int .i64 0)), (.t (.str [])), .nilS, .nilS, (.t (.bool false))])⟩, ⟨(some 3), none, .mov (.s 12)⟩, ⟨none, none, .st (.agg [(.int .i64), (.int .i64), .str, .slc, .slc, .bool]) (.s 4) (.s 14)⟩])
 (.seq (.reg [⟨(some 15), none, .fa 0 (.s 4)⟩, ⟨(some 16), none, .ld (.agg [(.int .i64), (.int .i64), .str, .slc, .slc]) (.s 15)⟩, ⟨(some 17), none, .call false 29 .bool [(.s 16), (.c (.t (.int .i64 2000)))]⟩, ⟨(some 18), none, .un .not (.s 17)⟩, ⟨(some 19), none, .mov (.s 18)⟩, ⟨(some 20), (some (19, false)), .fa 0 (.s 4)⟩, ⟨(some 21), (some (19, false)), .ld (.agg [(.int .i64), (.int .i64), .str, .slc, .slc]) (.s 20)⟩, ⟨(some 22), (some (19, false)), .call false 30 .bool [(.s 21)]⟩, ⟨(some 23), (some (19, false)), .un .not (.s 22)⟩, ⟨(some 24), none, .pick (.s 19) (.c (.t (.bool true))) (.s 23)⟩, ⟨(some 25), none, .mov (.s 24)⟩, ⟨(some 26), (some (25, false)), .fa 0 (.s 4)⟩, ⟨(some 27), (some (25, false)), .ld (.agg [(.int .i64), (.int .i64), .str, .slc, .slc]) (.s 26)⟩, ⟨(some 28), (some (25, false)), .call false 23 (.int .i64) [(.s 27)]⟩, ⟨(some 29), (some (25, false)), .mov (.s 3)⟩, ⟨(some 30), (some (25, false)), .bin .gtr (.s 28) (.s 29)⟩, ⟨(some 31), none, .pick (.s 25) (.c (.t (.bool true))) (.s 30)⟩])
 (.cond (.s 31)
 (.seq (.reg [⟨(some 2), none, .mov (.c (.t (.bool false)))⟩])
 .ret)
 .skip))))
 (.reg [⟨(some 32), none, .bin .add (.s 10) (.c (.t (.int .i64 1)))⟩, ⟨(some 10), none, .mov (.s 32)⟩])))))))
 (.seq (.reg [⟨(some 2), none, .mov (.c (.t (.bool true)))⟩])
 .ret)))),
 [.slot 2]⟩
theorem ok21 : compF Tryz.prog 21 [[8, 9, 10]] (Cfg.mk [] [] [] [] []) = some ir21 := by kernel_rfl

/-- tenet/term.Valid -/
def ir22 : FInfo := ⟨20,
 (.seq (.reg [⟨(some 1), none, .box (.agg [(.int .i64), (.int .i64), .str, .slc, .slc]) (.s 0)⟩, ⟨(some 2), none, .mov (.c (.t (.bool false)))⟩])
 (.seq (.reg [⟨(some 6), none, .ld (.agg [(.int .i64), (.int .i64), .str, .slc, .slc]) (.s 1)⟩, ⟨(some 7), none, .call false 31 (.tup [(.int .i64), (.int .i64)]) [(.s 6)]⟩, ⟨(some 5), none, .mov (.s 7)⟩, ⟨(some 8), none, .ext 0 (.s 5)⟩, ⟨(some 9), none, .ext 1 (.s 5)⟩, ⟨(some 3), none, .mov (.s 8)⟩, ⟨(some 4), none, .mov (.s 9)⟩])
 (.seq (.reg [⟨(some 10), none, .mov (.s 3)⟩, ⟨(some 11), none, .bin .leq (.s 10) (.c (.t (.int .i64 2000)))⟩, ⟨(some 12), none, .mov (.s 11)⟩, ⟨(some 13), (some (12, true)), .mov (.s 4)⟩, ⟨(some 14), (some (12, true)), .bin .leq (.s 13) (.c (.t (.int .i64 200)))⟩, ⟨(some 15), none, .pick (.s 12) (.s 14) (.c (.t (.bool false)))⟩, ⟨(some 16), none, .mov (.s 15)⟩, ⟨(some 17), (some (16, true)), .ld (.agg [(.int .i64), (.int .i64), .str, .slc, .slc]) (.s 1)⟩, ⟨(some 18), (some (16, true)), .call false 30 .bool [(.s 17)]⟩, ⟨(some 19), none, .pick (.s 16) (.s 18) (.c (.t (.bool false)))⟩, ⟨(some 2), none, .mov (.s 19)⟩])
 .ret))),
 [.slot 2]⟩
theorem ok22 : compF Tryz.prog 22 [] (Cfg.mk [] [] [] [] []) = some ir22 := by kernel_rfl

/-- tenet/term.Free -/
def ir23 : FInfo := ⟨8,
 (.seq (.reg [⟨(some 1), none, .box (.agg [(.int .i64), (.int .i64), .str, .slc, .slc]) (.s 0)⟩, ⟨(some 2), none, .mov (.c (.t (.int .i64 0)))⟩])
 (.seq (.reg [⟨(some 3), none, .wnew (.int .i64) (.t (.int .i64 0))⟩, ⟨none, none, .st (.int .i64) (.s 3) (.c (.t (.int .i64 0)))⟩])
 (.seq (.reg [⟨(some 4), none, .ld (.agg [(.int .i64), (.int .i64), .str, .slc, .slc]) (.s 1)⟩, ⟨(some 5), none, .mkf 33 [] [(.s 3)]⟩, ⟨(some 6), none, .callw 32 (.agg [(.int .i64), (.int .i64), .str, .slc, .slc]) [(.s 4), (.s 5)]⟩])
 (.seq (.reg [⟨(some 7), none, .ld (.int .i64) (.s 3)⟩, ⟨(some 2), none, .mov (.s 7)⟩])
 .ret)))),
 [.slot 2]⟩
theorem ok23 : compF Tryz.prog 23 [] (Cfg.mk [] [3] [6] [] []) = some ir23 := by kernel_rfl

/-- tenet/table.Fits -/
def ir24 : FInfo := ⟨13,
 (.seq (.reg [⟨(some 2), none, .box (.agg [.slc]) (.s 0)⟩, ⟨(some 3), none, .box (.agg [(.int .i64), (.int .i64), .str, .slc, .slc]) (.s 1)⟩, ⟨(some 4), none, .new (.agg [(.int .i64), .slc]) (.agg [(.t (.int .i64 0)), .nilS])⟩])
 (.seq (.seq (.reg [⟨(some 5), none, .ld (.agg [(.int .i64), (.int .i64), .str, .slc, .slc]) (.s 3)⟩, ⟨(some 6), none, .call false 30 .bool [(.s 5)]⟩, ⟨(some 7), none, .un .not (.s 6)⟩])
 (.cond (.s 7)
 (.seq (.reg [⟨(some 8), none, .build [(.t (.int .i64 0)), .nilS] [(0, (.int .i64), (.c (.t (.int .i64 4))))]⟩, ⟨none, none, .st (.agg [(.int .i64), .slc]) (.s 4) (.s 8)⟩])
 .ret)
 .skip))
 (.seq (.reg [⟨(some 9), none, .ld (.agg [.slc]) (.s 2)⟩, ⟨(some 10), none, .ld (.agg [(.int .i64), (.int .i64), .str, .slc, .slc]) (.s 3)⟩, ⟨(some 11), none, .call true 35 .any [(.s 9), (.c (.t .nilp)), (.s 10), (.c .nilS)]⟩, ⟨(some 12), none, .call false 34 (.agg [(.int .i64), .slc]) [(.s 11)]⟩, ⟨none, none, .st (.agg [(.int .i64), .slc]) (.s 4) (.s 12)⟩])
 .ret))),
 [.cell 4 (.agg [(.int .i64), .slc])]⟩
theorem ok24 : compF Tryz.prog 24 [] (Cfg.mk [11] [] [] [] []) = some ir24 := by kernel_rfl

/-- tenet/cert.fits -/
def ir25 : FInfo := ⟨16,
 (.seq (.reg [⟨(some 1), none, .box (.agg [(.int .i64), .slc, .slc]) (.s 0)⟩, ⟨(some 2), none, .mov (.c (.t (.bool false)))⟩])
 (.seq (.reg [⟨(some 6), none, .ld (.agg [(.int .i64), .slc, .slc]) (.s 1)⟩, ⟨(some 7), none, .call false 6 (.tup [(.int .i64), (.int .i64)]) [(.s 6)]⟩, ⟨(some 5), none, .mov (.s 7)⟩, ⟨(some 8), none, .ext 0 (.s 5)⟩, ⟨(some 9), none, .ext 1 (.s 5)⟩, ⟨(some 3), none, .mov (.s 8)⟩, ⟨(some 4), none, .mov (.s 9)⟩])
 (.seq (.reg [⟨(some 10), none, .mov (.s 3)⟩, ⟨(some 11), none, .bin .leq (.s 10) (.c (.t (.int .i64 20000)))⟩, ⟨(some 12), none, .mov (.s 11)⟩, ⟨(some 13), (some (12, true)), .mov (.s 4)⟩, ⟨(some 14), (some (12, true)), .bin .geq (.s 13) (.c (.t (.int .i64 0)))⟩, ⟨(some 15), none, .pick (.s 12) (.s 14) (.c (.t (.bool false)))⟩, ⟨(some 2), none, .mov (.s 15)⟩])
 .ret))),
 [.slot 2]⟩
theorem ok25 : compF Tryz.prog 25 [] (Cfg.mk [] [] [] [] []) = some ir25 := by kernel_rfl

/-- tenet/cert.Follow$1 -/
def ir27 : FInfo := ⟨9,
 (.reg [⟨(some 5), none, .ld .any (.s 0)⟩, ⟨(some 6), none, .ld .slc (.s 1)⟩, ⟨(some 7), none, .ld (.agg [(.int .i64), (.int .i64), .str, .slc, .slc]) (.s 2)⟩, ⟨(some 8), none, .call false 28 (.agg [(.int .i64), (.int .i64), .str, .slc, .slc]) [(.s 5), (.s 6), (.s 7), (.s 3)]⟩, ⟨none, none, .st (.agg [(.int .i64), (.int .i64), .str, .slc, .slc]) (.s 4) (.s 8)⟩]),
 []⟩
theorem ok27 : compF Tryz.prog 27 [] (Cfg.mk [] [] [] [] []) = some ir27 := by kernel_rfl

/-- (*tenet/cert.follower).term -/
def ir28 : FInfo := ⟨39,
 (.seq (.reg [⟨(some 6), none, .box (.agg [(.int .i64), (.int .i64), .str, .slc, .slc]) (.s 2)⟩, ⟨(some 8), none, .new (.agg [(.int .i64), (.int .i64), .str, .slc, .slc]) (.agg [(.t (.int .i64 0)), (.t (.int .i64 0)), (.t (.str [])), .nilS, .nilS])⟩])
 (.seq (.reg [⟨(some 11), none, .mov (.s 3)⟩, ⟨(some 12), none, .eqs true .wptr (.s 11) (.c (.t .nilp))⟩, ⟨(some 13), none, .mov (.s 12)⟩, ⟨(some 14), (some (13, true)), .mov (.s 3)⟩, ⟨(some 15), (some (13, true)), .nonnil (.s 14)⟩, ⟨(some 16), (some (13, true)), .fa 0 (.s 15)⟩, ⟨(some 17), (some (13, true)), .ld (.int .i64) (.s 16)⟩, ⟨(some 18), (some (13, true)), .bin .eql (.s 17) (.c (.t (.int .i64 1)))⟩, ⟨(some 19), none, .pick (.s 13) (.s 18) (.c (.t (.bool false)))⟩, ⟨(some 20), none, .mov (.s 19)⟩, ⟨(some 21), (some (20, true)), .mov (.s 3)⟩, ⟨(some 22), (some (20, true)), .nonnil (.s 21)⟩, ⟨(some 23), (some (20, true)), .fa 1 (.s 22)⟩, ⟨(some 24), (some (20, true)), .ld .slc (.s 23)⟩, ⟨(some 25), (some (20, true)), .len (.s 24)⟩, ⟨(some 26), (some (20, true)), .bin .eql (.s 25) (.c (.t (.int .i64 0)))⟩, ⟨(some 27), none, .pick (.s 20) (.s 26) (.c (.t (.bool false)))⟩, ⟨(some 28), none, .call false 37 (.tup []) [(.s 27)]⟩])
 (.seq (.reg [⟨(some 29), none, .mov (.s 3)⟩, ⟨(some 30), none, .callw 38 .wp [(.s 29)]⟩, ⟨(some 9), none, .mov (.s 30)⟩])
 (.seq (.reg [⟨(some 31), none, .mov (.s 0)⟩, ⟨(some 32), none, .mov (.s 1)⟩, ⟨(some 33), none, .ld (.agg [(.int .i64), (.int .i64), .str, .slc, .slc]) (.s 6)⟩, ⟨(some 34), none, .mov (.s 9)⟩, ⟨(some 35), none, .callw 39 (.agg [(.int .i64), (.int .i64), .str, .slc, .slc]) [(.s 31), (.s 32), (.s 33), (.s 34)]⟩, ⟨(some 10), none, .new (.agg [(.int .i64), (.int .i64), .str, .slc, .slc]) (.agg [(.t (.int .i64 0)), (.t (.int .i64 0)), (.t (.str [])), .nilS, .nilS])⟩, ⟨none, none, .st (.agg [(.int .i64), (.int .i64), .str, .slc, .slc]) (.s 10) (.s 35)⟩])
 (.seq (.reg [⟨(some 36), none, .mov (.s 9)⟩, ⟨(some 37), none, .callw 40 (.tup []) [(.s 36)]⟩])
 (.seq (.reg [⟨(some 38), none, .ld (.agg [(.int .i64), (.int .i64), .str, .slc, .slc]) (.s 10)⟩, ⟨none, none, .st (.agg [(.int .i64), (.int .i64), .str, .slc, .slc]) (.s 8) (.s 38)⟩])
 .ret)))))),
 [.cell 8 (.agg [(.int .i64), (.int .i64), .str, .slc, .slc])]⟩
theorem ok28 : compF Tryz.prog 28 [] (Cfg.mk [] [91] [30, 35, 37] [] []) = some ir28 := by kernel_rfl

/-- tenet/term.Form -/
def ir30 : FInfo := ⟨11,
 (.seq (.reg [⟨(some 1), none, .box (.agg [(.int .i64), (.int .i64), .str, .slc, .slc]) (.s 0)⟩, ⟨(some 2), none, .mov (.c (.t (.bool false)))⟩])
 (.seq (.reg [⟨(some 3), none, .ld (.agg [(.int .i64), (.int .i64), .str, .slc, .slc]) (.s 1)⟩, ⟨(some 4), none, .call false 44 .bool [(.s 3)]⟩, ⟨(some 5), none, .mov (.s 4)⟩, ⟨(some 6), (some (5, true)), .fa 4 (.s 1)⟩, ⟨(some 7), (some (5, true)), .ld .slc (.s 6)⟩, ⟨(some 8), (some (5, true)), .call false 42 .bool [(.s 7), (.f 45)]⟩, ⟨(some 9), (some (5, true)), .un .not (.s 8)⟩, ⟨(some 10), none, .pick (.s 5) (.s 9) (.c (.t (.bool false)))⟩, ⟨(some 2), none, .mov (.s 10)⟩])
 .ret)),
 [.slot 2]⟩
theorem ok30 : compF Tryz.prog 30 [] (Cfg.mk [] [] [] [] []) = some ir30 := by kernel_rfl

/-- tenet/term.Size -/
def ir31 : FInfo := ⟨31,
 (.seq (.reg [⟨(some 1), none, .box (.agg [(.int .i64), (.int .i64), .str, .slc, .slc]) (.s 0)⟩, ⟨(some 2), none, .mov (.c (.t (.int .i64 0)))⟩, ⟨(some 3), none, .mov (.c (.t (.int .i64 0)))⟩])
 (.seq (.seq (.reg [⟨(some 8), none, .fa 4 (.s 1)⟩, ⟨(some 9), none, .ld .slc (.s 8)⟩, ⟨(some 10), none, .len (.s 9)⟩, ⟨(some 11), none, .mov (.c (.t (.int .i64 0)))⟩])
 (.block 0 (.loop [2, 3, 9, 10, 11] (.seq (.reg [⟨(some 12), none, .bin .lss (.s 11) (.s 10)⟩])
 (.seq (.cond (.s 12)
 .skip
 (.exit 0))
 (.seq (.block 1 (.seq (.reg [⟨(some 13), none, .ia (.agg [(.int .i64), (.int .i64), .str, .slc, .slc]) (.s 9) (.s 11)⟩, ⟨(some 14), none, .ld (.agg [(.int .i64), (.int .i64), .str, .slc, .slc]) (.s 13)⟩, ⟨(some 5), none, .new (.agg [(.int .i64), (.int .i64), .str, .slc, .slc]) (.agg [(.t (.int .i64 0)), (.t (.int .i64 0)), (.t (.str [])), .nilS, .nilS])⟩, ⟨none, none, .st (.agg [(.int .i64), (.int .i64), .str, .slc, .slc]) (.s 5) (.s 14)⟩])
 (.seq (.reg [⟨(some 16), none, .ld (.agg [(.int .i64), (.int .i64), .str, .slc, .slc]) (.s 5)⟩, ⟨(some 17), none, .call false 31 (.tup [(.int .i64), (.int .i64)]) [(.s 16)]⟩, ⟨(some 15), none, .mov (.s 17)⟩, ⟨(some 18), none, .ext 0 (.s 15)⟩, ⟨(some 19), none, .ext 1 (.s 15)⟩, ⟨(some 6), none, .mov (.s 18)⟩, ⟨(some 7), none, .mov (.s 19)⟩])
 (.reg [⟨(some 20), none, .mov (.s 2)⟩, ⟨(some 21), none, .mov (.s 6)⟩, ⟨(some 22), none, .bin .add (.s 20) (.s 21)⟩, ⟨(some 23), none, .mov (.s 3)⟩, ⟨(some 24), none, .mov (.s 7)⟩, ⟨(some 25), none, .mx (.s 23) (.s 24)⟩, ⟨(some 2), none, .mov (.s 22)⟩, ⟨(some 3), none, .mov (.s 25)⟩]))))
 (.reg [⟨(some 26), none, .bin .add (.s 11) (.c (.t (.int .i64 1)))⟩, ⟨(some 11), none, .mov (.s 26)⟩])))))))
 (.seq (.reg [⟨(some 27), none, .mov (.s 2)⟩, ⟨(some 28), none, .bin .add (.s 27) (.c (.t (.int .i64 1)))⟩, ⟨(some 29), none, .mov (.s 3)⟩, ⟨(some 30), none, .bin .add (.s 29) (.c (.t (.int .i64 1)))⟩, ⟨(some 2), none, .mov (.s 28)⟩, ⟨(some 3), none, .mov (.s 30)⟩])
 .ret))),
 [.slot 2, .slot 3]⟩
theorem ok31 : compF Tryz.prog 31 [[2, 3, 9, 10, 11]] (Cfg.mk [] [] [] [] []) = some ir31 := by kernel_rfl

/-- tenet/term.mapped -/
def ir32 : FInfo := ⟨10,
 (.seq (.reg [⟨(some 2), none, .box (.agg [(.int .i64), (.int .i64), .str, .slc, .slc]) (.s 0)⟩, ⟨(some 3), none, .wbox .any (.s 1)⟩, ⟨(some 4), none, .new (.agg [(.int .i64), (.int .i64), .str, .slc, .slc]) (.agg [(.t (.int .i64 0)), (.t (.int .i64 0)), (.t (.str [])), .nilS, .nilS])⟩])
 (.seq (.reg [⟨(some 5), none, .wnew .any (.t .nilfn)⟩])
 (.seq (.reg [⟨(some 6), none, .mkf 46 [] [(.s 5), (.s 3)]⟩, ⟨none, none, .st .any (.s 5) (.s 6)⟩])
 (.seq (.reg [⟨(some 7), none, .ld .any (.s 5)⟩, ⟨(some 8), none, .ld (.agg [(.int .i64), (.int .i64), .str, .slc, .slc]) (.s 2)⟩, ⟨(some 9), none, .callvw (.s 7) (.agg [(.int .i64), (.int .i64), .str, .slc, .slc]) [(.s 8), (.c (.t (.int .i64 0)))]⟩, ⟨none, none, .st (.agg [(.int .i64), (.int .i64), .str, .slc, .slc]) (.s 4) (.s 9)⟩])
 .ret)))),
 [.cell 4 (.agg [(.int .i64), (.int .i64), .str, .slc, .slc])]⟩
theorem ok32 : compF Tryz.prog 32 [] (Cfg.mk [] [69] [9] [] []) = some ir32 := by kernel_rfl

/-- tenet/term.Free$1 -/
def ir33 : FInfo := ⟨14,
 (.seq (.reg [⟨(some 3), none, .box (.agg [(.int .i64), (.int .i64), .str, .slc, .slc]) (.s 0)⟩, ⟨(some 5), none, .new (.agg [(.int .i64), (.int .i64), .str, .slc, .slc]) (.agg [(.t (.int .i64 0)), (.t (.int .i64 0)), (.t (.str [])), .nilS, .nilS])⟩])
 (.seq (.reg [⟨(some 6), none, .ld (.int .i64) (.s 2)⟩, ⟨(some 7), none, .fa 1 (.s 3)⟩, ⟨(some 8), none, .ld (.int .i64) (.s 7)⟩, ⟨(some 9), none, .mov (.s 1)⟩, ⟨(some 10), none, .bin .sub (.s 8) (.s 9)⟩, ⟨(some 11), none, .bin .add (.s 10) (.c (.t (.int .i64 1)))⟩, ⟨(some 12), none, .mx (.s 6) (.s 11)⟩, ⟨none, none, .st (.int .i64) (.s 2) (.s 12)⟩])
 (.seq (.reg [⟨(some 13), none, .ld (.agg [(.int .i64), (.int .i64), .str, .slc, .slc]) (.s 3)⟩, ⟨none, none, .st (.agg [(.int .i64), (.int .i64), .str, .slc, .slc]) (.s 5) (.s 13)⟩])
 .ret))),
 [.cell 5 (.agg [(.int .i64), (.int .i64), .str, .slc, .slc])]⟩
theorem ok33 : compF Tryz.prog 33 [] (Cfg.mk [] [] [] [] []) = some ir33 := by kernel_rfl

/-- tenet/table.fault -/
def ir34 : FInfo := ⟨13,
 (.seq (.reg [⟨(some 2), none, .new (.agg [(.int .i64), .slc]) (.agg [(.t (.int .i64 0)), .nilS])⟩])
 (.seq (.reg [⟨(some 3), none, .new (.agg [(.int .i64), .slc]) (.agg [(.t (.int .i64 0)), .nilS])⟩])
 (.seq (.seq (.reg [⟨(some 4), none, .mov (.s 0)⟩, ⟨(some 5), none, .mki 87 (.s 3)⟩, ⟨(some 6), none, .call false 50 .bool [(.s 4), (.s 5)]⟩])
 (.cond (.s 6)
 (.seq (.reg [⟨(some 7), none, .fa 0 (.s 3)⟩, ⟨(some 8), none, .ld (.int .i64) (.s 7)⟩, ⟨(some 9), none, .fa 1 (.s 3)⟩, ⟨(some 10), none, .ld .slc (.s 9)⟩, ⟨(some 11), none, .build [(.t (.int .i64 0)), .nilS] [(0, (.int .i64), (.s 8)), (1, .slc, (.s 10))]⟩, ⟨none, none, .st (.agg [(.int .i64), .slc]) (.s 2) (.s 11)⟩])
 .ret)
 .skip))
 (.seq (.reg [⟨(some 12), none, .build [(.t (.int .i64 0)), .nilS] []⟩, ⟨none, none, .st (.agg [(.int .i64), .slc]) (.s 2) (.s 12)⟩])
 .ret)))),
 [.cell 2 (.agg [(.int .i64), .slc])]⟩
theorem ok34 : compF Tryz.prog 34 [] (Cfg.mk [] [] [] [] []) = some ir34 := by kernel_rfl

/-- tenet/cert.must -/
def ir37 : FInfo := ⟨6,
 (.seq (.reg [⟨(some 2), none, .mov (.s 0)⟩, ⟨(some 3), none, .un .not (.s 2)⟩])
 (.cond (.s 3)
 (.reg [⟨(some 4), none, .build [] []⟩, ⟨(some 5), none, .mki 75 (.s 4)⟩, ⟨none, none, .pan (.s 5)⟩])
 .skip)),
 []⟩
theorem ok37 : compF Tryz.prog 37 [] (Cfg.mk [] [] [] [] []) = some ir37 := by kernel_rfl

/-- (*tenet/cert.follower).rule -/
def ir39 : FInfo := ⟨278,
 (.seq (.reg [⟨(some 4), none, .box .any (.s 0)⟩, ⟨(some 5), none, .box .slc (.s 1)⟩, ⟨(some 6), none, .box (.agg [(.int .i64), (.int .i64), .str, .slc, .slc]) (.s 2)⟩, ⟨(some 7), none, .box .any (.s 3)⟩, ⟨(some 8), none, .new (.agg [(.int .i64), (.int .i64), .str, .slc, .slc]) (.agg [(.t (.int .i64 0)), (.t (.int .i64 0)), (.t (.str [])), .nilS, .nilS])⟩])
 (.seq (.reg [⟨(some 25), none, .mkf 53 [] [(.s 4), (.s 5), (.s 6), (.s 7)]⟩, ⟨(some 9), none, .mov (.s 25)⟩])
 (.seq (.seq (.reg [⟨(some 26), none, .fa 0 (.s 6)⟩, ⟨(some 27), none, .ld (.int .i64) (.s 26)⟩])
 (.block 0 (.seq (.reg [⟨(some 29), none, .bin .eql (.s 27) (.c (.t (.int .i64 1)))⟩, ⟨(some 28), none, .mov (.s 29)⟩])
 (.cond (.s 28)
 (.seq (.reg [⟨(some 31), none, .ld .slc (.s 5)⟩, ⟨(some 32), none, .fa 1 (.s 6)⟩, ⟨(some 33), none, .ld (.int .i64) (.s 32)⟩, ⟨(some 34), none, .call false 56 (.tup [(.agg [(.int .i64), (.int .i64), .str, .slc, .slc, .bool]), (.int .i64)]) [(.s 31), (.s 33)]⟩, ⟨(some 30), none, .mov (.s 34)⟩, ⟨(some 35), none, .ext 0 (.s 30)⟩, ⟨(some 36), none, .ext 1 (.s 30)⟩, ⟨(some 10), none, .new (.agg [(.int .i64), (.int .i64), .str, .slc, .slc, .bool]) (.agg [(.t (.int .i64 0)), (.t (.int .i64 0)), (.t (.str [])), .nilS, .nilS, (.t (.bool false))])⟩, ⟨none, none, .st (.agg [(.int .i64), (.int .i64), .str, .slc, .slc, .bool]) (.s 10) (.s 35)⟩, ⟨(some 11), none, .mov (.s 36)⟩])
 (.seq (.reg [⟨(some 37), none, .mov (.s 11)⟩, ⟨(some 38), none, .bin .eql (.s 37) (.c (.t (.int .i64 0)))⟩, ⟨(some 39), none, .call false 37 (.tup []) [(.s 38)]⟩])
 (.seq (.reg [⟨(some 40), none, .fa 0 (.s 10)⟩, ⟨(some 41), none, .ld (.agg [(.int .i64), (.int .i64), .str, .slc, .slc]) (.s 40)⟩, ⟨none, none, .st (.agg [(.int .i64), (.int .i64), .str, .slc, .slc]) (.s 8) (.s 41)⟩])
 .ret)))
 (.seq (.reg [⟨(some 43), none, .bin .eql (.s 27) (.c (.t (.int .i64 2)))⟩, ⟨(some 42), none, .mov (.s 43)⟩])
 (.cond (.s 42)
 (.seq (.dreg [⟨(some 45), none, .ld .any (.s 4)⟩, ⟨(some 46), none, .nonnil (.s 45)⟩, ⟨(some 47), none, .fa 0 (.s 46)⟩, ⟨(some 48), none, .ld (.agg [.slc]) (.s 47)⟩, ⟨(some 49), none, .fa 2 (.s 6)⟩, ⟨(some 50), none, .ld .str (.s 49)⟩, ⟨(some 51), none, .fa 3 (.s 6)⟩, ⟨(some 52), none, .ld .slc (.s 51)⟩, ⟨(some 53), none, .call false 57 (.tup [(.agg [(.int .i64), (.int .i64), .str, .slc, .slc]), (.int .i64)]) [(.s 48), (.s 50), (.s 52)]⟩, ⟨(some 44), none, .mov (.s 53)⟩, ⟨(some 54), none, .ext 0 (.s 44)⟩, ⟨(some 55), none, .ext 1 (.s 44)⟩, ⟨(some 12), none, .new (.agg [(.int .i64), (.int .i64), .str, .slc, .slc]) (.agg [(.t (.int .i64 0)), (.t (.int .i64 0)), (.t (.str [])), .nilS, .nilS])⟩, ⟨none, none, .st (.agg [(.int .i64), (.int .i64), .str, .slc, .slc]) (.s 12) (.s 54)⟩, ⟨(some 13), none, .mov (.s 55)⟩] [0, 1, 3, 7, 0, 16, 0, 64, 255, 511, 1023, 1023, 0, 6143, 16383])
 (.seq (.reg [⟨(some 56), none, .mov (.s 13)⟩, ⟨(some 57), none, .bin .eql (.s 56) (.c (.t (.int .i64 0)))⟩, ⟨(some 58), none, .call false 37 (.tup []) [(.s 57)]⟩])
 (.seq (.reg [⟨(some 59), none, .ld (.agg [(.int .i64), (.int .i64), .str, .slc, .slc]) (.s 12)⟩, ⟨none, none, .st (.agg [(.int .i64), (.int .i64), .str, .slc, .slc]) (.s 8) (.s 59)⟩])
 .ret)))
 (.seq (.reg [⟨(some 61), none, .bin .eql (.s 27) (.c (.t (.int .i64 3)))⟩, ⟨(some 60), none, .mov (.s 61)⟩])
 (.cond (.s 60)
 (.seq (.reg [⟨(some 62), none, .fa 3 (.s 6)⟩, ⟨(some 63), none, .ld .slc (.s 62)⟩, ⟨(some 64), none, .ia (.agg [(.int .i64), .slc]) (.s 63) (.c (.t (.int .i64 0)))⟩, ⟨(some 65), none, .ld (.agg [(.int .i64), .slc]) (.s 64)⟩, ⟨(some 66), none, .call false 59 (.agg [(.int .i64), .slc]) [(.s 65)]⟩, ⟨(some 67), none, .call false 58 (.agg [(.int .i64), (.int .i64), .str, .slc, .slc]) [(.s 66)]⟩, ⟨none, none, .st (.agg [(.int .i64), (.int .i64), .str, .slc, .slc]) (.s 8) (.s 67)⟩])
 .ret)
 (.seq (.seq (.reg [⟨(some 69), none, .bin .eql (.s 27) (.c (.t (.int .i64 4)))⟩, ⟨(some 68), none, .mov (.s 69)⟩])
 (.cond (.s 68)
 .skip
 (.reg [⟨(some 70), none, .bin .eql (.s 27) (.c (.t (.int .i64 12)))⟩, ⟨(some 68), none, .mov (.s 70)⟩])))
 (.cond (.s 68)
 (.seq (.reg [⟨(some 71), none, .build [(.t (.int .i64 0)), .nilS] []⟩, ⟨(some 72), none, .call false 58 (.agg [(.int .i64), (.int .i64), .str, .slc, .slc]) [(.s 71)]⟩, ⟨none, none, .st (.agg [(.int .i64), (.int .i64), .str, .slc, .slc]) (.s 8) (.s 72)⟩])
 .ret)
 (.seq (.reg [⟨(some 74), none, .bin .eql (.s 27) (.c (.t (.int .i64 13)))⟩, ⟨(some 73), none, .mov (.s 74)⟩])
 (.cond (.s 73)
 (.seq (.reg [⟨(some 75), none, .build [(.t (.int .i64 0)), (.t (.int .i64 0)), (.t (.str [])), .nilS, .nilS] [(0, (.int .i64), (.c (.t (.int .i64 12))))]⟩, ⟨none, none, .st (.agg [(.int .i64), (.int .i64), .str, .slc, .slc]) (.s 8) (.s 75)⟩])
 .ret)
 (.seq (.reg [⟨(some 77), none, .bin .eql (.s 27) (.c (.t (.int .i64 15)))⟩, ⟨(some 76), none, .mov (.s 77)⟩])
 (.cond (.s 76)
 (.seq (.reg [⟨(some 78), none, .build [(.t (.int .i64 0)), (.t (.int .i64 0)), (.t (.str [])), .nilS, .nilS] [(0, (.int .i64), (.c (.t (.int .i64 14))))]⟩, ⟨none, none, .st (.agg [(.int .i64), (.int .i64), .str, .slc, .slc]) (.s 8) (.s 78)⟩])
 .ret)
 (.seq (.seq (.reg [⟨(some 80), none, .bin .eql (.s 27) (.c (.t (.int .i64 14)))⟩, ⟨(some 79), none, .mov (.s 80)⟩])
 (.cond (.s 79)
 .skip
 (.reg [⟨(some 81), none, .bin .eql (.s 27) (.c (.t (.int .i64 16)))⟩, ⟨(some 79), none, .mov (.s 81)⟩])))
 (.cond (.s 79)
 (.seq (.reg [⟨(some 82), none, .build [(.t (.int .i64 0)), (.t (.int .i64 0)), (.t (.str [])), .nilS, .nilS] [(0, (.int .i64), (.c (.t (.int .i64 4))))]⟩, ⟨none, none, .st (.agg [(.int .i64), (.int .i64), .str, .slc, .slc]) (.s 8) (.s 82)⟩])
 .ret)
 (.seq (.seq (.reg [⟨(some 84), none, .bin .eql (.s 27) (.c (.t (.int .i64 5)))⟩, ⟨(some 83), none, .mov (.s 84)⟩])
 (.cond (.s 83)
 .skip
 (.reg [⟨(some 85), none, .bin .eql (.s 27) (.c (.t (.int .i64 8)))⟩, ⟨(some 83), none, .mov (.s 85)⟩])))
 (.cond (.s 83)
 (.seq (.reg [⟨(some 86), none, .ld .any (.s 4)⟩, ⟨(some 87), none, .ld .slc (.s 5)⟩, ⟨(some 88), none, .ld (.agg [(.int .i64), (.int .i64), .str, .slc, .slc]) (.s 6)⟩, ⟨(some 89), none, .ld .wp (.s 7)⟩, ⟨(some 90), none, .callw 60 (.agg [(.int .i64), (.int .i64), .str, .slc, .slc]) [(.s 86), (.s 87), (.s 88), (.s 89)]⟩, ⟨none, none, .st (.agg [(.int .i64), (.int .i64), .str, .slc, .slc]) (.s 8) (.s 90)⟩])
 .ret)
 (.seq (.reg [⟨(some 92), none, .bin .eql (.s 27) (.c (.t (.int .i64 6)))⟩, ⟨(some 91), none, .mov (.s 92)⟩])
 (.cond (.s 91)
 (.seq (.dreg [⟨(some 94), none, .ld .any (.s 4)⟩, ⟨(some 95), none, .ld .slc (.s 5)⟩, ⟨(some 96), none, .fa 4 (.s 6)⟩, ⟨(some 97), none, .ld .slc (.s 96)⟩, ⟨(some 98), none, .ia (.agg [(.int .i64), (.int .i64), .str, .slc, .slc]) (.s 97) (.c (.t (.int .i64 0)))⟩, ⟨(some 99), none, .ld (.agg [(.int .i64), (.int .i64), .str, .slc, .slc]) (.s 98)⟩, ⟨(some 100), none, .ld .wp (.s 7)⟩, ⟨(some 101), none, .callw 55 .any [(.s 100)]⟩, ⟨(some 102), none, .call false 61 (.tup [(.agg [(.int .i64), .slc]), .bool]) [(.s 94), (.s 95), (.s 99), (.s 101)]⟩, ⟨(some 93), none, .mov (.s 102)⟩, ⟨(some 103), none, .ext 0 (.s 93)⟩, ⟨(some 104), none, .ext 1 (.s 93)⟩, ⟨(some 14), none, .new (.agg [(.int .i64), .slc]) (.agg [(.t (.int .i64 0)), .nilS])⟩, ⟨none, none, .st (.agg [(.int .i64), .slc]) (.s 14) (.s 103)⟩, ⟨(some 15), none, .mov (.s 104)⟩] [0, 0, 0, 4, 12, 28, 0, 64, 255, 511, 1023, 1023, 0, 6143, 16383])
 (.seq (.dreg [⟨(some 105), none, .fa 1 (.s 6)⟩, ⟨(some 106), none, .ld (.int .i64) (.s 105)⟩, ⟨(some 107), none, .mov (.s 15)⟩, ⟨(some 108), none, .call false 62 (.int .i64) [(.s 107), (.c (.t (.bool false)))]⟩, ⟨(some 109), none, .bin .eql (.s 106) (.s 108)⟩, ⟨(some 110), none, .call false 37 (.tup []) [(.s 109)]⟩] [0, 1, 0, 4, 15, 31])
 (.seq (.dreg [⟨(some 111), none, .ld .slc (.s 5)⟩, ⟨(some 112), none, .fa 4 (.s 6)⟩, ⟨(some 113), none, .ld .slc (.s 112)⟩, ⟨(some 114), none, .ia (.agg [(.int .i64), (.int .i64), .str, .slc, .slc]) (.s 113) (.c (.t (.int .i64 0)))⟩, ⟨(some 115), none, .ld (.agg [(.int .i64), (.int .i64), .str, .slc, .slc]) (.s 114)⟩, ⟨(some 116), none, .mov (.s 15)⟩, ⟨(some 117), none, .call false 63 .slc [(.s 111), (.s 115), (.s 116)]⟩, ⟨(some 16), none, .mov (.s 117)⟩] [0, 0, 2, 6, 14, 0, 63, 127])
 (.seq (.dreg [⟨(some 118), none, .ld .any (.s 4)⟩, ⟨(some 119), none, .mov (.s 16)⟩, ⟨(some 120), none, .fa 4 (.s 6)⟩, ⟨(some 121), none, .ld .slc (.s 120)⟩, ⟨(some 122), none, .ia (.agg [(.int .i64), (.int .i64), .str, .slc, .slc]) (.s 121) (.c (.t (.int .i64 1)))⟩, ⟨(some 123), none, .ld (.agg [(.int .i64), (.int .i64), .str, .slc, .slc]) (.s 122)⟩, ⟨(some 124), none, .ld .wp (.s 7)⟩, ⟨(some 125), none, .callw 55 .any [(.s 124)]⟩, ⟨(some 126), none, .call false 28 (.agg [(.int .i64), (.int .i64), .str, .slc, .slc]) [(.s 118), (.s 119), (.s 123), (.s 125)]⟩, ⟨(some 17), none, .new (.agg [(.int .i64), (.int .i64), .str, .slc, .slc]) (.agg [(.t (.int .i64 0)), (.t (.int .i64 0)), (.t (.str [])), .nilS, .nilS])⟩, ⟨none, none, .st (.agg [(.int .i64), (.int .i64), .str, .slc, .slc]) (.s 17) (.s 126)⟩] [0, 0, 0, 4, 12, 28, 0, 64, 255, 0, 1023])
 (.seq (.dreg [⟨(some 128), none, .ld .any (.s 4)⟩, ⟨(some 129), none, .mov (.s 16)⟩, ⟨(some 130), none, .ld (.agg [(.int .i64), (.int .i64), .str, .slc, .slc]) (.s 17)⟩, ⟨(some 131), none, .ld .wp (.s 7)⟩, ⟨(some 132), none, .callw 55 .any [(.s 131)]⟩, ⟨(some 133), none, .call false 61 (.tup [(.agg [(.int .i64), .slc]), .bool]) [(.s 128), (.s 129), (.s 130), (.s 132)]⟩, ⟨(some 127), none, .mov (.s 133)⟩, ⟨(some 134), none, .ext 0 (.s 127)⟩, ⟨(some 135), none, .ext 1 (.s 127)⟩, ⟨(some 18), none, .new (.agg [(.int .i64), .slc]) (.agg [(.t (.int .i64 0)), .nilS])⟩, ⟨none, none, .st (.agg [(.int .i64), .slc]) (.s 18) (.s 134)⟩, ⟨(some 19), none, .mov (.s 135)⟩] [0, 0, 0, 0, 8, 31, 63, 127, 127, 0, 767, 2047])
 (.seq (.dreg [⟨(some 136), none, .mov (.s 15)⟩, ⟨(some 137), none, .mov (.s 19)⟩, ⟨(some 138), none, .call false 62 (.int .i64) [(.s 136), (.s 137)]⟩, ⟨(some 139), none, .fa 4 (.s 6)⟩, ⟨(some 140), none, .ld .slc (.s 139)⟩, ⟨(some 141), none, .ia (.agg [(.int .i64), (.int .i64), .str, .slc, .slc]) (.s 140) (.c (.t (.int .i64 0)))⟩, ⟨(some 142), none, .ld (.agg [(.int .i64), (.int .i64), .str, .slc, .slc]) (.s 141)⟩, ⟨(some 143), none, .ld (.agg [(.int .i64), (.int .i64), .str, .slc, .slc]) (.s 17)⟩, ⟨(some 144), none, .bsl (.agg [(.int .i64), (.int .i64), .str, .slc, .slc]) (.agg [(.t (.int .i64 0)), (.t (.int .i64 0)), (.t (.str [])), .nilS, .nilS]) 2 [(0, (.s 142)), (1, (.s 143))]⟩, ⟨(some 145), none, .build [(.t (.int .i64 0)), (.t (.int .i64 0)), (.t (.str [])), .nilS, .nilS] [(0, (.int .i64), (.c (.t (.int .i64 5)))), (1, (.int .i64), (.s 138)), (4, .slc, (.s 144))]⟩, ⟨none, none, .st (.agg [(.int .i64), (.int .i64), .str, .slc, .slc]) (.s 8) (.s 145)⟩] [0, 0, 3, 0, 8, 24, 56, 0, 248, 511, 1023])
 .ret))))))
 (.seq (.reg [⟨(some 147), none, .bin .eql (.s 27) (.c (.t (.int .i64 7)))⟩, ⟨(some 146), none, .mov (.s 147)⟩])
 (.cond (.s 146)
 (.seq (.dreg [⟨(some 148), none, .ld .any (.s 4)⟩, ⟨(some 149), none, .ld .slc (.s 5)⟩, ⟨(some 150), none, .fa 4 (.s 6)⟩, ⟨(some 151), none, .ld .slc (.s 150)⟩, ⟨(some 152), none, .ia (.agg [(.int .i64), (.int .i64), .str, .slc, .slc]) (.s 151) (.c (.t (.int .i64 0)))⟩, ⟨(some 153), none, .ld (.agg [(.int .i64), (.int .i64), .str, .slc, .slc]) (.s 152)⟩, ⟨(some 154), none, .ld .wp (.s 7)⟩, ⟨(some 155), none, .callw 55 .any [(.s 154)]⟩, ⟨(some 156), none, .call false 64 (.agg [(.int .i64), (.int .i64), .str, .slc, .slc]) [(.s 148), (.s 149), (.s 153), (.s 155)]⟩, ⟨(some 20), none, .new (.agg [(.int .i64), (.int .i64), .str, .slc, .slc]) (.agg [(.t (.int .i64 0)), (.t (.int .i64 0)), (.t (.str [])), .nilS, .nilS])⟩, ⟨none, none, .st (.agg [(.int .i64), (.int .i64), .str, .slc, .slc]) (.s 20) (.s 156)⟩] [0, 0, 0, 4, 12, 28, 0, 64, 255, 0, 1023])
 (.seq (.reg [⟨(some 157), none, .fa 0 (.s 20)⟩, ⟨(some 158), none, .ld (.int .i64) (.s 157)⟩, ⟨(some 159), none, .bin .eql (.s 158) (.c (.t (.int .i64 5)))⟩, ⟨(some 160), none, .mov (.s 159)⟩, ⟨(some 161), (some (160, true)), .fa 1 (.s 6)⟩, ⟨(some 162), (some (160, true)), .ld (.int .i64) (.s 161)⟩, ⟨(some 163), (some (160, true)), .fa 1 (.s 20)⟩, ⟨(some 164), (some (160, true)), .ld (.int .i64) (.s 163)⟩, ⟨(some 165), (some (160, true)), .bin .and (.s 164) (.c (.t (.int .i64 1)))⟩, ⟨(some 166), (some (160, true)), .bin .eql (.s 162) (.s 165)⟩, ⟨(some 167), none, .pick (.s 160) (.s 166) (.c (.t (.bool false)))⟩, ⟨(some 168), none, .call false 37 (.tup []) [(.s 167)]⟩])
 (.seq (.reg [⟨(some 169), none, .mov (.s 9)⟩, ⟨(some 170), none, .fa 4 (.s 20)⟩, ⟨(some 171), none, .ld .slc (.s 170)⟩, ⟨(some 172), none, .ia (.agg [(.int .i64), (.int .i64), .str, .slc, .slc]) (.s 171) (.c (.t (.int .i64 0)))⟩, ⟨(some 173), none, .ld (.agg [(.int .i64), (.int .i64), .str, .slc, .slc]) (.s 172)⟩, ⟨(some 174), none, .callvw (.s 169) (.tup []) [(.c (.t (.int .i64 1))), (.s 173)]⟩])
 (.seq (.dreg [⟨(some 175), none, .fa 4 (.s 20)⟩, ⟨(some 176), none, .ld .slc (.s 175)⟩, ⟨(some 177), none, .ia (.agg [(.int .i64), (.int .i64), .str, .slc, .slc]) (.s 176) (.c (.t (.int .i64 1)))⟩, ⟨(some 178), none, .ld (.agg [(.int .i64), (.int .i64), .str, .slc, .slc]) (.s 177)⟩, ⟨(some 179), none, .fa 4 (.s 6)⟩, ⟨(some 180), none, .ld .slc (.s 179)⟩, ⟨(some 181), none, .sub (.agg [(.int .i64), (.int .i64), .str, .slc, .slc]) (.s 180) (some (.c (.t (.int .i64 1)))) none none⟩, ⟨(some 182), none, .call false 65 (.agg [(.int .i64), (.int .i64), .str, .slc, .slc]) [(.s 178), (.s 181)]⟩, ⟨none, none, .st (.agg [(.int .i64), (.int .i64), .str, .slc, .slc]) (.s 8) (.s 182)⟩] [0, 1, 3, 7, 0, 16, 48, 127, 255])
 .ret))))
 (.seq (.reg [⟨(some 184), none, .bin .eql (.s 27) (.c (.t (.int .i64 9)))⟩, ⟨(some 183), none, .mov (.s 184)⟩])
 (.cond (.s 183)
 (.seq (.dreg [⟨(some 185), none, .fa 1 (.s 6)⟩, ⟨(some 186), none, .ld (.int .i64) (.s 185)⟩, ⟨(some 187), none, .fa 4 (.s 6)⟩, ⟨(some 188), none, .ld .slc (.s 187)⟩, ⟨(some 189), none, .sub (.agg [(.int .i64), (.int .i64), .str, .slc, .slc]) (.s 188) none (some (.c (.t (.int .i64 2)))) none⟩, ⟨(some 190), none, .build [(.t (.int .i64 0)), (.t (.int .i64 0)), (.t (.str [])), .nilS, .nilS] [(0, (.int .i64), (.c (.t (.int .i64 8)))), (1, (.int .i64), (.s 186)), (4, .slc, (.s 189))]⟩, ⟨(some 21), none, .new (.agg [(.int .i64), (.int .i64), .str, .slc, .slc]) (.agg [(.t (.int .i64 0)), (.t (.int .i64 0)), (.t (.str [])), .nilS, .nilS])⟩, ⟨none, none, .st (.agg [(.int .i64), (.int .i64), .str, .slc, .slc]) (.s 21) (.s 190)⟩] [0, 1, 0, 4, 12, 31, 0, 127])
 (.seq (.dreg [⟨(some 191), none, .ld .any (.s 4)⟩, ⟨(some 192), none, .ld .slc (.s 5)⟩, ⟨(some 193), none, .ld (.agg [(.int .i64), (.int .i64), .str, .slc, .slc]) (.s 21)⟩, ⟨(some 194), none, .ld .wp (.s 7)⟩, ⟨(some 195), none, .callw 55 .any [(.s 194)]⟩, ⟨(some 196), none, .call false 28 (.agg [(.int .i64), (.int .i64), .str, .slc, .slc]) [(.s 191), (.s 192), (.s 193), (.s 195)]⟩] [0, 0, 0, 0, 8, 31])
 (.seq (.reg [⟨(some 197), none, .mov (.s 9)⟩, ⟨(some 198), none, .fa 4 (.s 6)⟩, ⟨(some 199), none, .ld .slc (.s 198)⟩, ⟨(some 200), none, .ia (.agg [(.int .i64), (.int .i64), .str, .slc, .slc]) (.s 199) (.c (.t (.int .i64 0)))⟩, ⟨(some 201), none, .ld (.agg [(.int .i64), (.int .i64), .str, .slc, .slc]) (.s 200)⟩, ⟨(some 202), none, .callvw (.s 197) (.tup []) [(.c (.t (.int .i64 2))), (.s 201)]⟩])
 (.seq (.dreg [⟨(some 203), none, .mov (.s 9)⟩, ⟨(some 204), none, .fa 4 (.s 6)⟩, ⟨(some 205), none, .ld .slc (.s 204)⟩, ⟨(some 206), none, .ia (.agg [(.int .i64), (.int .i64), .str, .slc, .slc]) (.s 205) (.c (.t (.int .i64 1)))⟩, ⟨(some 207), none, .ld (.agg [(.int .i64), (.int .i64), .str, .slc, .slc]) (.s 206)⟩, ⟨(some 208), none, .fa 4 (.s 6)⟩, ⟨(some 209), none, .ld .slc (.s 208)⟩, ⟨(some 210), none, .sub (.agg [(.int .i64), (.int .i64), .str, .slc, .slc]) (.s 209) (some (.c (.t (.int .i64 2)))) (some (.c (.t (.int .i64 3)))) none⟩, ⟨(some 211), none, .call false 65 (.agg [(.int .i64), (.int .i64), .str, .slc, .slc]) [(.s 207), (.s 210)]⟩, ⟨(some 212), none, .callvw (.s 203) (.tup []) [(.c (.t (.int .i64 3))), (.s 211)]⟩] [0, 0, 2, 6, 14, 0, 32, 96, 254, 511])
 (.seq (.reg [⟨(some 213), none, .ld (.agg [(.int .i64), (.int .i64), .str, .slc, .slc]) (.s 21)⟩, ⟨none, none, .st (.agg [(.int .i64), (.int .i64), .str, .slc, .slc]) (.s 8) (.s 213)⟩])
 .ret)))))
 (.seq (.seq (.reg [⟨(some 215), none, .bin .eql (.s 27) (.c (.t (.int .i64 10)))⟩, ⟨(some 214), none, .mov (.s 215)⟩])
 (.cond (.s 214)
 .skip
 (.reg [⟨(some 216), none, .bin .eql (.s 27) (.c (.t (.int .i64 11)))⟩, ⟨(some 214), none, .mov (.s 216)⟩])))
 (.cond (.s 214)
 (.seq (.dreg [⟨(some 217), none, .ld .any (.s 4)⟩, ⟨(some 218), none, .ld .slc (.s 5)⟩, ⟨(some 219), none, .fa 4 (.s 6)⟩, ⟨(some 220), none, .ld .slc (.s 219)⟩, ⟨(some 221), none, .ia (.agg [(.int .i64), (.int .i64), .str, .slc, .slc]) (.s 220) (.c (.t (.int .i64 0)))⟩, ⟨(some 222), none, .ld (.agg [(.int .i64), (.int .i64), .str, .slc, .slc]) (.s 221)⟩, ⟨(some 223), none, .ld .wp (.s 7)⟩, ⟨(some 224), none, .callw 55 .any [(.s 223)]⟩, ⟨(some 225), none, .call false 64 (.agg [(.int .i64), (.int .i64), .str, .slc, .slc]) [(.s 217), (.s 218), (.s 222), (.s 224)]⟩, ⟨(some 22), none, .new (.agg [(.int .i64), (.int .i64), .str, .slc, .slc]) (.agg [(.t (.int .i64 0)), (.t (.int .i64 0)), (.t (.str [])), .nilS, .nilS])⟩, ⟨none, none, .st (.agg [(.int .i64), (.int .i64), .str, .slc, .slc]) (.s 22) (.s 225)⟩] [0, 0, 0, 4, 12, 28, 0, 64, 255, 0, 1023])
 (.seq (.reg [⟨(some 226), none, .fa 0 (.s 22)⟩, ⟨(some 227), none, .ld (.int .i64) (.s 226)⟩, ⟨(some 228), none, .bin .eql (.s 227) (.c (.t (.int .i64 8)))⟩, ⟨(some 229), none, .call false 37 (.tup []) [(.s 228)]⟩])
 (.seq (.seq (.reg [⟨(some 230), none, .fa 0 (.s 6)⟩, ⟨(some 231), none, .ld (.int .i64) (.s 230)⟩, ⟨(some 232), none, .bin .eql (.s 231) (.c (.t (.int .i64 10)))⟩])
 (.cond (.s 232)
 (.seq (.reg [⟨(some 233), none, .fa 4 (.s 22)⟩, ⟨(some 234), none, .ld .slc (.s 233)⟩, ⟨(some 235), none, .ia (.agg [(.int .i64), (.int .i64), .str, .slc, .slc]) (.s 234) (.c (.t (.int .i64 0)))⟩, ⟨(some 236), none, .ld (.agg [(.int .i64), (.int .i64), .str, .slc, .slc]) (.s 235)⟩, ⟨none, none, .st (.agg [(.int .i64), (.int .i64), .str, .slc, .slc]) (.s 8) (.s 236)⟩])
 .ret)
 .skip))
 (.seq (.dreg [⟨(some 237), none, .fa 4 (.s 22)⟩, ⟨(some 238), none, .ld .slc (.s 237)⟩, ⟨(some 239), none, .ia (.agg [(.int .i64), (.int .i64), .str, .slc, .slc]) (.s 238) (.c (.t (.int .i64 1)))⟩, ⟨(some 240), none, .ld (.agg [(.int .i64), (.int .i64), .str, .slc, .slc]) (.s 239)⟩, ⟨(some 241), none, .fa 4 (.s 6)⟩, ⟨(some 242), none, .ld .slc (.s 241)⟩, ⟨(some 243), none, .build [(.t (.int .i64 0)), (.t (.int .i64 0)), (.t (.str [])), .nilS, .nilS] [(0, (.int .i64), (.c (.t (.int .i64 10)))), (4, .slc, (.s 242))]⟩, ⟨(some 244), none, .bsl (.agg [(.int .i64), (.int .i64), .str, .slc, .slc]) (.agg [(.t (.int .i64 0)), (.t (.int .i64 0)), (.t (.str [])), .nilS, .nilS]) 1 [(0, (.s 243))]⟩, ⟨(some 245), none, .call false 65 (.agg [(.int .i64), (.int .i64), .str, .slc, .slc]) [(.s 240), (.s 244)]⟩, ⟨none, none, .st (.agg [(.int .i64), (.int .i64), .str, .slc, .slc]) (.s 8) (.s 245)⟩] [0, 1, 3, 7, 0, 16, 48, 112, 255, 511])
 .ret))))
 (.seq (.reg [⟨(some 247), none, .bin .eql (.s 27) (.c (.t (.int .i64 17)))⟩, ⟨(some 246), none, .mov (.s 247)⟩])
 (.cond (.s 246)
 (.seq (.dreg [⟨(some 249), none, .ld .any (.s 4)⟩, ⟨(some 250), none, .ld .slc (.s 5)⟩, ⟨(some 251), none, .fa 4 (.s 6)⟩, ⟨(some 252), none, .ld .slc (.s 251)⟩, ⟨(some 253), none, .ia (.agg [(.int .i64), (.int .i64), .str, .slc, .slc]) (.s 252) (.c (.t (.int .i64 0)))⟩, ⟨(some 254), none, .ld (.agg [(.int .i64), (.int .i64), .str, .slc, .slc]) (.s 253)⟩, ⟨(some 255), none, .ld .wp (.s 7)⟩, ⟨(some 256), none, .callw 55 .any [(.s 255)]⟩, ⟨(some 257), none, .call false 61 (.tup [(.agg [(.int .i64), .slc]), .bool]) [(.s 249), (.s 250), (.s 254), (.s 256)]⟩, ⟨(some 248), none, .mov (.s 257)⟩, ⟨(some 258), none, .ext 0 (.s 248)⟩, ⟨(some 259), none, .ext 1 (.s 248)⟩, ⟨(some 23), none, .new (.agg [(.int .i64), .slc]) (.agg [(.t (.int .i64 0)), .nilS])⟩, ⟨none, none, .st (.agg [(.int .i64), .slc]) (.s 23) (.s 258)⟩, ⟨(some 24), none, .mov (.s 259)⟩] [0, 0, 0, 4, 12, 28, 0, 64, 255, 511, 1023, 1023, 0, 6143, 16383])
 (.seq (.dreg [⟨(some 260), none, .fa 1 (.s 6)⟩, ⟨(some 261), none, .ld (.int .i64) (.s 260)⟩, ⟨(some 262), none, .mov (.s 24)⟩, ⟨(some 263), none, .call false 62 (.int .i64) [(.s 262), (.c (.t (.bool false)))]⟩, ⟨(some 264), none, .bin .eql (.s 261) (.s 263)⟩, ⟨(some 265), none, .call false 37 (.tup []) [(.s 264)]⟩] [0, 1, 0, 4, 15, 31])
 (.seq (.reg [⟨(some 266), none, .mov (.s 9)⟩, ⟨(some 267), none, .build [(.t (.int .i64 0)), (.t (.int .i64 0)), (.t (.str [])), .nilS, .nilS] [(0, (.int .i64), (.c (.t (.int .i64 16))))]⟩, ⟨(some 268), none, .callvw (.s 266) (.tup []) [(.c (.t (.int .i64 1))), (.s 267)]⟩])
 (.seq (.reg [⟨(some 269), none, .fa 4 (.s 6)⟩, ⟨(some 270), none, .ld .slc (.s 269)⟩, ⟨(some 271), none, .ia (.agg [(.int .i64), (.int .i64), .str, .slc, .slc]) (.s 270) (.c (.t (.int .i64 0)))⟩, ⟨(some 272), none, .ld (.agg [(.int .i64), (.int .i64), .str, .slc, .slc]) (.s 271)⟩, ⟨none, none, .st (.agg [(.int .i64), (.int .i64), .str, .slc, .slc]) (.s 8) (.s 272)⟩])
 .ret))))
 .skip))))))))))))))))))))))))))))
 (.seq (.reg [⟨(some 273), none, .ld .any (.s 4)⟩, ⟨(some 274), none, .ld .slc (.s 5)⟩, ⟨(some 275), none, .ld (.agg [(.int .i64), (.int .i64), .str, .slc, .slc]) (.s 6)⟩, ⟨(some 276), none, .ld .wp (.s 7)⟩, ⟨(some 277), none, .callw 66 (.agg [(.int .i64), (.int .i64), .str, .slc, .slc]) [(.s 273), (.s 274), (.s 275), (.s 276)]⟩, ⟨none, none, .st (.agg [(.int .i64), (.int .i64), .str, .slc, .slc]) (.s 8) (.s 277)⟩])
 .ret)))),
 [.cell 8 (.agg [(.int .i64), (.int .i64), .str, .slc, .slc])]⟩
theorem ok39 : compF Tryz.prog 39 [] (Cfg.mk [] [91] [90, 101, 125, 132, 155, 195, 224, 256, 277, 174, 202, 212, 268] [] []) = some ir39 := by kernel_rfl

/-- (*tenet/cert.reader).end -/
def ir40 : FInfo := ⟨13,
 (.dreg [⟨(some 2), none, .mov (.s 0)⟩, ⟨(some 3), none, .nonnil (.s 2)⟩, ⟨(some 4), none, .fa 1 (.s 3)⟩, ⟨(some 5), none, .ld (.int .i64) (.s 4)⟩, ⟨(some 6), none, .mov (.s 0)⟩, ⟨(some 7), none, .nonnil (.s 6)⟩, ⟨(some 8), none, .fa 0 (.s 7)⟩, ⟨(some 9), none, .ld .slc (.s 8)⟩, ⟨(some 10), none, .len (.s 9)⟩, ⟨(some 11), none, .bin .eql (.s 5) (.s 10)⟩, ⟨(some 12), none, .call false 37 (.tup []) [(.s 11)]⟩] [0, 1, 3, 7, 0, 16, 48, 112, 240, 511, 1023]),
 []⟩
theorem ok40 : compF Tryz.prog 40 [] (Cfg.mk [] [91] [] [] []) = some ir40 := by kernel_rfl

/-- slices.ContainsFunc[[]tenet/api.Term,tenet/api.Term] -/
def ir42 : FInfo := ⟨9,
 (.seq (.reg [⟨(some 4), none, .mov (.c (.t (.bool false)))⟩])
 (.seq (.reg [⟨(some 5), none, .mov (.s 0)⟩, ⟨(some 6), none, .mov (.s 1)⟩, ⟨(some 7), none, .call false 67 (.int .i64) [(.s 5), (.s 6)]⟩, ⟨(some 8), none, .bin .geq (.s 7) (.c (.t (.int .i64 0)))⟩, ⟨(some 4), none, .mov (.s 8)⟩])
 .ret)),
 [.slot 4]⟩
theorem ok42 : compF Tryz.prog 42 [] (Cfg.mk [] [] [] [] []) = some ir42 := by kernel_rfl

/-- tenet/term.node -/
def ir44 : FInfo := ⟨122,
 (.seq (.reg [⟨(some 1), none, .box (.agg [(.int .i64), (.int .i64), .str, .slc, .slc]) (.s 0)⟩, ⟨(some 2), none, .mov (.c (.t (.bool false)))⟩])
 (.seq (.reg [⟨(some 8), none, .fa 0 (.s 1)⟩, ⟨(some 9), none, .ld (.int .i64) (.s 8)⟩, ⟨(some 10), none, .call false 68 (.tup [(.agg [.str, (.int .i64), (.int .i64)]), .bool]) [(.s 9)]⟩, ⟨(some 7), none, .mov (.s 10)⟩, ⟨(some 11), none, .ext 0 (.s 7)⟩, ⟨(some 12), none, .ext 1 (.s 7)⟩, ⟨(some 3), none, .new (.agg [.str, (.int .i64), (.int .i64)]) (.t (.agg [(.str []), (.int .i64 0), (.int .i64 0)]))⟩, ⟨none, none, .st (.agg [.str, (.int .i64), (.int .i64)]) (.s 3) (.s 11)⟩, ⟨(some 4), none, .mov (.s 12)⟩])
 (.seq (.seq (.reg [⟨(some 13), none, .mov (.s 4)⟩, ⟨(some 14), none, .un .not (.s 13)⟩])
 (.cond (.s 14)
 (.seq (.reg [⟨(some 2), none, .mov (.c (.t (.bool false)))⟩])
 .ret)
 .skip))
 (.seq (.reg [⟨(some 5), none, .mov (.c (.t (.int .i64 0)))⟩])
 (.seq (.block 0 (.seq (.reg [⟨(some 16), none, .fa 1 (.s 3)⟩, ⟨(some 17), none, .ld (.int .i64) (.s 16)⟩, ⟨(some 18), none, .bin .and (.s 17) (.c (.t (.int .i64 8)))⟩, ⟨(some 19), none, .bin .neq (.s 18) (.c (.t (.int .i64 0)))⟩, ⟨(some 15), none, .mov (.s 19)⟩])
 (.cond (.s 15)
 (.reg [⟨(some 5), none, .mov (.c (.t (.int .i64 2000)))⟩])
 (.seq (.reg [⟨(some 21), none, .fa 1 (.s 3)⟩, ⟨(some 22), none, .ld (.int .i64) (.s 21)⟩, ⟨(some 23), none, .bin .and (.s 22) (.c (.t (.int .i64 16)))⟩, ⟨(some 24), none, .bin .neq (.s 23) (.c (.t (.int .i64 0)))⟩, ⟨(some 20), none, .mov (.s 24)⟩])
 (.cond (.s 20)
 (.reg [⟨(some 5), none, .mov (.c (.t (.int .i64 7)))⟩])
 (.seq (.reg [⟨(some 26), none, .fa 1 (.s 3)⟩, ⟨(some 27), none, .ld (.int .i64) (.s 26)⟩, ⟨(some 28), none, .bin .and (.s 27) (.c (.t (.int .i64 32)))⟩, ⟨(some 29), none, .bin .neq (.s 28) (.c (.t (.int .i64 0)))⟩, ⟨(some 25), none, .mov (.s 29)⟩])
 (.cond (.s 25)
 (.reg [⟨(some 5), none, .mov (.c (.t (.int .i64 1)))⟩])
 (.seq (.reg [⟨(some 31), none, .fa 1 (.s 3)⟩, ⟨(some 32), none, .ld (.int .i64) (.s 31)⟩, ⟨(some 33), none, .bin .and (.s 32) (.c (.t (.int .i64 64)))⟩, ⟨(some 34), none, .bin .neq (.s 33) (.c (.t (.int .i64 0)))⟩, ⟨(some 30), none, .mov (.s 34)⟩])
 (.cond (.s 30)
 (.reg [⟨(some 5), none, .mov (.c (.t (.int .i64 3)))⟩])
 .skip)))))))))
 (.seq (.reg [⟨(some 6), none, .mov (.c (.t (.int .i64 0)))⟩])
 (.seq (.seq (.reg [⟨(some 35), none, .fa 1 (.s 3)⟩, ⟨(some 36), none, .ld (.int .i64) (.s 35)⟩, ⟨(some 37), none, .bin .and (.s 36) (.c (.t (.int .i64 2)))⟩, ⟨(some 38), none, .bin .neq (.s 37) (.c (.t (.int .i64 0)))⟩])
 (.cond (.s 38)
 (.reg [⟨(some 6), none, .mov (.c (.t (.int .i64 1)))⟩])
 .skip))
 (.seq (.block 1 (.seq (.reg [⟨(some 40), none, .fa 1 (.s 1)⟩, ⟨(some 41), none, .ld (.int .i64) (.s 40)⟩, ⟨(some 42), none, .bin .lss (.s 41) (.c (.t (.int .i64 0)))⟩, ⟨(some 43), none, .mov (.s 42)⟩, ⟨(some 44), (some (43, false)), .fa 1 (.s 1)⟩, ⟨(some 45), (some (43, false)), .ld (.int .i64) (.s 44)⟩, ⟨(some 46), (some (43, false)), .mov (.s 5)⟩, ⟨(some 47), (some (43, false)), .bin .gtr (.s 45) (.s 46)⟩, ⟨(some 48), none, .pick (.s 43) (.c (.t (.bool true))) (.s 47)⟩, ⟨(some 39), none, .mov (.s 48)⟩])
 (.cond (.s 39)
 (.seq (.reg [⟨(some 2), none, .mov (.c (.t (.bool false)))⟩])
 .ret)
 (.seq (.seq (.reg [⟨(some 50), none, .fa 1 (.s 3)⟩, ⟨(some 51), none, .ld (.int .i64) (.s 50)⟩, ⟨(some 52), none, .bin .and (.s 51) (.c (.t (.int .i64 4)))⟩, ⟨(some 53), none, .bin .neq (.s 52) (.c (.t (.int .i64 0)))⟩, ⟨(some 54), none, .mov (.s 53)⟩, ⟨(some 55), (some (54, true)), .fa 3 (.s 1)⟩, ⟨(some 56), (some (54, true)), .ld .slc (.s 55)⟩, ⟨(some 57), (some (54, true)), .len (.s 56)⟩, ⟨(some 58), (some (54, true)), .bin .gtr (.s 57) (.c (.t (.int .i64 8)))⟩, ⟨(some 59), none, .pick (.s 54) (.s 58) (.c (.t (.bool false)))⟩, ⟨(some 49), none, .mov (.s 59)⟩])
 (.cond (.s 49)
 .skip
 (.reg [⟨(some 60), none, .fa 1 (.s 3)⟩, ⟨(some 61), none, .ld (.int .i64) (.s 60)⟩, ⟨(some 62), none, .bin .and (.s 61) (.c (.t (.int .i64 4)))⟩, ⟨(some 63), none, .bin .eql (.s 62) (.c (.t (.int .i64 0)))⟩, ⟨(some 64), none, .mov (.s 63)⟩, ⟨(some 65), (some (64, true)), .fa 3 (.s 1)⟩, ⟨(some 66), (some (64, true)), .ld .slc (.s 65)⟩, ⟨(some 67), (some (64, true)), .len (.s 66)⟩, ⟨(some 68), (some (64, true)), .mov (.s 6)⟩, ⟨(some 69), (some (64, true)), .bin .neq (.s 67) (.s 68)⟩, ⟨(some 70), none, .pick (.s 64) (.s 69) (.c (.t (.bool false)))⟩, ⟨(some 49), none, .mov (.s 70)⟩])))
 (.cond (.s 49)
 (.seq (.reg [⟨(some 2), none, .mov (.c (.t (.bool false)))⟩])
 .ret)
 (.seq (.seq (.reg [⟨(some 72), none, .fa 1 (.s 3)⟩, ⟨(some 73), none, .ld (.int .i64) (.s 72)⟩, ⟨(some 74), none, .bin .and (.s 73) (.c (.t (.int .i64 1)))⟩, ⟨(some 75), none, .bin .neq (.s 74) (.c (.t (.int .i64 0)))⟩, ⟨(some 76), none, .mov (.s 75)⟩, ⟨(some 77), (some (76, true)), .fa 2 (.s 1)⟩, ⟨(some 78), (some (76, true)), .ld .str (.s 77)⟩, ⟨(some 79), (some (76, true)), .call false 69 .bool [(.s 78)]⟩, ⟨(some 80), (some (76, true)), .un .not (.s 79)⟩, ⟨(some 81), none, .pick (.s 76) (.s 80) (.c (.t (.bool false)))⟩, ⟨(some 71), none, .mov (.s 81)⟩])
 (.cond (.s 71)
 .skip
 (.reg [⟨(some 82), none, .fa 1 (.s 3)⟩, ⟨(some 83), none, .ld (.int .i64) (.s 82)⟩, ⟨(some 84), none, .bin .and (.s 83) (.c (.t (.int .i64 1)))⟩, ⟨(some 85), none, .bin .eql (.s 84) (.c (.t (.int .i64 0)))⟩, ⟨(some 86), none, .mov (.s 85)⟩, ⟨(some 87), (some (86, true)), .fa 2 (.s 1)⟩, ⟨(some 88), (some (86, true)), .ld .str (.s 87)⟩, ⟨(some 89), (some (86, true)), .bin .neq (.s 88) (.c (.t (.str [])))⟩, ⟨(some 90), none, .pick (.s 86) (.s 89) (.c (.t (.bool false)))⟩, ⟨(some 71), none, .mov (.s 90)⟩])))
 (.cond (.s 71)
 (.seq (.reg [⟨(some 2), none, .mov (.c (.t (.bool false)))⟩])
 .ret)
 (.seq (.seq (.reg [⟨(some 92), none, .fa 0 (.s 1)⟩, ⟨(some 93), none, .ld (.int .i64) (.s 92)⟩, ⟨(some 94), none, .bin .eql (.s 93) (.c (.t (.int .i64 28)))⟩, ⟨(some 95), none, .mov (.s 94)⟩, ⟨(some 96), (some (95, true)), .fa 4 (.s 1)⟩, ⟨(some 97), (some (95, true)), .ld .slc (.s 96)⟩, ⟨(some 98), (some (95, true)), .len (.s 97)⟩, ⟨(some 99), (some (95, true)), .bin .lss (.s 98) (.c (.t (.int .i64 3)))⟩, ⟨(some 100), (some (95, true)), .mov (.s 99)⟩, ⟨(some 101), (some (100, false)), .fa 4 (.s 1)⟩, ⟨(some 102), (some (100, false)), .ld .slc (.s 101)⟩, ⟨(some 103), (some (100, false)), .len (.s 102)⟩, ⟨(some 104), (some (100, false)), .bin .gtr (.s 103) (.c (.t (.int .i64 11)))⟩, ⟨(some 105), (some (95, true)), .pick (.s 100) (.c (.t (.bool true))) (.s 104)⟩, ⟨(some 106), none, .pick (.s 95) (.s 105) (.c (.t (.bool false)))⟩, ⟨(some 91), none, .mov (.s 106)⟩])
 (.cond (.s 91)
 .skip
 (.reg [⟨(some 107), none, .fa 0 (.s 1)⟩, ⟨(some 108), none, .ld (.int .i64) (.s 107)⟩, ⟨(some 109), none, .bin .neq (.s 108) (.c (.t (.int .i64 28)))⟩, ⟨(some 110), none, .mov (.s 109)⟩, ⟨(some 111), (some (110, true)), .fa 4 (.s 1)⟩, ⟨(some 112), (some (110, true)), .ld .slc (.s 111)⟩, ⟨(some 113), (some (110, true)), .len (.s 112)⟩, ⟨(some 114), (some (110, true)), .fa 2 (.s 3)⟩, ⟨(some 115), (some (110, true)), .ld (.int .i64) (.s 114)⟩, ⟨(some 116), (some (110, true)), .bin .neq (.s 113) (.s 115)⟩, ⟨(some 117), none, .pick (.s 110) (.s 116) (.c (.t (.bool false)))⟩, ⟨(some 91), none, .mov (.s 117)⟩])))
 (.cond (.s 91)
 (.seq (.reg [⟨(some 2), none, .mov (.c (.t (.bool false)))⟩])
 .ret)
 .skip)))))))))
 (.seq (.reg [⟨(some 118), none, .fa 3 (.s 1)⟩, ⟨(some 119), none, .ld .slc (.s 118)⟩, ⟨(some 120), none, .call false 70 .bool [(.s 119), (.f 71)]⟩, ⟨(some 121), none, .un .not (.s 120)⟩, ⟨(some 2), none, .mov (.s 121)⟩])
 .ret))))))))),
 [.slot 2]⟩
theorem ok44 : compF Tryz.prog 44 [] (Cfg.mk [] [] [] [] []) = some ir44 := by kernel_rfl

/-- tenet/term.Form$1 -/
def ir45 : FInfo := ⟨6,
 (.seq (.reg [⟨(some 1), none, .box (.agg [(.int .i64), (.int .i64), .str, .slc, .slc]) (.s 0)⟩, ⟨(some 2), none, .mov (.c (.t (.bool false)))⟩])
 (.seq (.reg [⟨(some 3), none, .ld (.agg [(.int .i64), (.int .i64), .str, .slc, .slc]) (.s 1)⟩, ⟨(some 4), none, .call false 30 .bool [(.s 3)]⟩, ⟨(some 5), none, .un .not (.s 4)⟩, ⟨(some 2), none, .mov (.s 5)⟩])
 .ret)),
 [.slot 2]⟩
theorem ok45 : compF Tryz.prog 45 [] (Cfg.mk [] [] [] [] []) = some ir45 := by kernel_rfl

/-- tenet/term.mapped$1 -/
def ir46 : FInfo := ⟨43,
 (.seq (.reg [⟨(some 4), none, .box (.agg [(.int .i64), (.int .i64), .str, .slc, .slc]) (.s 0)⟩, ⟨(some 6), none, .new (.agg [(.int .i64), (.int .i64), .str, .slc, .slc]) (.agg [(.t (.int .i64 0)), (.t (.int .i64 0)), (.t (.str [])), .nilS, .nilS])⟩])
 (.seq (.reg [⟨(some 10), none, .fa 3 (.s 4)⟩, ⟨(some 11), none, .ld .slc (.s 10)⟩, ⟨(some 12), none, .call false 47 .slc [(.s 11)]⟩, ⟨(some 13), none, .fa 3 (.s 4)⟩, ⟨none, none, .st .slc (.s 13) (.s 12)⟩])
 (.seq (.reg [⟨(some 7), none, .mov (.c .nilS)⟩])
 (.seq (.seq (.reg [⟨(some 14), none, .fa 4 (.s 4)⟩, ⟨(some 15), none, .ld .slc (.s 14)⟩, ⟨(some 16), none, .len (.s 15)⟩, ⟨(some 17), none, .mov (.c (.t (.int .i64 0)))⟩])
 (.block 0 (.loop [1, 2, 3, 4, 6, 7, 15, 16, 17] (.seq (.reg [⟨(some 18), none, .bin .lss (.s 17) (.s 16)⟩])
 (.seq (.cond (.s 18)
 .skip
 (.exit 0))
 (.seq (.block 1 (.seq (.reg [⟨(some 19), none, .mov (.s 17)⟩, ⟨(some 20), none, .ia (.agg [(.int .i64), (.int .i64), .str, .slc, .slc]) (.s 15) (.s 17)⟩, ⟨(some 21), none, .ld (.agg [(.int .i64), (.int .i64), .str, .slc, .slc]) (.s 20)⟩, ⟨(some 9), none, .new (.agg [(.int .i64), (.int .i64), .str, .slc, .slc]) (.agg [(.t (.int .i64 0)), (.t (.int .i64 0)), (.t (.str [])), .nilS, .nilS])⟩, ⟨(some 8), none, .mov (.s 19)⟩, ⟨none, none, .st (.agg [(.int .i64), (.int .i64), .str, .slc, .slc]) (.s 9) (.s 21)⟩])
 (.dreg [⟨(some 22), none, .mov (.s 7)⟩, ⟨(some 23), none, .ld .any (.s 2)⟩, ⟨(some 24), none, .ld (.agg [(.int .i64), (.int .i64), .str, .slc, .slc]) (.s 9)⟩, ⟨(some 25), none, .mov (.s 1)⟩, ⟨(some 26), none, .ld (.agg [(.int .i64), (.int .i64), .str, .slc, .slc]) (.s 4)⟩, ⟨(some 27), none, .mov (.s 8)⟩, ⟨(some 28), none, .call false 48 (.int .i64) [(.s 26), (.s 27)]⟩, ⟨(some 29), none, .bin .add (.s 25) (.s 28)⟩, ⟨(some 30), none, .callvw (.s 23) (.agg [(.int .i64), (.int .i64), .str, .slc, .slc]) [(.s 24), (.s 29)]⟩, ⟨(some 31), none, .bsl (.agg [(.int .i64), (.int .i64), .str, .slc, .slc]) (.agg [(.t (.int .i64 0)), (.t (.int .i64 0)), (.t (.str [])), .nilS, .nilS]) 1 [(0, (.s 30))]⟩, ⟨(some 32), none, .app (.agg [(.int .i64), (.int .i64), .str, .slc, .slc]) 80 (.s 22) (.s 31)⟩, ⟨(some 7), none, .mov (.s 32)⟩] [0, 0, 0, 0, 0, 0, 48, 120, 254, 510, 1023, 2047])))
 (.reg [⟨(some 33), none, .bin .add (.s 17) (.c (.t (.int .i64 1)))⟩, ⟨(some 17), none, .mov (.s 33)⟩])))))))
 (.seq (.reg [⟨(some 34), none, .mov (.s 7)⟩, ⟨(some 35), none, .fa 4 (.s 4)⟩, ⟨none, none, .st .slc (.s 35) (.s 34)⟩])
 (.seq (.seq (.reg [⟨(some 36), none, .ld (.agg [(.int .i64), (.int .i64), .str, .slc, .slc]) (.s 4)⟩, ⟨(some 37), none, .call false 49 .bool [(.s 36)]⟩])
 (.cond (.s 37)
 (.seq (.reg [⟨(some 38), none, .ld .any (.s 3)⟩, ⟨(some 39), none, .ld (.agg [(.int .i64), (.int .i64), .str, .slc, .slc]) (.s 4)⟩, ⟨(some 40), none, .mov (.s 1)⟩, ⟨(some 41), none, .callvw (.s 38) (.agg [(.int .i64), (.int .i64), .str, .slc, .slc]) [(.s 39), (.s 40)]⟩, ⟨none, none, .st (.agg [(.int .i64), (.int .i64), .str, .slc, .slc]) (.s 6) (.s 41)⟩])
 .ret)
 .skip))
 (.seq (.reg [⟨(some 42), none, .ld (.agg [(.int .i64), (.int .i64), .str, .slc, .slc]) (.s 4)⟩, ⟨none, none, .st (.agg [(.int .i64), (.int .i64), .str, .slc, .slc]) (.s 6) (.s 42)⟩])
 .ret))))))),
 [.cell 6 (.agg [(.int .i64), (.int .i64), .str, .slc, .slc])]⟩
theorem ok46 : compF Tryz.prog 46 [[1, 2, 3, 4, 6, 7, 15, 16, 17]] (Cfg.mk [] [] [30, 41] [] []) = some ir46 := by kernel_rfl

/-- tenet/term.copied -/
def ir47 : FInfo := ⟨27,
 (.seq (.reg [⟨(some 2), none, .mov (.c .nilS)⟩])
 (.seq (.seq (.reg [⟨(some 5), none, .mov (.s 0)⟩, ⟨(some 6), none, .len (.s 5)⟩, ⟨(some 7), none, .bin .eql (.s 6) (.c (.t (.int .i64 0)))⟩])
 (.cond (.s 7)
 (.seq (.reg [⟨(some 2), none, .mov (.c .nilS)⟩])
 .ret)
 .skip))
 (.seq (.reg [⟨(some 8), none, .mov (.s 0)⟩, ⟨(some 9), none, .clone (.agg [(.int .i64), .slc]) 32 (.s 8)⟩, ⟨(some 3), none, .mov (.s 9)⟩])
 (.seq (.seq (.reg [⟨(some 10), none, .mov (.s 3)⟩, ⟨(some 11), none, .len (.s 10)⟩, ⟨(some 12), none, .mov (.c (.t (.int .i64 0)))⟩])
 (.block 0 (.loop [3, 11, 12] (.seq (.reg [⟨(some 13), none, .bin .lss (.s 12) (.s 11)⟩])
 (.seq (.cond (.s 13)
 .skip
 (.exit 0))
 (.seq (.block 1 (.seq (.reg [⟨(some 14), none, .mov (.s 12)⟩, ⟨(some 4), none, .mov (.s 14)⟩])
 (.reg [⟨(some 15), none, .mov (.s 3)⟩, ⟨(some 16), none, .mov (.s 4)⟩, ⟨(some 17), none, .mov (.s 3)⟩, ⟨(some 18), none, .mov (.s 4)⟩, ⟨(some 19), none, .ia (.agg [(.int .i64), .slc]) (.s 17) (.s 18)⟩, ⟨(some 20), none, .fa 1 (.s 19)⟩, ⟨(some 21), none, .ld .slc (.s 20)⟩, ⟨(some 22), none, .clone (.agg [(.int .i64), (.int .i64)]) 16 (.s 21)⟩, ⟨(some 23), none, .ia (.agg [(.int .i64), .slc]) (.s 15) (.s 16)⟩, ⟨(some 24), none, .fa 1 (.s 23)⟩, ⟨none, none, .st .slc (.s 24) (.s 22)⟩])))
 (.reg [⟨(some 25), none, .bin .add (.s 12) (.c (.t (.int .i64 1)))⟩, ⟨(some 12), none, .mov (.s 25)⟩])))))))
 (.seq (.reg [⟨(some 26), none, .mov (.s 3)⟩, ⟨(some 2), none, .mov (.s 26)⟩])
 .ret))))),
 [.slot 2]⟩
theorem ok47 : compF Tryz.prog 47 [[3, 11, 12]] (Cfg.mk [] [] [] [] []) = some ir47 := by kernel_rfl

/-- tenet/term.Binds -/
def ir48 : FInfo := ⟨48,
 (.seq (.reg [⟨(some 2), none, .box (.agg [(.int .i64), (.int .i64), .str, .slc, .slc]) (.s 0)⟩, ⟨(some 4), none, .mov (.c (.t (.int .i64 0)))⟩])
 (.seq (.seq (.reg [⟨(some 5), none, .mov (.s 1)⟩, ⟨(some 6), none, .bin .lss (.s 5) (.c (.t (.int .i64 0)))⟩, ⟨(some 7), none, .mov (.s 6)⟩, ⟨(some 8), (some (7, false)), .mov (.s 1)⟩, ⟨(some 9), (some (7, false)), .fa 4 (.s 2)⟩, ⟨(some 10), (some (7, false)), .ld .slc (.s 9)⟩, ⟨(some 11), (some (7, false)), .len (.s 10)⟩, ⟨(some 12), (some (7, false)), .bin .geq (.s 8) (.s 11)⟩, ⟨(some 13), none, .pick (.s 7) (.c (.t (.bool true))) (.s 12)⟩])
 (.cond (.s 13)
 (.seq (.reg [⟨(some 4), none, .mov (.c (.t (.int .i64 0)))⟩])
 .ret)
 .skip))
 (.seq (.seq (.reg [⟨(some 14), none, .fa 0 (.s 2)⟩, ⟨(some 15), none, .ld (.int .i64) (.s 14)⟩])
 (.block 0 (.seq (.seq (.reg [⟨(some 17), none, .bin .eql (.s 15) (.c (.t (.int .i64 5)))⟩, ⟨(some 16), none, .mov (.s 17)⟩])
 (.cond (.s 16)
 .skip
 (.seq (.reg [⟨(some 18), none, .bin .eql (.s 15) (.c (.t (.int .i64 6)))⟩, ⟨(some 16), none, .mov (.s 18)⟩])
 (.cond (.s 16)
 .skip
 (.seq (.reg [⟨(some 19), none, .bin .eql (.s 15) (.c (.t (.int .i64 8)))⟩, ⟨(some 16), none, .mov (.s 19)⟩])
 (.cond (.s 16)
 .skip
 (.seq (.reg [⟨(some 20), none, .bin .eql (.s 15) (.c (.t (.int .i64 9)))⟩, ⟨(some 16), none, .mov (.s 20)⟩])
 (.cond (.s 16)
 .skip
 (.reg [⟨(some 21), none, .bin .eql (.s 15) (.c (.t (.int .i64 20)))⟩, ⟨(some 16), none, .mov (.s 21)⟩])))))))))
 (.cond (.s 16)
 (.seq (.reg [⟨(some 22), none, .mov (.s 1)⟩, ⟨(some 23), none, .bin .eql (.s 22) (.c (.t (.int .i64 1)))⟩])
 (.cond (.s 23)
 (.seq (.reg [⟨(some 4), none, .mov (.c (.t (.int .i64 1)))⟩])
 .ret)
 .skip))
 (.seq (.reg [⟨(some 25), none, .bin .eql (.s 15) (.c (.t (.int .i64 23)))⟩, ⟨(some 24), none, .mov (.s 25)⟩])
 (.cond (.s 24)
 (.seq (.reg [⟨(some 26), none, .mov (.s 1)⟩, ⟨(some 27), none, .bin .eql (.s 26) (.c (.t (.int .i64 1)))⟩])
 (.cond (.s 27)
 (.seq (.reg [⟨(some 4), none, .mov (.c (.t (.int .i64 2)))⟩])
 .ret)
 .skip))
 (.seq (.reg [⟨(some 29), none, .bin .eql (.s 15) (.c (.t (.int .i64 25)))⟩, ⟨(some 28), none, .mov (.s 29)⟩])
 (.cond (.s 28)
 (.seq (.reg [⟨(some 30), none, .mov (.s 1)⟩, ⟨(some 31), none, .bin .eql (.s 30) (.c (.t (.int .i64 1)))⟩, ⟨(some 32), none, .mov (.s 31)⟩, ⟨(some 33), (some (32, false)), .mov (.s 1)⟩, ⟨(some 34), (some (32, false)), .bin .eql (.s 33) (.c (.t (.int .i64 2)))⟩, ⟨(some 35), none, .pick (.s 32) (.c (.t (.bool true))) (.s 34)⟩])
 (.cond (.s 35)
 (.seq (.reg [⟨(some 4), none, .mov (.c (.t (.int .i64 1)))⟩])
 .ret)
 .skip))
 (.seq (.reg [⟨(some 37), none, .bin .eql (.s 15) (.c (.t (.int .i64 28)))⟩, ⟨(some 36), none, .mov (.s 37)⟩])
 (.cond (.s 36)
 (.block 1 (.seq (.reg [⟨(some 39), none, .mov (.s 1)⟩, ⟨(some 40), none, .bin .eql (.s 39) (.c (.t (.int .i64 0)))⟩, ⟨(some 38), none, .mov (.s 40)⟩])
 (.cond (.s 38)
 (.seq (.reg [⟨(some 4), none, .mov (.c (.t (.int .i64 2)))⟩])
 .ret)
 (.seq (.reg [⟨(some 42), none, .mov (.s 1)⟩, ⟨(some 43), none, .fa 4 (.s 2)⟩, ⟨(some 44), none, .ld .slc (.s 43)⟩, ⟨(some 45), none, .len (.s 44)⟩, ⟨(some 46), none, .bin .sub (.s 45) (.c (.t (.int .i64 2)))⟩, ⟨(some 47), none, .bin .lss (.s 42) (.s 46)⟩, ⟨(some 41), none, .mov (.s 47)⟩])
 (.cond (.s 41)
 (.seq (.reg [⟨(some 4), none, .mov (.c (.t (.int .i64 3)))⟩])
 .ret)
 .skip)))))
 .skip))))))))))
 (.seq (.reg [⟨(some 4), none, .mov (.c (.t (.int .i64 0)))⟩])
 .ret)))),
 [.slot 4]⟩
theorem ok48 : compF Tryz.prog 48 [] (Cfg.mk [] [] [] [] []) = some ir48 := by kernel_rfl

/-- tenet/term.variable -/
def ir49 : FInfo := ⟨16,
 (.seq (.reg [⟨(some 1), none, .box (.agg [(.int .i64), (.int .i64), .str, .slc, .slc]) (.s 0)⟩, ⟨(some 2), none, .mov (.c (.t (.bool false)))⟩])
 (.seq (.reg [⟨(some 3), none, .fa 0 (.s 1)⟩, ⟨(some 4), none, .ld (.int .i64) (.s 3)⟩, ⟨(some 5), none, .bin .eql (.s 4) (.c (.t (.int .i64 1)))⟩, ⟨(some 6), none, .mov (.s 5)⟩, ⟨(some 7), (some (6, true)), .fa 1 (.s 1)⟩, ⟨(some 8), (some (6, true)), .ld (.int .i64) (.s 7)⟩, ⟨(some 9), (some (6, true)), .bin .geq (.s 8) (.c (.t (.int .i64 0)))⟩, ⟨(some 10), none, .pick (.s 6) (.s 9) (.c (.t (.bool false)))⟩, ⟨(some 11), none, .mov (.s 10)⟩, ⟨(some 12), (some (11, true)), .fa 1 (.s 1)⟩, ⟨(some 13), (some (11, true)), .ld (.int .i64) (.s 12)⟩, ⟨(some 14), (some (11, true)), .bin .leq (.s 13) (.c (.t (.int .i64 2147483648)))⟩, ⟨(some 15), none, .pick (.s 11) (.s 14) (.c (.t (.bool false)))⟩, ⟨(some 2), none, .mov (.s 15)⟩])
 .ret)),
 [.slot 2]⟩
theorem ok49 : compF Tryz.prog 49 [] (Cfg.mk [] [] [] [] []) = some ir49 := by kernel_rfl

/-- errors.As -/
def ir50 : FInfo := ⟨42,
 (.seq (.reg [⟨(some 4), none, .mov (.c (.t (.bool false)))⟩])
 (.seq (.seq (.reg [⟨(some 8), none, .mov (.s 0)⟩, ⟨(some 9), none, .eqs false .ifc (.s 8) (.c (.t .nili))⟩])
 (.cond (.s 9)
 (.seq (.reg [⟨(some 4), none, .mov (.c (.t (.bool false)))⟩])
 .ret)
 .skip))
 (.seq (.seq (.reg [⟨(some 10), none, .mov (.s 1)⟩, ⟨(some 11), none, .eqs false .ifc (.s 10) (.c (.t .nili))⟩])
 (.cond (.s 11)
 (.reg [⟨(some 12), none, .mki 9 (.c (.t (.str [101, 114, 114, 111, 114, 115, 58, 32, 116, 97, 114, 103, 101, 116, 32, 99, 97, 110, 110, 111, 116, 32, 98, 101, 32, 110, 105, 108])))⟩, ⟨none, none, .pan (.s 12)⟩])
 .skip))
 (.seq (.reg [⟨(some 13), none, .mov (.s 1)⟩, ⟨(some 14), none, .fail⟩, ⟨(some 5), none, .new (.agg [.any, .any, (.int .u64)]) (.t (.agg [.nilp, .nilp, (.int .u64 0)]))⟩, ⟨none, none, .st (.agg [.any, .any, (.int .u64)]) (.s 5) (.s 14)⟩])
 (.seq (.reg [⟨(some 15), none, .ld (.agg [.any, .any, (.int .u64)]) (.s 5)⟩, ⟨(some 16), none, .fail⟩, ⟨(some 6), none, .mov (.s 16)⟩])
 (.seq (.seq (.reg [⟨(some 17), none, .mov (.s 6)⟩, ⟨(some 18), none, .fail⟩, ⟨(some 19), none, .bin .neq (.s 18) (.c (.t (.int .u8 22)))⟩, ⟨(some 20), none, .mov (.s 19)⟩, ⟨(some 21), (some (20, false)), .ld (.agg [.any, .any, (.int .u64)]) (.s 5)⟩, ⟨(some 22), (some (20, false)), .fail⟩, ⟨(some 23), none, .pick (.s 20) (.c (.t (.bool true))) (.s 22)⟩])
 (.cond (.s 23)
 (.reg [⟨(some 24), none, .mki 9 (.c (.t (.str [101, 114, 114, 111, 114, 115, 58, 32, 116, 97, 114, 103, 101, 116, 32, 109, 117, 115, 116, 32, 98, 101, 32, 97, 32, 110, 111, 110, 45, 110, 105, 108, 32, 112, 111, 105, 110, 116, 101, 114])))⟩, ⟨none, none, .pan (.s 24)⟩])
 .skip))
 (.seq (.reg [⟨(some 25), none, .mov (.s 6)⟩, ⟨(some 26), none, .fail⟩, ⟨(some 7), none, .mov (.s 26)⟩])
 (.seq (.seq (.reg [⟨(some 27), none, .mov (.s 7)⟩, ⟨(some 28), none, .fail⟩, ⟨(some 29), none, .bin .neq (.s 28) (.c (.t (.int .u8 20)))⟩, ⟨(some 30), none, .mov (.s 29)⟩, ⟨(some 31), (some (30, true)), .mov (.s 7)⟩, ⟨(some 32), (some (30, true)), .fail⟩, ⟨(some 33), (some (30, true)), .fail⟩, ⟨(some 34), (some (30, true)), .un .not (.s 33)⟩, ⟨(some 35), none, .pick (.s 30) (.s 34) (.c (.t (.bool false)))⟩])
 (.cond (.s 35)
 (.reg [⟨(some 36), none, .mki 9 (.c (.t (.str [101, 114, 114, 111, 114, 115, 58, 32, 42, 116, 97, 114, 103, 101, 116, 32, 109, 117, 115, 116, 32, 98, 101, 32, 105, 110, 116, 101, 114, 102, 97, 99, 101, 32, 111, 114, 32, 105, 109, 112, 108, 101, 109, 101, 110, 116, 32, 101, 114, 114, 111, 114])))⟩, ⟨none, none, .pan (.s 36)⟩])
 .skip))
 (.seq (.reg [⟨(some 37), none, .mov (.s 0)⟩, ⟨(some 38), none, .mov (.s 1)⟩, ⟨(some 39), none, .ld (.agg [.any, .any, (.int .u64)]) (.s 5)⟩, ⟨(some 40), none, .mov (.s 7)⟩, ⟨(some 41), none, .call false 78 .bool [(.s 37), (.s 38), (.s 39), (.s 40)]⟩, ⟨(some 4), none, .mov (.s 41)⟩])
 .ret))))))))),
 [.slot 4]⟩
theorem ok50 : compF Tryz.prog 50 [] (Cfg.mk [] [] [] [] []) = some ir50 := by kernel_rfl

/-- (*tenet/cert.follower).rule$1 -/
def ir53 : FInfo := ⟨19,
 (.seq (.reg [⟨(some 7), none, .box (.agg [(.int .i64), (.int .i64), .str, .slc, .slc]) (.s 1)⟩])
 (.dreg [⟨(some 8), none, .ld .any (.s 2)⟩, ⟨(some 9), none, .ld .slc (.s 3)⟩, ⟨(some 10), none, .fa 4 (.s 4)⟩, ⟨(some 11), none, .ld .slc (.s 10)⟩, ⟨(some 12), none, .mov (.s 0)⟩, ⟨(some 13), none, .ia (.agg [(.int .i64), (.int .i64), .str, .slc, .slc]) (.s 11) (.s 12)⟩, ⟨(some 14), none, .ld (.agg [(.int .i64), (.int .i64), .str, .slc, .slc]) (.s 13)⟩, ⟨(some 15), none, .ld (.agg [(.int .i64), (.int .i64), .str, .slc, .slc]) (.s 7)⟩, ⟨(some 16), none, .ld .wp (.s 5)⟩, ⟨(some 17), none, .callw 55 .any [(.s 16)]⟩, ⟨(some 18), none, .call false 54 (.tup []) [(.s 8), (.s 9), (.s 14), (.s 15), (.s 17)]⟩] [0, 0, 0, 4, 0, 28, 60, 0, 0, 256, 1023])),
 []⟩
theorem ok53 : compF Tryz.prog 53 [] (Cfg.mk [] [91] [17] [] []) = some ir53 := by kernel_rfl

/-- (*tenet/cert.follower).has -/
def ir54 : FInfo := ⟨90,
 (.seq (.reg [⟨(some 7), none, .box (.agg [(.int .i64), (.int .i64), .str, .slc, .slc]) (.s 2)⟩, ⟨(some 8), none, .box (.agg [(.int .i64), (.int .i64), .str, .slc, .slc]) (.s 3)⟩])
 (.seq (.reg [⟨(some 13), none, .mov (.s 4)⟩, ⟨(some 14), none, .eqs true .wptr (.s 13) (.c (.t .nilp))⟩, ⟨(some 15), none, .mov (.s 14)⟩, ⟨(some 16), (some (15, true)), .mov (.s 4)⟩, ⟨(some 17), (some (15, true)), .nonnil (.s 16)⟩, ⟨(some 18), (some (15, true)), .fa 2 (.s 17)⟩, ⟨(some 19), (some (15, true)), .ld .slc (.s 18)⟩, ⟨(some 20), (some (15, true)), .len (.s 19)⟩, ⟨(some 21), (some (15, true)), .bin .gtr (.s 20) (.c (.t (.int .i64 0)))⟩, ⟨(some 22), none, .pick (.s 15) (.s 21) (.c (.t (.bool false)))⟩, ⟨(some 23), none, .call false 37 (.tup []) [(.s 22)]⟩])
 (.seq (.dreg [⟨(some 24), none, .mov (.s 0)⟩, ⟨(some 25), none, .mov (.s 1)⟩, ⟨(some 26), none, .ld (.agg [(.int .i64), (.int .i64), .str, .slc, .slc]) (.s 7)⟩, ⟨(some 27), none, .mov (.s 4)⟩, ⟨(some 28), none, .nonnil (.s 27)⟩, ⟨(some 29), none, .fa 2 (.s 28)⟩, ⟨(some 30), none, .ld .slc (.s 29)⟩, ⟨(some 31), none, .ia (.agg [(.int .i64), .slc, .slc]) (.s 30) (.c (.t (.int .i64 0)))⟩, ⟨(some 32), none, .call false 28 (.agg [(.int .i64), (.int .i64), .str, .slc, .slc]) [(.s 24), (.s 25), (.s 26), (.s 31)]⟩, ⟨(some 10), none, .new (.agg [(.int .i64), (.int .i64), .str, .slc, .slc]) (.agg [(.t (.int .i64 0)), (.t (.int .i64 0)), (.t (.str [])), .nilS, .nilS])⟩, ⟨none, none, .st (.agg [(.int .i64), (.int .i64), .str, .slc, .slc]) (.s 10) (.s 32)⟩] [0, 0, 0, 0, 8, 24, 56, 120, 255, 0, 1023])
 (.seq (.seq (.reg [⟨(some 33), none, .mov (.s 4)⟩, ⟨(some 34), none, .nonnil (.s 33)⟩, ⟨(some 35), none, .fa 0 (.s 34)⟩, ⟨(some 36), none, .ld (.int .i64) (.s 35)⟩, ⟨(some 37), none, .bin .eql (.s 36) (.c (.t (.int .i64 5)))⟩])
 (.cond (.s 37)
 (.seq (.reg [⟨(some 38), none, .mov (.s 4)⟩, ⟨(some 39), none, .call false 84 (.tup []) [(.s 38), (.c (.t (.int .i64 5))), (.c (.t (.int .i64 2))), (.c (.t (.int .i64 1)))]⟩])
 (.seq (.dreg [⟨(some 40), none, .mov (.s 0)⟩, ⟨(some 41), none, .ld (.agg [(.int .i64), (.int .i64), .str, .slc, .slc]) (.s 10)⟩, ⟨(some 42), none, .mov (.s 4)⟩, ⟨(some 43), none, .nonnil (.s 42)⟩, ⟨(some 44), none, .fa 1 (.s 43)⟩, ⟨(some 45), none, .ld .slc (.s 44)⟩, ⟨(some 46), none, .ia (.int .i64) (.s 45) (.c (.t (.int .i64 0)))⟩, ⟨(some 47), none, .ld (.int .i64) (.s 46)⟩, ⟨(some 48), none, .call false 85 (.agg [(.int .i64), (.int .i64), .str, .slc, .slc]) [(.s 40), (.s 41), (.s 47)]⟩, ⟨(some 49), none, .mov (.s 0)⟩, ⟨(some 50), none, .ld (.agg [(.int .i64), (.int .i64), .str, .slc, .slc]) (.s 8)⟩, ⟨(some 51), none, .mov (.s 4)⟩, ⟨(some 52), none, .nonnil (.s 51)⟩, ⟨(some 53), none, .fa 1 (.s 52)⟩, ⟨(some 54), none, .ld .slc (.s 53)⟩, ⟨(some 55), none, .ia (.int .i64) (.s 54) (.c (.t (.int .i64 1)))⟩, ⟨(some 56), none, .ld (.int .i64) (.s 55)⟩, ⟨(some 57), none, .call false 85 (.agg [(.int .i64), (.int .i64), .str, .slc, .slc]) [(.s 49), (.s 50), (.s 56)]⟩, ⟨(some 11), none, .new (.agg [(.int .i64), (.int .i64), .str, .slc, .slc]) (.agg [(.t (.int .i64 0)), (.t (.int .i64 0)), (.t (.str [])), .nilS, .nilS])⟩, ⟨(some 12), none, .new (.agg [(.int .i64), (.int .i64), .str, .slc, .slc]) (.agg [(.t (.int .i64 0)), (.t (.int .i64 0)), (.t (.str [])), .nilS, .nilS])⟩, ⟨none, none, .st (.agg [(.int .i64), (.int .i64), .str, .slc, .slc]) (.s 11) (.s 48)⟩, ⟨none, none, .st (.agg [(.int .i64), (.int .i64), .str, .slc, .slc]) (.s 12) (.s 57)⟩] [0, 0, 0, 4, 12, 28, 60, 124, 255, 0, 0, 0, 2048, 6144, 14336, 30720, 63488, 131071, 0, 0, 1048575, 2097151])
 (.seq (.dreg [⟨(some 58), none, .fa 0 (.s 11)⟩, ⟨(some 59), none, .ld (.int .i64) (.s 58)⟩, ⟨(some 60), none, .bin .eql (.s 59) (.c (.t (.int .i64 3)))⟩, ⟨(some 61), none, .mov (.s 60)⟩, ⟨(some 62), (some (61, true)), .fa 0 (.s 12)⟩, ⟨(some 63), (some (61, true)), .ld (.int .i64) (.s 62)⟩, ⟨(some 64), (some (61, true)), .bin .eql (.s 63) (.c (.t (.int .i64 3)))⟩, ⟨(some 65), none, .pick (.s 61) (.s 64) (.c (.t (.bool false)))⟩, ⟨(some 66), none, .mov (.s 65)⟩, ⟨(some 67), (some (66, true)), .fa 3 (.s 11)⟩, ⟨(some 68), (some (66, true)), .ld .slc (.s 67)⟩, ⟨(some 69), (some (66, true)), .ia (.agg [(.int .i64), .slc]) (.s 68) (.c (.t (.int .i64 0)))⟩, ⟨(some 70), (some (66, true)), .ld (.agg [(.int .i64), .slc]) (.s 69)⟩, ⟨(some 71), (some (66, true)), .fa 3 (.s 12)⟩, ⟨(some 72), (some (66, true)), .ld .slc (.s 71)⟩, ⟨(some 73), (some (66, true)), .ia (.agg [(.int .i64), .slc]) (.s 72) (.c (.t (.int .i64 0)))⟩, ⟨(some 74), (some (66, true)), .ld (.agg [(.int .i64), .slc]) (.s 73)⟩, ⟨(some 75), (some (66, true)), .call false 86 .bool [(.s 70), (.s 74)]⟩, ⟨(some 76), none, .pick (.s 66) (.s 75) (.c (.t (.bool false)))⟩, ⟨(some 77), none, .call false 37 (.tup []) [(.s 76)]⟩] [0, 1, 3, 7, 15, 31, 63, 127, 255, 511, 1023, 2047, 4095, 511, 8703, 25087, 57855, 131071, 262143, 524287])
 .ret)))
 .skip))
 (.seq (.reg [⟨(some 78), none, .mov (.s 4)⟩, ⟨(some 79), none, .call false 84 (.tup []) [(.s 78), (.c (.t (.int .i64 4))), (.c (.t (.int .i64 0))), (.c (.t (.int .i64 2)))]⟩])
 (.dreg [⟨(some 80), none, .mov (.s 0)⟩, ⟨(some 81), none, .mov (.s 1)⟩, ⟨(some 82), none, .ld (.agg [(.int .i64), (.int .i64), .str, .slc, .slc]) (.s 10)⟩, ⟨(some 83), none, .ld (.agg [(.int .i64), (.int .i64), .str, .slc, .slc]) (.s 8)⟩, ⟨(some 84), none, .mov (.s 4)⟩, ⟨(some 85), none, .nonnil (.s 84)⟩, ⟨(some 86), none, .fa 2 (.s 85)⟩, ⟨(some 87), none, .ld .slc (.s 86)⟩, ⟨(some 88), none, .ia (.agg [(.int .i64), .slc, .slc]) (.s 87) (.c (.t (.int .i64 1)))⟩, ⟨(some 89), none, .call false 87 (.tup []) [(.s 80), (.s 81), (.s 82), (.s 83), (.s 88)]⟩] [0, 0, 0, 0, 0, 16, 48, 112, 240, 511])))))),
 []⟩
theorem ok54 : compF Tryz.prog 54 [] (Cfg.mk [] [] [] [] []) = some ir54 := by kernel_rfl

/-- (*tenet/cert.reader).take -/
def ir55 : FInfo := ⟨31,
 (.seq (.reg [⟨(some 2), none, .mov (.c (.t .nilp))⟩])
 (.seq (.seq (.dreg [⟨(some 3), none, .mov (.s 0)⟩, ⟨(some 4), none, .nonnil (.s 3)⟩, ⟨(some 5), none, .fa 1 (.s 4)⟩, ⟨(some 6), none, .ld (.int .i64) (.s 5)⟩, ⟨(some 7), none, .mov (.s 0)⟩, ⟨(some 8), none, .nonnil (.s 7)⟩, ⟨(some 9), none, .fa 0 (.s 8)⟩, ⟨(some 10), none, .ld .slc (.s 9)⟩, ⟨(some 11), none, .len (.s 10)⟩, ⟨(some 12), none, .bin .geq (.s 6) (.s 11)⟩] [0, 1, 3, 7, 0, 16, 48, 112, 240, 511])
 (.cond (.s 12)
 (.seq (.reg [⟨(some 2), none, .mov (.c (.t .nilp))⟩])
 .ret)
 .skip))
 (.seq (.reg [⟨(some 13), none, .mov (.s 0)⟩, ⟨(some 14), none, .nonnil (.s 13)⟩, ⟨(some 15), none, .fa 1 (.s 14)⟩, ⟨(some 16), none, .ld (.int .i64) (.s 15)⟩, ⟨(some 17), none, .bin .add (.s 16) (.c (.t (.int .i64 1)))⟩, ⟨(some 18), none, .nonnil (.s 13)⟩, ⟨(some 19), none, .fa 1 (.s 18)⟩, ⟨none, none, .st (.int .i64) (.s 19) (.s 17)⟩])
 (.seq (.dreg [⟨(some 20), none, .mov (.s 0)⟩, ⟨(some 21), none, .nonnil (.s 20)⟩, ⟨(some 22), none, .fa 0 (.s 21)⟩, ⟨(some 23), none, .ld .slc (.s 22)⟩, ⟨(some 24), none, .mov (.s 0)⟩, ⟨(some 25), none, .nonnil (.s 24)⟩, ⟨(some 26), none, .fa 1 (.s 25)⟩, ⟨(some 27), none, .ld (.int .i64) (.s 26)⟩, ⟨(some 28), none, .bin .sub (.s 27) (.c (.t (.int .i64 1)))⟩, ⟨(some 29), none, .ia .any (.s 23) (.s 28)⟩, ⟨(some 30), none, .ld .any (.s 29)⟩, ⟨(some 2), none, .mov (.s 30)⟩] [0, 1, 3, 7, 0, 16, 48, 112, 240, 511, 1023, 2047])
 .ret)))),
 [.slot 2]⟩
theorem ok55 : compF Tryz.prog 55 [] (Cfg.mk [] [91] [] [] []) = some ir55 := by kernel_rfl

/-- tenet/conv.Lookup -/
def ir56 : FInfo := ⟨31,
 (.seq (.reg [⟨(some 4), none, .new (.agg [(.int .i64), (.int .i64), .str, .slc, .slc, .bool]) (.agg [(.t (.int .i64 0)), (.t (.int .i64 0)), (.t (.str [])), .nilS, .nilS, (.t (.bool false))])⟩, ⟨(some 5), none, .mov (.c (.t (.int .i64 0)))⟩])
 (.seq (.seq (.reg [⟨(some 7), none, .mov (.s 1)⟩, ⟨(some 8), none, .bin .lss (.s 7) (.c (.t (.int .i64 0)))⟩, ⟨(some 9), none, .mov (.s 8)⟩, ⟨(some 10), (some (9, false)), .mov (.s 1)⟩, ⟨(some 11), (some (9, false)), .mov (.s 0)⟩, ⟨(some 12), (some (9, false)), .len (.s 11)⟩, ⟨(some 13), (some (9, false)), .bin .geq (.s 10) (.s 12)⟩, ⟨(some 14), none, .pick (.s 9) (.c (.t (.bool true))) (.s 13)⟩])
 (.cond (.s 14)
 (.seq (.reg [⟨(some 15), none, .build [(.t (.int .i64 0)), (.t (.int .i64 0)), (.t (.str [])), .nilS, .nilS, (.t (.bool false))] []⟩, ⟨none, none, .st (.agg [(.int .i64), (.int .i64), .str, .slc, .slc, .bool]) (.s 4) (.s 15)⟩, ⟨(some 5), none, .mov (.c (.t (.int .i64 1)))⟩])
 .ret)
 .skip))
 (.seq (.reg [⟨(some 16), none, .mov (.s 0)⟩, ⟨(some 17), none, .mov (.s 0)⟩, ⟨(some 18), none, .len (.s 17)⟩, ⟨(some 19), none, .bin .sub (.s 18) (.c (.t (.int .i64 1)))⟩, ⟨(some 20), none, .mov (.s 1)⟩, ⟨(some 21), none, .bin .sub (.s 19) (.s 20)⟩, ⟨(some 22), none, .ia (.agg [(.int .i64), (.int .i64), .str, .slc, .slc, .bool]) (.s 16) (.s 21)⟩, ⟨(some 23), none, .ld (.agg [(.int .i64), (.int .i64), .str, .slc, .slc, .bool]) (.s 22)⟩, ⟨(some 6), none, .new (.agg [(.int .i64), (.int .i64), .str, .slc, .slc, .bool]) (.agg [(.t (.int .i64 0)), (.t (.int .i64 0)), (.t (.str [])), .nilS, .nilS, (.t (.bool false))])⟩, ⟨none, none, .st (.agg [(.int .i64), (.int .i64), .str, .slc, .slc, .bool]) (.s 6) (.s 23)⟩])
 (.seq (.reg [⟨(some 24), none, .fa 0 (.s 6)⟩, ⟨(some 25), none, .ld (.agg [(.int .i64), (.int .i64), .str, .slc, .slc]) (.s 24)⟩, ⟨(some 26), none, .mov (.s 1)⟩, ⟨(some 27), none, .bin .add (.s 26) (.c (.t (.int .i64 1)))⟩, ⟨(some 28), none, .call false 88 (.agg [(.int .i64), (.int .i64), .str, .slc, .slc]) [(.s 25), (.s 27)]⟩, ⟨(some 29), none, .fa 0 (.s 6)⟩, ⟨none, none, .st (.agg [(.int .i64), (.int .i64), .str, .slc, .slc]) (.s 29) (.s 28)⟩])
 (.seq (.reg [⟨(some 30), none, .ld (.agg [(.int .i64), (.int .i64), .str, .slc, .slc, .bool]) (.s 6)⟩, ⟨none, none, .st (.agg [(.int .i64), (.int .i64), .str, .slc, .slc, .bool]) (.s 4) (.s 30)⟩, ⟨(some 5), none, .mov (.c (.t (.int .i64 0)))⟩])
 .ret))))),
 [.cell 4 (.agg [(.int .i64), (.int .i64), .str, .slc, .slc, .bool]), .slot 5]⟩
theorem ok56 : compF Tryz.prog 56 [] (Cfg.mk [] [] [] [] []) = some ir56 := by kernel_rfl

/-- tenet/cert.typ -/
def ir58 : FInfo := ⟨6,
 (.seq (.reg [⟨(some 1), none, .box (.agg [(.int .i64), .slc]) (.s 0)⟩, ⟨(some 2), none, .new (.agg [(.int .i64), (.int .i64), .str, .slc, .slc]) (.agg [(.t (.int .i64 0)), (.t (.int .i64 0)), (.t (.str [])), .nilS, .nilS])⟩])
 (.seq (.reg [⟨(some 3), none, .ld (.agg [(.int .i64), .slc]) (.s 1)⟩, ⟨(some 4), none, .bsl (.agg [(.int .i64), .slc]) (.agg [(.t (.int .i64 0)), .nilS]) 1 [(0, (.s 3))]⟩, ⟨(some 5), none, .build [(.t (.int .i64 0)), (.t (.int .i64 0)), (.t (.str [])), .nilS, .nilS] [(0, (.int .i64), (.c (.t (.int .i64 3)))), (3, .slc, (.s 4))]⟩, ⟨none, none, .st (.agg [(.int .i64), (.int .i64), .str, .slc, .slc]) (.s 2) (.s 5)⟩])
 .ret)),
 [.cell 2 (.agg [(.int .i64), (.int .i64), .str, .slc, .slc])]⟩
theorem ok58 : compF Tryz.prog 58 [] (Cfg.mk [] [] [] [] []) = some ir58 := by kernel_rfl

/-- (*tenet/cert.follower).sort -/
def ir61 : FInfo := ⟨47,
 (.seq (.reg [⟨(some 6), none, .box (.agg [(.int .i64), (.int .i64), .str, .slc, .slc]) (.s 2)⟩, ⟨(some 8), none, .new (.agg [(.int .i64), .slc]) (.agg [(.t (.int .i64 0)), .nilS])⟩, ⟨(some 9), none, .mov (.c (.t (.bool false)))⟩])
 (.seq (.reg [⟨(some 11), none, .mov (.s 3)⟩, ⟨(some 12), none, .call false 84 (.tup []) [(.s 11), (.c (.t (.int .i64 3))), (.c (.t (.int .i64 1))), (.c (.t (.int .i64 1)))]⟩])
 (.seq (.dreg [⟨(some 13), none, .mov (.s 0)⟩, ⟨(some 14), none, .mov (.s 0)⟩, ⟨(some 15), none, .mov (.s 1)⟩, ⟨(some 16), none, .ld (.agg [(.int .i64), (.int .i64), .str, .slc, .slc]) (.s 6)⟩, ⟨(some 17), none, .mov (.s 3)⟩, ⟨(some 18), none, .nonnil (.s 17)⟩, ⟨(some 19), none, .fa 2 (.s 18)⟩, ⟨(some 20), none, .ld .slc (.s 19)⟩, ⟨(some 21), none, .ia (.agg [(.int .i64), .slc, .slc]) (.s 20) (.c (.t (.int .i64 0)))⟩, ⟨(some 22), none, .call false 28 (.agg [(.int .i64), (.int .i64), .str, .slc, .slc]) [(.s 14), (.s 15), (.s 16), (.s 21)]⟩, ⟨(some 23), none, .mov (.s 3)⟩, ⟨(some 24), none, .nonnil (.s 23)⟩, ⟨(some 25), none, .fa 1 (.s 24)⟩, ⟨(some 26), none, .ld .slc (.s 25)⟩, ⟨(some 27), none, .ia (.int .i64) (.s 26) (.c (.t (.int .i64 0)))⟩, ⟨(some 28), none, .ld (.int .i64) (.s 27)⟩, ⟨(some 29), none, .call false 85 (.agg [(.int .i64), (.int .i64), .str, .slc, .slc]) [(.s 13), (.s 22), (.s 28)]⟩, ⟨(some 10), none, .new (.agg [(.int .i64), (.int .i64), .str, .slc, .slc]) (.agg [(.t (.int .i64 0)), (.t (.int .i64 0)), (.t (.str [])), .nilS, .nilS])⟩, ⟨none, none, .st (.agg [(.int .i64), (.int .i64), .str, .slc, .slc]) (.s 10) (.s 29)⟩] [0, 0, 0, 0, 0, 16, 48, 112, 240, 510, 0, 1024, 3072, 7168, 15360, 31744, 65535, 0, 262143])
 (.seq (.reg [⟨(some 30), none, .fa 0 (.s 10)⟩, ⟨(some 31), none, .ld (.int .i64) (.s 30)⟩, ⟨(some 32), none, .bin .eql (.s 31) (.c (.t (.int .i64 3)))⟩, ⟨(some 33), none, .mov (.s 32)⟩, ⟨(some 34), (some (33, false)), .fa 0 (.s 10)⟩, ⟨(some 35), (some (33, false)), .ld (.int .i64) (.s 34)⟩, ⟨(some 36), (some (33, false)), .bin .eql (.s 35) (.c (.t (.int .i64 4)))⟩, ⟨(some 37), none, .pick (.s 33) (.c (.t (.bool true))) (.s 36)⟩, ⟨(some 38), none, .call false 37 (.tup []) [(.s 37)]⟩])
 (.seq (.seq (.reg [⟨(some 39), none, .fa 0 (.s 10)⟩, ⟨(some 40), none, .ld (.int .i64) (.s 39)⟩, ⟨(some 41), none, .bin .eql (.s 40) (.c (.t (.int .i64 4)))⟩])
 (.cond (.s 41)
 (.seq (.reg [⟨(some 42), none, .build [(.t (.int .i64 0)), .nilS] []⟩, ⟨none, none, .st (.agg [(.int .i64), .slc]) (.s 8) (.s 42)⟩, ⟨(some 9), none, .mov (.c (.t (.bool true)))⟩])
 .ret)
 .skip))
 (.seq (.reg [⟨(some 43), none, .fa 3 (.s 10)⟩, ⟨(some 44), none, .ld .slc (.s 43)⟩, ⟨(some 45), none, .ia (.agg [(.int .i64), .slc]) (.s 44) (.c (.t (.int .i64 0)))⟩, ⟨(some 46), none, .ld (.agg [(.int .i64), .slc]) (.s 45)⟩, ⟨none, none, .st (.agg [(.int .i64), .slc]) (.s 8) (.s 46)⟩, ⟨(some 9), none, .mov (.c (.t (.bool false)))⟩])
 .ret)))))),
 [.cell 8 (.agg [(.int .i64), .slc]), .slot 9]⟩
theorem ok61 : compF Tryz.prog 61 [] (Cfg.mk [] [] [] [] []) = some ir61 := by kernel_rfl

/-- tenet/cert.mark -/
def ir62 : FInfo := ⟨13,
 (.seq (.reg [⟨(some 4), none, .mov (.c (.t (.int .i64 0)))⟩])
 (.seq (.reg [⟨(some 5), none, .mov (.c (.t (.int .i64 0)))⟩])
 (.seq (.seq (.reg [⟨(some 6), none, .mov (.s 0)⟩])
 (.cond (.s 6)
 (.reg [⟨(some 7), none, .mov (.s 5)⟩, ⟨(some 8), none, .bin .or (.s 7) (.c (.t (.int .i64 1)))⟩, ⟨(some 5), none, .mov (.s 8)⟩])
 .skip))
 (.seq (.seq (.reg [⟨(some 9), none, .mov (.s 1)⟩])
 (.cond (.s 9)
 (.reg [⟨(some 10), none, .mov (.s 5)⟩, ⟨(some 11), none, .bin .or (.s 10) (.c (.t (.int .i64 2)))⟩, ⟨(some 5), none, .mov (.s 11)⟩])
 .skip))
 (.seq (.reg [⟨(some 12), none, .mov (.s 5)⟩, ⟨(some 4), none, .mov (.s 12)⟩])
 .ret))))),
 [.slot 4]⟩
theorem ok62 : compF Tryz.prog 62 [] (Cfg.mk [] [] [] [] []) = some ir62 := by kernel_rfl

/-- tenet/cert.with -/
def ir63 : FInfo := ⟨18,
 (.seq (.reg [⟨(some 4), none, .box (.agg [(.int .i64), (.int .i64), .str, .slc, .slc]) (.s 1)⟩, ⟨(some 6), none, .mov (.c .nilS)⟩])
 (.seq (.dreg [⟨(some 7), none, .mov (.s 0)⟩, ⟨(some 8), none, .mov (.s 0)⟩, ⟨(some 9), none, .len (.s 8)⟩, ⟨(some 10), none, .mov (.s 0)⟩, ⟨(some 11), none, .len (.s 10)⟩, ⟨(some 12), none, .sub (.agg [(.int .i64), (.int .i64), .str, .slc, .slc, .bool]) (.s 7) none (some (.s 9)) (some (.s 11))⟩, ⟨(some 13), none, .ld (.agg [(.int .i64), (.int .i64), .str, .slc, .slc]) (.s 4)⟩, ⟨(some 14), none, .mov (.s 2)⟩, ⟨(some 15), none, .build [(.t (.int .i64 0)), (.t (.int .i64 0)), (.t (.str [])), .nilS, .nilS, (.t (.bool false))] [(0, (.agg [(.int .i64), (.int .i64), .str, .slc, .slc]), (.s 13)), (5, .bool, (.s 14))]⟩, ⟨(some 16), none, .bsl (.agg [(.int .i64), (.int .i64), .str, .slc, .slc, .bool]) (.agg [(.t (.int .i64 0)), (.t (.int .i64 0)), (.t (.str [])), .nilS, .nilS, (.t (.bool false))]) 1 [(0, (.s 15))]⟩, ⟨(some 17), none, .app (.agg [(.int .i64), (.int .i64), .str, .slc, .slc, .bool]) 88 (.s 12) (.s 16)⟩, ⟨(some 6), none, .mov (.s 17)⟩] [0, 0, 2, 0, 8, 31, 0, 0, 192, 448, 1023, 2047])
 .ret)),
 [.slot 6]⟩
theorem ok63 : compF Tryz.prog 63 [] (Cfg.mk [] [] [] [] []) = some ir63 := by kernel_rfl

/-- (*tenet/cert.follower).infer -/
def ir64 : FInfo := ⟨28,
 (.seq (.reg [⟨(some 6), none, .box (.agg [(.int .i64), (.int .i64), .str, .slc, .slc]) (.s 2)⟩, ⟨(some 8), none, .new (.agg [(.int .i64), (.int .i64), .str, .slc, .slc]) (.agg [(.t (.int .i64 0)), (.t (.int .i64 0)), (.t (.str [])), .nilS, .nilS])⟩])
 (.seq (.reg [⟨(some 9), none, .mov (.s 3)⟩, ⟨(some 10), none, .call false 84 (.tup []) [(.s 9), (.c (.t (.int .i64 2))), (.c (.t (.int .i64 1))), (.c (.t (.int .i64 1)))]⟩])
 (.seq (.dreg [⟨(some 11), none, .mov (.s 0)⟩, ⟨(some 12), none, .mov (.s 0)⟩, ⟨(some 13), none, .mov (.s 1)⟩, ⟨(some 14), none, .ld (.agg [(.int .i64), (.int .i64), .str, .slc, .slc]) (.s 6)⟩, ⟨(some 15), none, .mov (.s 3)⟩, ⟨(some 16), none, .nonnil (.s 15)⟩, ⟨(some 17), none, .fa 2 (.s 16)⟩, ⟨(some 18), none, .ld .slc (.s 17)⟩, ⟨(some 19), none, .ia (.agg [(.int .i64), .slc, .slc]) (.s 18) (.c (.t (.int .i64 0)))⟩, ⟨(some 20), none, .call false 28 (.agg [(.int .i64), (.int .i64), .str, .slc, .slc]) [(.s 12), (.s 13), (.s 14), (.s 19)]⟩, ⟨(some 21), none, .mov (.s 3)⟩, ⟨(some 22), none, .nonnil (.s 21)⟩, ⟨(some 23), none, .fa 1 (.s 22)⟩, ⟨(some 24), none, .ld .slc (.s 23)⟩, ⟨(some 25), none, .ia (.int .i64) (.s 24) (.c (.t (.int .i64 0)))⟩, ⟨(some 26), none, .ld (.int .i64) (.s 25)⟩, ⟨(some 27), none, .call false 85 (.agg [(.int .i64), (.int .i64), .str, .slc, .slc]) [(.s 11), (.s 20), (.s 26)]⟩, ⟨none, none, .st (.agg [(.int .i64), (.int .i64), .str, .slc, .slc]) (.s 8) (.s 27)⟩] [0, 0, 0, 0, 0, 16, 48, 112, 240, 510, 0, 1024, 3072, 7168, 15360, 31744, 65535, 131071])
 .ret))),
 [.cell 8 (.agg [(.int .i64), (.int .i64), .str, .slc, .slc])]⟩
theorem ok64 : compF Tryz.prog 64 [] (Cfg.mk [] [] [] [] []) = some ir64 := by kernel_rfl

/-- tenet/term.Fill -/
def ir65 : FInfo := ⟨8,
 (.seq (.reg [⟨(some 2), none, .box (.agg [(.int .i64), (.int .i64), .str, .slc, .slc]) (.s 0)⟩, ⟨(some 3), none, .box .slc (.s 1)⟩, ⟨(some 4), none, .new (.agg [(.int .i64), (.int .i64), .str, .slc, .slc]) (.agg [(.t (.int .i64 0)), (.t (.int .i64 0)), (.t (.str [])), .nilS, .nilS])⟩])
 (.seq (.reg [⟨(some 5), none, .ld (.agg [(.int .i64), (.int .i64), .str, .slc, .slc]) (.s 2)⟩, ⟨(some 6), none, .mkf 92 [] [(.s 3)]⟩, ⟨(some 7), none, .callw 32 (.agg [(.int .i64), (.int .i64), .str, .slc, .slc]) [(.s 5), (.s 6)]⟩, ⟨none, none, .st (.agg [(.int .i64), (.int .i64), .str, .slc, .slc]) (.s 4) (.s 7)⟩])
 .ret)),
 [.cell 4 (.agg [(.int .i64), (.int .i64), .str, .slc, .slc])]⟩
theorem ok65 : compF Tryz.prog 65 [] (Cfg.mk [] [] [7] [] []) = some ir65 := by kernel_rfl

/-- slices.IndexFunc[[]tenet/api.Term,tenet/api.Term] -/
def ir67 : FInfo := ⟨19,
 (.seq (.reg [⟨(some 4), none, .mov (.c (.t (.int .i64 0)))⟩])
 (.seq (.seq (.reg [⟨(some 6), none, .mov (.s 0)⟩, ⟨(some 7), none, .len (.s 6)⟩, ⟨(some 8), none, .mov (.c (.t (.int .i64 0)))⟩])
 (.block 0 (.loop [0, 1, 7, 8] (.seq (.reg [⟨(some 9), none, .bin .lss (.s 8) (.s 7)⟩])
 (.seq (.cond (.s 9)
 .skip
 (.exit 0))
 (.seq (.block 1 (.seq (.reg [⟨(some 10), none, .mov (.s 8)⟩, ⟨(some 5), none, .mov (.s 10)⟩])
 (.seq (.reg [⟨(some 11), none, .mov (.s 1)⟩, ⟨(some 12), none, .mov (.s 0)⟩, ⟨(some 13), none, .mov (.s 5)⟩, ⟨(some 14), none, .ia (.agg [(.int .i64), (.int .i64), .str, .slc, .slc]) (.s 12) (.s 13)⟩, ⟨(some 15), none, .ld (.agg [(.int .i64), (.int .i64), .str, .slc, .slc]) (.s 14)⟩, ⟨(some 16), none, .callv (.s 11) .bool [(.s 15)]⟩])
 (.cond (.s 16)
 (.seq (.reg [⟨(some 17), none, .mov (.s 5)⟩, ⟨(some 4), none, .mov (.s 17)⟩])
 .ret)
 .skip))))
 (.reg [⟨(some 18), none, .bin .add (.s 8) (.c (.t (.int .i64 1)))⟩, ⟨(some 8), none, .mov (.s 18)⟩])))))))
 (.seq (.reg [⟨(some 4), none, .mov (.c (.t (.int .i64 (-1))))⟩])
 .ret))),
 [.slot 4]⟩
theorem ok67 : compF Tryz.prog 67 [[0, 1, 7, 8]] (Cfg.mk [] [] [] [] []) = some ir67 := by kernel_rfl

/-- tenet/term.of -/
def ir68 : FInfo := ⟨46,
 (.seq (.reg [⟨(some 2), none, .new (.agg [.str, (.int .i64), (.int .i64)]) (.t (.agg [(.str []), (.int .i64 0), (.int .i64 0)]))⟩, ⟨(some 3), none, .mov (.c (.t (.bool false)))⟩])
 (.seq (.reg [⟨(some 5), none, .build [(.t (.str [])), (.t (.int .i64 0)), (.t (.int .i64 0))] [(0, .str, (.c (.t (.str [35])))), (1, (.int .i64), (.c (.t (.int .i64 8)))), (2, (.int .i64), (.c (.t (.int .i64 0))))]⟩, ⟨(some 6), none, .build [(.t (.str [])), (.t (.int .i64 0)), (.t (.int .i64 0))] [(0, .str, (.c (.t (.str [64])))), (1, (.int .i64), (.c (.t (.int .i64 5)))), (2, (.int .i64), (.c (.t (.int .i64 0))))]⟩, ⟨(some 7), none, .build [(.t (.str [])), (.t (.int .i64 0)), (.t (.int .i64 0))] [(0, .str, (.c (.t (.str [116, 121, 112, 101])))), (1, (.int .i64), (.c (.t (.int .i64 2)))), (2, (.int .i64), (.c (.t (.int .i64 0))))]⟩, ⟨(some 8), none, .build [(.t (.str [])), (.t (.int .i64 0)), (.t (.int .i64 0))] [(0, .str, (.c (.t (.str [112, 114, 111, 112])))), (1, (.int .i64), (.c (.t (.int .i64 0)))), (2, (.int .i64), (.c (.t (.int .i64 0))))]⟩, ⟨(some 9), none, .build [(.t (.str [])), (.t (.int .i64 0)), (.t (.int .i64 0))] [(0, .str, (.c (.t (.str [112, 105])))), (1, (.int .i64), (.c (.t (.int .i64 64)))), (2, (.int .i64), (.c (.t (.int .i64 2))))]⟩, ⟨(some 10), none, .build [(.t (.str [])), (.t (.int .i64 0)), (.t (.int .i64 0))] [(0, .str, (.c (.t (.str [108, 97, 109])))), (1, (.int .i64), (.c (.t (.int .i64 32)))), (2, (.int .i64), (.c (.t (.int .i64 2))))]⟩, ⟨(some 11), none, .build [(.t (.str [])), (.t (.int .i64 0)), (.t (.int .i64 0))] [(0, .str, (.c (.t (.str [97, 112, 112])))), (1, (.int .i64), (.c (.t (.int .i64 32)))), (2, (.int .i64), (.c (.t (.int .i64 2))))]⟩, ⟨(some 12), none, .build [(.t (.str [])), (.t (.int .i64 0)), (.t (.int .i64 0))] [(0, .str, (.c (.t (.str [115, 105, 103])))), (1, (.int .i64), (.c (.t (.int .i64 64)))), (2, (.int .i64), (.c (.t (.int .i64 2))))]⟩, ⟨(some 13), none, .build [(.t (.str [])), (.t (.int .i64 0)), (.t (.int .i64 0))] [(0, .str, (.c (.t (.str [112, 97, 105, 114])))), (1, (.int .i64), (.c (.t (.int .i64 64)))), (2, (.int .i64), (.c (.t (.int .i64 4))))]⟩, ⟨(some 14), none, .build [(.t (.str [])), (.t (.int .i64 0)), (.t (.int .i64 0))] [(0, .str, (.c (.t (.str [102, 115, 116])))), (1, (.int .i64), (.c (.t (.int .i64 0)))), (2, (.int .i64), (.c (.t (.int .i64 1))))]⟩, ⟨(some 15), none, .build [(.t (.str [])), (.t (.int .i64 0)), (.t (.int .i64 0))] [(0, .str, (.c (.t (.str [115, 110, 100])))), (1, (.int .i64), (.c (.t (.int .i64 0)))), (2, (.int .i64), (.c (.t (.int .i64 1))))]⟩, ⟨(some 16), none, .build [(.t (.str [])), (.t (.int .i64 0)), (.t (.int .i64 0))] [(0, .str, (.c (.t (.str [117, 110, 105, 116])))), (1, (.int .i64), (.c (.t (.int .i64 0)))), (2, (.int .i64), (.c (.t (.int .i64 0))))]⟩, ⟨(some 17), none, .build [(.t (.str [])), (.t (.int .i64 0)), (.t (.int .i64 0))] [(0, .str, (.c (.t (.str [115, 116, 97, 114])))), (1, (.int .i64), (.c (.t (.int .i64 0)))), (2, (.int .i64), (.c (.t (.int .i64 0))))]⟩, ⟨(some 18), none, .build [(.t (.str [])), (.t (.int .i64 0)), (.t (.int .i64 0))] [(0, .str, (.c (.t (.str [116, 114, 117, 101])))), (1, (.int .i64), (.c (.t (.int .i64 0)))), (2, (.int .i64), (.c (.t (.int .i64 0))))]⟩, ⟨(some 19), none, .build [(.t (.str [])), (.t (.int .i64 0)), (.t (.int .i64 0))] [(0, .str, (.c (.t (.str [116, 114, 105, 118, 105, 97, 108])))), (1, (.int .i64), (.c (.t (.int .i64 0)))), (2, (.int .i64), (.c (.t (.int .i64 0))))]⟩, ⟨(some 20), none, .build [(.t (.str [])), (.t (.int .i64 0)), (.t (.int .i64 0))] [(0, .str, (.c (.t (.str [102, 97, 108, 115, 101])))), (1, (.int .i64), (.c (.t (.int .i64 0)))), (2, (.int .i64), (.c (.t (.int .i64 0))))]⟩, ⟨(some 21), none, .build [(.t (.str [])), (.t (.int .i64 0)), (.t (.int .i64 0))] [(0, .str, (.c (.t (.str [97, 98, 115, 117, 114, 100])))), (1, (.int .i64), (.c (.t (.int .i64 32)))), (2, (.int .i64), (.c (.t (.int .i64 2))))]⟩, ⟨(some 22), none, .build [(.t (.str [])), (.t (.int .i64 0)), (.t (.int .i64 0))] [(0, .str, (.c (.t (.str [101, 113])))), (1, (.int .i64), (.c (.t (.int .i64 2)))), (2, (.int .i64), (.c (.t (.int .i64 3))))]⟩, ⟨(some 23), none, .build [(.t (.str [])), (.t (.int .i64 0)), (.t (.int .i64 0))] [(0, .str, (.c (.t (.str [114, 101, 102, 108])))), (1, (.int .i64), (.c (.t (.int .i64 2)))), (2, (.int .i64), (.c (.t (.int .i64 2))))]⟩, ⟨(some 24), none, .build [(.t (.str [])), (.t (.int .i64 0)), (.t (.int .i64 0))] [(0, .str, (.c (.t (.str [115, 117, 98, 115, 116])))), (1, (.int .i64), (.c (.t (.int .i64 2)))), (2, (.int .i64), (.c (.t (.int .i64 6))))]⟩, ⟨(some 25), none, .build [(.t (.str [])), (.t (.int .i64 0)), (.t (.int .i64 0))] [(0, .str, (.c (.t (.str [99, 97, 115, 116])))), (1, (.int .i64), (.c (.t (.int .i64 2)))), (2, (.int .i64), (.c (.t (.int .i64 4))))]⟩, ⟨(some 26), none, .build [(.t (.str [])), (.t (.int .i64 0)), (.t (.int .i64 0))] [(0, .str, (.c (.t (.str [99, 111, 104])))), (1, (.int .i64), (.c (.t (.int .i64 2)))), (2, (.int .i64), (.c (.t (.int .i64 3))))]⟩, ⟨(some 27), none, .build [(.t (.str [])), (.t (.int .i64 0)), (.t (.int .i64 0))] [(0, .str, (.c (.t (.str [113, 117, 111])))), (1, (.int .i64), (.c (.t (.int .i64 2)))), (2, (.int .i64), (.c (.t (.int .i64 5))))]⟩, ⟨(some 28), none, .build [(.t (.str [])), (.t (.int .i64 0)), (.t (.int .i64 0))] [(0, .str, (.c (.t (.str [99, 108, 97, 115, 115])))), (1, (.int .i64), (.c (.t (.int .i64 0)))), (2, (.int .i64), (.c (.t (.int .i64 2))))]⟩, ⟨(some 29), none, .build [(.t (.str [])), (.t (.int .i64 0)), (.t (.int .i64 0))] [(0, .str, (.c (.t (.str [111, 117, 116])))), (1, (.int .i64), (.c (.t (.int .i64 34)))), (2, (.int .i64), (.c (.t (.int .i64 5))))]⟩, ⟨(some 30), none, .build [(.t (.str [])), (.t (.int .i64 0)), (.t (.int .i64 0))] [(0, .str, (.c (.t (.str [100, 97, 116, 97])))), (1, (.int .i64), (.c (.t (.int .i64 5)))), (2, (.int .i64), (.c (.t (.int .i64 1))))]⟩, ⟨(some 31), none, .build [(.t (.str [])), (.t (.int .i64 0)), (.t (.int .i64 0))] [(0, .str, (.c (.t (.str [99, 111, 110])))), (1, (.int .i64), (.c (.t (.int .i64 21)))), (2, (.int .i64), (.c (.t (.int .i64 2))))]⟩, ⟨(some 32), none, .build [(.t (.str [])), (.t (.int .i64 0)), (.t (.int .i64 0))] [(0, .str, (.c (.t (.str [101, 108, 105, 109])))), (1, (.int .i64), (.c (.t (.int .i64 37)))), (2, (.int .i64), (.c (.t (.int .i64 (-1)))))]⟩, ⟨(some 33), none, .build [(.t (.str [])), (.t (.int .i64 0)), (.t (.int .i64 0))] [(0, .str, (.c (.t (.str [63])))), (1, (.int .i64), (.c (.t (.int .i64 8)))), (2, (.int .i64), (.c (.t (.int .i64 0))))]⟩, ⟨(some 34), none, .build [(.t (.str [])), (.t (.int .i64 0)), (.t (.int .i64 0))] [(0, .str, (.c (.t (.str [112, 114, 111, 111, 102])))), (1, (.int .i64), (.c (.t (.int .i64 0)))), (2, (.int .i64), (.c (.t (.int .i64 0))))]⟩, ⟨(some 35), none, .build [(.t (.str [])), (.t (.int .i64 0)), (.t (.int .i64 0)), (.t (.str [])), (.t (.int .i64 0)), (.t (.int .i64 0)), (.t (.str [])), (.t (.int .i64 0)), (.t (.int .i64 0)), (.t (.str [])), (.t (.int .i64 0)), (.t (.int .i64 0)), (.t (.str [])), (.t (.int .i64 0)), (.t (.int .i64 0)), (.t (.str [])), (.t (.int .i64 0)), (.t (.int .i64 0)), (.t (.str [])), (.t (.int .i64 0)), (.t (.int .i64 0)), (.t (.str [])), (.t (.int .i64 0)), (.t (.int .i64 0)), (.t (.str [])), (.t (.int .i64 0)), (.t (.int .i64 0)), (.t (.str [])), (.t (.int .i64 0)), (.t (.int .i64 0)), (.t (.str [])), (.t (.int .i64 0)), (.t (.int .i64 0)), (.t (.str [])), (.t (.int .i64 0)), (.t (.int .i64 0)), (.t (.str [])), (.t (.int .i64 0)), (.t (.int .i64 0)), (.t (.str [])), (.t (.int .i64 0)), (.t (.int .i64 0)), (.t (.str [])), (.t (.int .i64 0)), (.t (.int .i64 0)), (.t (.str [])), (.t (.int .i64 0)), (.t (.int .i64 0)), (.t (.str [])), (.t (.int .i64 0)), (.t (.int .i64 0)), (.t (.str [])), (.t (.int .i64 0)), (.t (.int .i64 0)), (.t (.str [])), (.t (.int .i64 0)), (.t (.int .i64 0)), (.t (.str [])), (.t (.int .i64 0)), (.t (.int .i64 0)), (.t (.str [])), (.t (.int .i64 0)), (.t (.int .i64 0)), (.t (.str [])), (.t (.int .i64 0)), (.t (.int .i64 0)), (.t (.str [])), (.t (.int .i64 0)), (.t (.int .i64 0)), (.t (.str [])), (.t (.int .i64 0)), (.t (.int .i64 0)), (.t (.str [])), (.t (.int .i64 0)), (.t (.int .i64 0)), (.t (.str [])), (.t (.int .i64 0)), (.t (.int .i64 0)), (.t (.str [])), (.t (.int .i64 0)), (.t (.int .i64 0)), (.t (.str [])), (.t (.int .i64 0)), (.t (.int .i64 0)), (.t (.str [])), (.t (.int .i64 0)), (.t (.int .i64 0)), (.t (.str [])), (.t (.int .i64 0)), (.t (.int .i64 0)), (.t (.str [])), (.t (.int .i64 0)), (.t (.int .i64 0))] [(3, (.agg [.str, (.int .i64), (.int .i64)]), (.s 5)), (6, (.agg [.str, (.int .i64), (.int .i64)]), (.s 6)), (9, (.agg [.str, (.int .i64), (.int .i64)]), (.s 7)), (12, (.agg [.str, (.int .i64), (.int .i64)]), (.s 8)), (15, (.agg [.str, (.int .i64), (.int .i64)]), (.s 9)), (18, (.agg [.str, (.int .i64), (.int .i64)]), (.s 10)), (21, (.agg [.str, (.int .i64), (.int .i64)]), (.s 11)), (24, (.agg [.str, (.int .i64), (.int .i64)]), (.s 12)), (27, (.agg [.str, (.int .i64), (.int .i64)]), (.s 13)), (30, (.agg [.str, (.int .i64), (.int .i64)]), (.s 14)), (33, (.agg [.str, (.int .i64), (.int .i64)]), (.s 15)), (36, (.agg [.str, (.int .i64), (.int .i64)]), (.s 16)), (39, (.agg [.str, (.int .i64), (.int .i64)]), (.s 17)), (42, (.agg [.str, (.int .i64), (.int .i64)]), (.s 18)), (45, (.agg [.str, (.int .i64), (.int .i64)]), (.s 19)), (48, (.agg [.str, (.int .i64), (.int .i64)]), (.s 20)), (51, (.agg [.str, (.int .i64), (.int .i64)]), (.s 21)), (54, (.agg [.str, (.int .i64), (.int .i64)]), (.s 22)), (57, (.agg [.str, (.int .i64), (.int .i64)]), (.s 23)), (60, (.agg [.str, (.int .i64), (.int .i64)]), (.s 24)), (63, (.agg [.str, (.int .i64), (.int .i64)]), (.s 25)), (66, (.agg [.str, (.int .i64), (.int .i64)]), (.s 26)), (69, (.agg [.str, (.int .i64), (.int .i64)]), (.s 27)), (72, (.agg [.str, (.int .i64), (.int .i64)]), (.s 28)), (75, (.agg [.str, (.int .i64), (.int .i64)]), (.s 29)), (78, (.agg [.str, (.int .i64), (.int .i64)]), (.s 30)), (81, (.agg [.str, (.int .i64), (.int .i64)]), (.s 31)), (84, (.agg [.str, (.int .i64), (.int .i64)]), (.s 32)), (87, (.agg [.str, (.int .i64), (.int .i64)]), (.s 33)), (90, (.agg [.str, (.int .i64), (.int .i64)]), (.s 34))]⟩, ⟨(some 4), none, .new (.agg [.str, (.int .i64), (.int .i64), .str, (.int .i64), (.int .i64), .str, (.int .i64), (.int .i64), .str, (.int .i64), (.int .i64), .str, (.int .i64), (.int .i64), .str, (.int .i64), (.int .i64), .str, (.int .i64), (.int .i64), .str, (.int .i64), (.int .i64), .str, (.int .i64), (.int .i64), .str, (.int .i64), (.int .i64), .str, (.int .i64), (.int .i64), .str, (.int .i64), (.int .i64), .str, (.int .i64), (.int .i64), .str, (.int .i64), (.int .i64), .str, (.int .i64), (.int .i64), .str, (.int .i64), (.int .i64), .str, (.int .i64), (.int .i64), .str, (.int .i64), (.int .i64), .str, (.int .i64), (.int .i64), .str, (.int .i64), (.int .i64), .str, (.int .i64), (.int .i64), .str, (.int .i64), (.int .i64), .str, (.int .i64), (.int .i64), .str, (.int .i64), (.int .i64), .str, (.int .i64), (.int .i64), .str, (.int .i64), (.int .i64), .str, (.int .i64), (.int .i64), .str, (.int .i64), (.int .i64), .str, (.int .i64), (.int .i64), .str, (.int .i64), (.int .i64), .str, (.int .i64), (.int .i64)]) (.t (.agg [(.str []), (.int .i64 0), (.int .i64 0), (.str []), (.int .i64 0), (.int .i64 0), (.str []), (.int .i64 0), (.int .i64 0), (.str []), (.int .i64 0), (.int .i64 0), (.str []), (.int .i64 0), (.int .i64 0), (.str []), (.int .i64 0), (.int .i64 0), (.str []), (.int .i64 0), (.int .i64 0), (.str []), (.int .i64 0), (.int .i64 0), (.str []), (.int .i64 0), (.int .i64 0), (.str []), (.int .i64 0), (.int .i64 0), (.str []), (.int .i64 0), (.int .i64 0), (.str []), (.int .i64 0), (.int .i64 0), (.str []), (.int .i64 0), (.int .i64 0), (.str []), (.int .i64 0), (.int .i64 0), (.str []), (.int .i64 0), (.int .i64 0), (.str []), (.int .i64 0), (.int .i64 0), (.str []), (.int .i64 0), (.int .i64 0), (.str []), (.int .i64 0), (.int .i64 0), (.str []), (.int .i64 0), (.int .i64 0), (.str []), (.int .i64 0), (.int .i64 0), (.str []), (.int .i64 0), (.int .i64 0), (.str []), (.int .i64 0), (.int .i64 0), (.str []), (.int .i64 0), (.int .i64 0), (.str []), (.int .i64 0), (.int .i64 0), (.str []), (.int .i64 0), (.int .i64 0), (.str []), (.int .i64 0), (.int .i64 0), (.str []), (.int .i64 0), (.int .i64 0), (.str []), (.int .i64 0), (.int .i64 0), (.str []), (.int .i64 0), (.int .i64 0), (.str []), (.int .i64 0), (.int .i64 0), (.str []), (.int .i64 0), (.int .i64 0)]))⟩, ⟨none, none, .st (.agg [.str, (.int .i64), (.int .i64), .str, (.int .i64), (.int .i64), .str, (.int .i64), (.int .i64), .str, (.int .i64), (.int .i64), .str, (.int .i64), (.int .i64), .str, (.int .i64), (.int .i64), .str, (.int .i64), (.int .i64), .str, (.int .i64), (.int .i64), .str, (.int .i64), (.int .i64), .str, (.int .i64), (.int .i64), .str, (.int .i64), (.int .i64), .str, (.int .i64), (.int .i64), .str, (.int .i64), (.int .i64), .str, (.int .i64), (.int .i64), .str, (.int .i64), (.int .i64), .str, (.int .i64), (.int .i64), .str, (.int .i64), (.int .i64), .str, (.int .i64), (.int .i64), .str, (.int .i64), (.int .i64), .str, (.int .i64), (.int .i64), .str, (.int .i64), (.int .i64), .str, (.int .i64), (.int .i64), .str, (.int .i64), (.int .i64), .str, (.int .i64), (.int .i64), .str, (.int .i64), (.int .i64), .str, (.int .i64), (.int .i64), .str, (.int .i64), (.int .i64), .str, (.int .i64), (.int .i64), .str, (.int .i64), (.int .i64), .str, (.int .i64), (.int .i64), .str, (.int .i64), (.int .i64)]) (.s 4) (.s 35)⟩])
 (.seq (.seq (.reg [⟨(some 36), none, .mov (.s 0)⟩, ⟨(some 37), none, .bin .lss (.s 36) (.c (.t (.int .i64 1)))⟩, ⟨(some 38), none, .mov (.s 37)⟩, ⟨(some 39), (some (38, false)), .mov (.s 0)⟩, ⟨(some 40), (some (38, false)), .bin .geq (.s 39) (.c (.t (.int .i64 31)))⟩, ⟨(some 41), none, .pick (.s 38) (.c (.t (.bool true))) (.s 40)⟩])
 (.cond (.s 41)
 (.seq (.reg [⟨(some 42), none, .build [(.t (.str [])), (.t (.int .i64 0)), (.t (.int .i64 0))] []⟩, ⟨none, none, .st (.agg [.str, (.int .i64), (.int .i64)]) (.s 2) (.s 42)⟩, ⟨(some 3), none, .mov (.c (.t (.bool false)))⟩])
 .ret)
 .skip))
 (.seq (.reg [⟨(some 43), none, .mov (.s 0)⟩, ⟨(some 44), none, .iaa (.agg [.str, (.int .i64), (.int .i64)]) 31 (.s 4) (.s 43)⟩, ⟨(some 45), none, .ld (.agg [.str, (.int .i64), (.int .i64)]) (.s 44)⟩, ⟨none, none, .st (.agg [.str, (.int .i64), (.int .i64)]) (.s 2) (.s 45)⟩, ⟨(some 3), none, .mov (.c (.t (.bool true)))⟩])
 .ret)))),
 [.cell 2 (.agg [.str, (.int .i64), (.int .i64)]), .slot 3]⟩
theorem ok68 : compF Tryz.prog 68 [] (Cfg.mk [] [] [] [] []) = some ir68 := by kernel_rfl


end Go.Proofs.Dw.Za
end
