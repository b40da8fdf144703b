/- What the functions that the law reaches come to, and why. -/
import Derived.Test.YtkgffjkdhmdfkaaGreatDoorRows
import Derived.Test.YtkgffjkdhmdfkaaGreatDoorDw4
import Derived.Test.YtkgffjkdhmdfkaaGreatDoorDw5
import Derived.RangeFuncFrom
import Derived.RangeFuncLeaves
import Derived.RangeFuncBox
import Derived.Maps.AppendAt
import Derived.Shelf.Abstract
import Derived.Shelf.RegionOpen
import Derived.WalkKit
import Derived.OwnWalkIn
import Derived.TacticsInMore
import Derived.LoopNIn
import Derived.LoopIn
import Derived.OrdersIn
set_option linter.unusedSimpArgs false
set_option linter.unusedVariables false

/-
  THE RECKONED CODE, part 2: printed by program.
-/
section
set_option maxRecDepth 100000
namespace Go.Proofs.Dw.Za
open Go.Proofs

/-- slices.ContainsFunc[[]tenet/api.Level,tenet/api.Level] -/
def ir70 : FInfo := ⟨9,
 (.seq (.reg [⟨(some 4), none, .mov (.c (.t (.bool false)))⟩])
 (.seq (.reg [⟨(some 5), none, .mov (.s 0)⟩, ⟨(some 6), none, .mov (.s 1)⟩, ⟨(some 7), none, .call false 104 (.int .i64) [(.s 5), (.s 6)]⟩, ⟨(some 8), none, .bin .geq (.s 7) (.c (.t (.int .i64 0)))⟩, ⟨(some 4), none, .mov (.s 8)⟩])
 .ret)),
 [.slot 4]⟩
theorem ok70 : compF Tryz.prog 70 [] (Cfg.mk [] [] [] [] []) = some ir70 := by kernel_rfl

/-- tenet/term.node$1 -/
def ir71 : FInfo := ⟨6,
 (.seq (.reg [⟨(some 1), none, .box (.agg [(.int .i64), .slc]) (.s 0)⟩, ⟨(some 2), none, .mov (.c (.t (.bool false)))⟩])
 (.seq (.reg [⟨(some 3), none, .ld (.agg [(.int .i64), .slc]) (.s 1)⟩, ⟨(some 4), none, .call false 72 .bool [(.s 3)]⟩, ⟨(some 5), none, .un .not (.s 4)⟩, ⟨(some 2), none, .mov (.s 5)⟩])
 .ret)),
 [.slot 2]⟩
theorem ok71 : compF Tryz.prog 71 [] (Cfg.mk [] [] [] [] []) = some ir71 := by kernel_rfl

/-- tenet/term.canonical -/
def ir72 : FInfo := ⟨26,
 (.seq (.reg [⟨(some 1), none, .box (.agg [(.int .i64), .slc]) (.s 0)⟩, ⟨(some 2), none, .mov (.c (.t (.bool false)))⟩])
 (.seq (.reg [⟨(some 6), none, .ld (.agg [(.int .i64), .slc]) (.s 1)⟩, ⟨(some 7), none, .call false 105 (.tup [(.agg [(.int .i64), .slc]), (.int .i64)]) [(.s 6)]⟩, ⟨(some 5), none, .mov (.s 7)⟩, ⟨(some 8), none, .ext 0 (.s 5)⟩, ⟨(some 9), none, .ext 1 (.s 5)⟩, ⟨(some 3), none, .new (.agg [(.int .i64), .slc]) (.agg [(.t (.int .i64 0)), .nilS])⟩, ⟨none, none, .st (.agg [(.int .i64), .slc]) (.s 3) (.s 8)⟩, ⟨(some 4), none, .mov (.s 9)⟩])
 (.seq (.reg [⟨(some 10), none, .mov (.s 4)⟩, ⟨(some 11), none, .bin .eql (.s 10) (.c (.t (.int .i64 0)))⟩, ⟨(some 12), none, .mov (.s 11)⟩, ⟨(some 13), (some (12, true)), .fa 0 (.s 3)⟩, ⟨(some 14), (some (12, true)), .ld (.int .i64) (.s 13)⟩, ⟨(some 15), (some (12, true)), .fa 0 (.s 1)⟩, ⟨(some 16), (some (12, true)), .ld (.int .i64) (.s 15)⟩, ⟨(some 17), (some (12, true)), .bin .eql (.s 14) (.s 16)⟩, ⟨(some 18), none, .pick (.s 12) (.s 17) (.c (.t (.bool false)))⟩, ⟨(some 19), none, .mov (.s 18)⟩, ⟨(some 20), (some (19, true)), .fa 1 (.s 3)⟩, ⟨(some 21), (some (19, true)), .ld .slc (.s 20)⟩, ⟨(some 22), (some (19, true)), .fa 1 (.s 1)⟩, ⟨(some 23), (some (19, true)), .ld .slc (.s 22)⟩, ⟨(some 24), (some (19, true)), .call false 106 .bool [(.s 21), (.s 23)]⟩, ⟨(some 25), none, .pick (.s 19) (.s 24) (.c (.t (.bool false)))⟩, ⟨(some 2), none, .mov (.s 25)⟩])
 .ret))),
 [.slot 2]⟩
theorem ok72 : compF Tryz.prog 72 [] (Cfg.mk [] [] [] [] []) = some ir72 := by kernel_rfl

/-- tenet/cert.is -/
def ir84 : FInfo := ⟨33,
 (.dreg [⟨(some 8), none, .mov (.s 0)⟩, ⟨(some 9), none, .eqs true .wptr (.s 8) (.c (.t .nilp))⟩, ⟨(some 10), none, .mov (.s 9)⟩, ⟨(some 11), (some (10, true)), .mov (.s 0)⟩, ⟨(some 12), (some (10, true)), .nonnil (.s 11)⟩, ⟨(some 13), (some (10, true)), .fa 0 (.s 12)⟩, ⟨(some 14), (some (10, true)), .ld (.int .i64) (.s 13)⟩, ⟨(some 15), (some (10, true)), .mov (.s 0)⟩, ⟨(some 16), (some (10, true)), .nonnil (.s 15)⟩, ⟨(some 17), (some (10, true)), .fa 1 (.s 16)⟩, ⟨(some 18), (some (10, true)), .ld .slc (.s 17)⟩, ⟨(some 19), (some (10, true)), .len (.s 18)⟩, ⟨(some 20), (some (10, true)), .mov (.s 0)⟩, ⟨(some 21), (some (10, true)), .nonnil (.s 20)⟩, ⟨(some 22), (some (10, true)), .fa 2 (.s 21)⟩, ⟨(some 23), (some (10, true)), .ld .slc (.s 22)⟩, ⟨(some 24), (some (10, true)), .len (.s 23)⟩, ⟨(some 25), (some (10, true)), .build [(.t (.int .i64 0)), (.t (.int .i64 0)), (.t (.int .i64 0))] [(0, (.int .i64), (.s 14)), (1, (.int .i64), (.s 19)), (2, (.int .i64), (.s 24))]⟩, ⟨(some 26), (some (10, true)), .mov (.s 1)⟩, ⟨(some 27), (some (10, true)), .mov (.s 2)⟩, ⟨(some 28), (some (10, true)), .mov (.s 3)⟩, ⟨(some 29), (some (10, true)), .build [(.t (.int .i64 0)), (.t (.int .i64 0)), (.t (.int .i64 0))] [(0, (.int .i64), (.s 26)), (1, (.int .i64), (.s 27)), (2, (.int .i64), (.s 28))]⟩, ⟨(some 30), (some (10, true)), .eqs false (.agg [(.int .i64), (.int .i64), (.int .i64)]) (.s 25) (.s 29)⟩, ⟨(some 31), none, .pick (.s 10) (.s 30) (.c (.t (.bool false)))⟩, ⟨(some 32), none, .call false 37 (.tup []) [(.s 31)]⟩] [0, 1, 3, 7, 15, 31, 63, 7, 135, 391, 903, 1927, 7, 4103, 12295, 28679, 61447, 131071, 7, 7, 7, 1835015, 4194303, 8388607, 16777215]),
 []⟩
theorem ok84 : compF Tryz.prog 84 [] (Cfg.mk [] [] [] [] []) = some ir84 := by kernel_rfl

/-- (*tenet/cert.follower).bring -/
def ir85 : FInfo := ⟨23,
 (.seq (.reg [⟨(some 4), none, .box (.agg [(.int .i64), (.int .i64), .str, .slc, .slc]) (.s 1)⟩, ⟨(some 6), none, .new (.agg [(.int .i64), (.int .i64), .str, .slc, .slc]) (.agg [(.t (.int .i64 0)), (.t (.int .i64 0)), (.t (.str [])), .nilS, .nilS])⟩])
 (.seq (.dreg [⟨(some 10), none, .mov (.s 0)⟩, ⟨(some 11), none, .nonnil (.s 10)⟩, ⟨(some 12), none, .fa 0 (.s 11)⟩, ⟨(some 13), none, .ld (.agg [.slc]) (.s 12)⟩, ⟨(some 14), none, .ld (.agg [(.int .i64), (.int .i64), .str, .slc, .slc]) (.s 4)⟩, ⟨(some 15), none, .mov (.s 2)⟩, ⟨(some 16), none, .call false 113 (.tup [(.agg [(.int .i64), (.int .i64), .str, .slc, .slc]), (.int .i64)]) [(.s 13), (.s 14), (.s 15)]⟩, ⟨(some 9), none, .mov (.s 16)⟩, ⟨(some 17), none, .ext 0 (.s 9)⟩, ⟨(some 18), none, .ext 1 (.s 9)⟩, ⟨(some 7), none, .new (.agg [(.int .i64), (.int .i64), .str, .slc, .slc]) (.agg [(.t (.int .i64 0)), (.t (.int .i64 0)), (.t (.str [])), .nilS, .nilS])⟩, ⟨none, none, .st (.agg [(.int .i64), (.int .i64), .str, .slc, .slc]) (.s 7) (.s 17)⟩, ⟨(some 8), none, .mov (.s 18)⟩] [0, 1, 3, 7, 0, 0, 63, 127, 255, 255, 0, 1535, 4095])
 (.seq (.reg [⟨(some 19), none, .mov (.s 8)⟩, ⟨(some 20), none, .bin .eql (.s 19) (.c (.t (.int .i64 0)))⟩, ⟨(some 21), none, .call false 37 (.tup []) [(.s 20)]⟩])
 (.seq (.reg [⟨(some 22), none, .ld (.agg [(.int .i64), (.int .i64), .str, .slc, .slc]) (.s 7)⟩, ⟨none, none, .st (.agg [(.int .i64), (.int .i64), .str, .slc, .slc]) (.s 6) (.s 22)⟩])
 .ret)))),
 [.cell 6 (.agg [(.int .i64), (.int .i64), .str, .slc, .slc])]⟩
theorem ok85 : compF Tryz.prog 85 [] (Cfg.mk [] [] [] [] []) = some ir85 := by kernel_rfl

/-- (*tenet/cert.follower).types -/
def ir87 : FInfo := ⟨88,
 (.seq (.reg [⟨(some 7), none, .box (.agg [(.int .i64), (.int .i64), .str, .slc, .slc]) (.s 2)⟩, ⟨(some 8), none, .box (.agg [(.int .i64), (.int .i64), .str, .slc, .slc]) (.s 3)⟩])
 (.seq (.reg [⟨(some 10), none, .mov (.s 4)⟩, ⟨(some 11), none, .eqs true .wptr (.s 10) (.c (.t .nilp))⟩, ⟨(some 12), none, .call false 37 (.tup []) [(.s 11)]⟩])
 (.seq (.reg [⟨(some 13), none, .mov (.s 4)⟩, ⟨(some 14), none, .nonnil (.s 13)⟩, ⟨(some 15), none, .fa 0 (.s 14)⟩, ⟨(some 16), none, .ld (.int .i64) (.s 15)⟩])
 (.block 0 (.seq (.reg [⟨(some 20), none, .bin .eql (.s 16) (.c (.t (.int .i64 10)))⟩, ⟨(some 19), none, .mov (.s 20)⟩])
 (.cond (.s 19)
 (.seq (.reg [⟨(some 21), none, .mov (.s 4)⟩, ⟨(some 22), none, .call false 84 (.tup []) [(.s 21), (.c (.t (.int .i64 10))), (.c (.t (.int .i64 0))), (.c (.t (.int .i64 0)))]⟩])
 (.reg [⟨(some 23), none, .ld (.agg [(.int .i64), (.int .i64), .str, .slc, .slc]) (.s 7)⟩, ⟨(some 24), none, .ld (.agg [(.int .i64), (.int .i64), .str, .slc, .slc]) (.s 8)⟩, ⟨(some 25), none, .call false 117 .bool [(.s 23), (.s 24)]⟩, ⟨(some 26), none, .call false 37 (.tup []) [(.s 25)]⟩]))
 (.seq (.reg [⟨(some 28), none, .bin .eql (.s 16) (.c (.t (.int .i64 17)))⟩, ⟨(some 27), none, .mov (.s 28)⟩])
 (.cond (.s 27)
 (.seq (.reg [⟨(some 29), none, .mov (.s 4)⟩, ⟨(some 30), none, .nonnil (.s 29)⟩, ⟨(some 31), none, .fa 1 (.s 30)⟩, ⟨(some 32), none, .ld .slc (.s 31)⟩, ⟨(some 33), none, .len (.s 32)⟩, ⟨(some 34), none, .bin .eql (.s 33) (.c (.t (.int .i64 2)))⟩, ⟨(some 35), none, .call false 37 (.tup []) [(.s 34)]⟩])
 (.dreg [⟨(some 36), none, .mov (.s 0)⟩, ⟨(some 37), none, .mov (.s 1)⟩, ⟨(some 38), none, .mov (.s 0)⟩, ⟨(some 39), none, .ld (.agg [(.int .i64), (.int .i64), .str, .slc, .slc]) (.s 7)⟩, ⟨(some 40), none, .mov (.s 4)⟩, ⟨(some 41), none, .nonnil (.s 40)⟩, ⟨(some 42), none, .fa 1 (.s 41)⟩, ⟨(some 43), none, .ld .slc (.s 42)⟩, ⟨(some 44), none, .ia (.int .i64) (.s 43) (.c (.t (.int .i64 0)))⟩, ⟨(some 45), none, .ld (.int .i64) (.s 44)⟩, ⟨(some 46), none, .call false 85 (.agg [(.int .i64), (.int .i64), .str, .slc, .slc]) [(.s 38), (.s 39), (.s 45)]⟩, ⟨(some 47), none, .mov (.s 0)⟩, ⟨(some 48), none, .ld (.agg [(.int .i64), (.int .i64), .str, .slc, .slc]) (.s 8)⟩, ⟨(some 49), none, .mov (.s 4)⟩, ⟨(some 50), none, .nonnil (.s 49)⟩, ⟨(some 51), none, .fa 1 (.s 50)⟩, ⟨(some 52), none, .ld .slc (.s 51)⟩, ⟨(some 53), none, .ia (.int .i64) (.s 52) (.c (.t (.int .i64 1)))⟩, ⟨(some 54), none, .ld (.int .i64) (.s 53)⟩, ⟨(some 55), none, .call false 85 (.agg [(.int .i64), (.int .i64), .str, .slc, .slc]) [(.s 47), (.s 48), (.s 54)]⟩, ⟨(some 56), none, .mov (.s 4)⟩, ⟨(some 57), none, .call false 118 (.tup []) [(.s 36), (.s 37), (.s 46), (.s 55), (.s 56)]⟩] [0, 0, 0, 0, 0, 16, 48, 112, 240, 496, 1020, 0, 0, 0, 8192, 24576, 57344, 122880, 253952, 524284, 0, 2097151]))
 (.seq (.reg [⟨(some 59), none, .bin .eql (.s 16) (.c (.t (.int .i64 18)))⟩, ⟨(some 58), none, .mov (.s 59)⟩])
 (.cond (.s 58)
 (.seq (.reg [⟨(some 60), none, .mov (.s 4)⟩, ⟨(some 61), none, .call false 84 (.tup []) [(.s 60), (.c (.t (.int .i64 18))), (.c (.t (.int .i64 2))), (.c (.t (.int .i64 1)))]⟩])
 (.dreg [⟨(some 62), none, .mov (.s 0)⟩, ⟨(some 63), none, .mov (.s 1)⟩, ⟨(some 64), none, .mov (.s 0)⟩, ⟨(some 65), none, .ld (.agg [(.int .i64), (.int .i64), .str, .slc, .slc]) (.s 7)⟩, ⟨(some 66), none, .mov (.s 4)⟩, ⟨(some 67), none, .nonnil (.s 66)⟩, ⟨(some 68), none, .fa 1 (.s 67)⟩, ⟨(some 69), none, .ld .slc (.s 68)⟩, ⟨(some 70), none, .ia (.int .i64) (.s 69) (.c (.t (.int .i64 0)))⟩, ⟨(some 71), none, .ld (.int .i64) (.s 70)⟩, ⟨(some 72), none, .call false 85 (.agg [(.int .i64), (.int .i64), .str, .slc, .slc]) [(.s 64), (.s 65), (.s 71)]⟩, ⟨(some 73), none, .mov (.s 0)⟩, ⟨(some 74), none, .ld (.agg [(.int .i64), (.int .i64), .str, .slc, .slc]) (.s 8)⟩, ⟨(some 75), none, .mov (.s 4)⟩, ⟨(some 76), none, .nonnil (.s 75)⟩, ⟨(some 77), none, .fa 1 (.s 76)⟩, ⟨(some 78), none, .ld .slc (.s 77)⟩, ⟨(some 79), none, .ia (.int .i64) (.s 78) (.c (.t (.int .i64 1)))⟩, ⟨(some 80), none, .ld (.int .i64) (.s 79)⟩, ⟨(some 81), none, .call false 85 (.agg [(.int .i64), (.int .i64), .str, .slc, .slc]) [(.s 73), (.s 74), (.s 80)]⟩, ⟨(some 82), none, .mov (.s 4)⟩, ⟨(some 83), none, .nonnil (.s 82)⟩, ⟨(some 84), none, .fa 2 (.s 83)⟩, ⟨(some 85), none, .ld .slc (.s 84)⟩, ⟨(some 86), none, .ia (.agg [(.int .i64), .slc, .slc]) (.s 85) (.c (.t (.int .i64 0)))⟩, ⟨(some 87), none, .call false 119 (.agg [(.int .i64), (.int .i64), .str, .slc, .slc]) [(.s 62), (.s 63), (.s 72), (.s 81), (.s 86)]⟩] [0, 0, 0, 0, 0, 16, 48, 112, 240, 496, 1020, 0, 0, 0, 8192, 24576, 57344, 122880, 253952, 524284, 0, 1048576, 3145728, 7340032, 15728640, 33554431]))
 (.reg [⟨(some 17), none, .build [] []⟩, ⟨(some 18), none, .mki 75 (.s 17)⟩, ⟨none, none, .pan (.s 18)⟩]))))))))))),
 []⟩
theorem ok87 : compF Tryz.prog 87 [] (Cfg.mk [] [] [] [] []) = some ir87 := by kernel_rfl

/-- tenet/conv.up -/
def ir88 : FInfo := ⟨14,
 (.seq (.reg [⟨(some 2), none, .box (.agg [(.int .i64), (.int .i64), .str, .slc, .slc]) (.s 0)⟩, ⟨(some 4), none, .new (.agg [(.int .i64), (.int .i64), .str, .slc, .slc]) (.agg [(.t (.int .i64 0)), (.t (.int .i64 0)), (.t (.str [])), .nilS, .nilS])⟩])
 (.seq (.reg [⟨(some 8), none, .ld (.agg [(.int .i64), (.int .i64), .str, .slc, .slc]) (.s 2)⟩, ⟨(some 9), none, .mov (.s 1)⟩, ⟨(some 10), none, .call false 93 (.tup [(.agg [(.int .i64), (.int .i64), .str, .slc, .slc]), .bool]) [(.s 8), (.s 9), (.c (.t (.int .i64 0)))]⟩, ⟨(some 7), none, .mov (.s 10)⟩, ⟨(some 11), none, .ext 0 (.s 7)⟩, ⟨(some 12), none, .ext 1 (.s 7)⟩, ⟨(some 5), none, .new (.agg [(.int .i64), (.int .i64), .str, .slc, .slc]) (.agg [(.t (.int .i64 0)), (.t (.int .i64 0)), (.t (.str [])), .nilS, .nilS])⟩, ⟨none, none, .st (.agg [(.int .i64), (.int .i64), .str, .slc, .slc]) (.s 5) (.s 11)⟩, ⟨(some 6), none, .mov (.s 12)⟩])
 (.seq (.reg [⟨(some 13), none, .ld (.agg [(.int .i64), (.int .i64), .str, .slc, .slc]) (.s 5)⟩, ⟨none, none, .st (.agg [(.int .i64), (.int .i64), .str, .slc, .slc]) (.s 4) (.s 13)⟩])
 .ret))),
 [.cell 4 (.agg [(.int .i64), (.int .i64), .str, .slc, .slc])]⟩
theorem ok88 : compF Tryz.prog 88 [] (Cfg.mk [] [] [] [] []) = some ir88 := by kernel_rfl

/-- tenet/term.Shift -/
def ir93 : FInfo := ⟨32,
 (.seq (.reg [⟨(some 3), none, .box (.agg [(.int .i64), (.int .i64), .str, .slc, .slc]) (.s 0)⟩, ⟨(some 4), none, .wbox (.int .i64) (.s 1)⟩, ⟨(some 5), none, .wbox (.int .i64) (.s 2)⟩, ⟨(some 6), none, .new (.agg [(.int .i64), (.int .i64), .str, .slc, .slc]) (.agg [(.t (.int .i64 0)), (.t (.int .i64 0)), (.t (.str [])), .nilS, .nilS])⟩, ⟨(some 7), none, .mov (.c (.t (.bool false)))⟩])
 (.seq (.seq (.reg [⟨(some 10), none, .ld (.int .i64) (.s 5)⟩, ⟨(some 11), none, .bin .lss (.s 10) (.c (.t (.int .i64 0)))⟩, ⟨(some 12), none, .mov (.s 11)⟩, ⟨(some 13), (some (12, false)), .ld (.int .i64) (.s 5)⟩, ⟨(some 14), (some (12, false)), .bin .gtr (.s 13) (.c (.t (.int .i64 2147483648)))⟩, ⟨(some 15), none, .pick (.s 12) (.c (.t (.bool true))) (.s 14)⟩, ⟨(some 16), none, .mov (.s 15)⟩, ⟨(some 17), (some (16, false)), .ld (.int .i64) (.s 4)⟩, ⟨(some 18), (some (16, false)), .bin .lss (.s 17) (.c (.t (.int .i64 (-2147483648))))⟩, ⟨(some 19), none, .pick (.s 16) (.c (.t (.bool true))) (.s 18)⟩, ⟨(some 20), none, .mov (.s 19)⟩, ⟨(some 21), (some (20, false)), .ld (.int .i64) (.s 4)⟩, ⟨(some 22), (some (20, false)), .bin .gtr (.s 21) (.c (.t (.int .i64 2147483648)))⟩, ⟨(some 23), none, .pick (.s 20) (.c (.t (.bool true))) (.s 22)⟩])
 (.cond (.s 23)
 (.seq (.reg [⟨(some 24), none, .build [(.t (.int .i64 0)), (.t (.int .i64 0)), (.t (.str [])), .nilS, .nilS] []⟩, ⟨none, none, .st (.agg [(.int .i64), (.int .i64), .str, .slc, .slc]) (.s 6) (.s 24)⟩, ⟨(some 7), none, .mov (.c (.t (.bool false)))⟩])
 .ret)
 .skip))
 (.seq (.reg [⟨(some 8), none, .wnew .bool (.t (.bool false))⟩, ⟨none, none, .st .bool (.s 8) (.c (.t (.bool true)))⟩])
 (.seq (.reg [⟨(some 25), none, .ld (.agg [(.int .i64), (.int .i64), .str, .slc, .slc]) (.s 3)⟩, ⟨(some 26), none, .mkf 127 [] [(.s 5), (.s 4), (.s 8)]⟩, ⟨(some 27), none, .callw 32 (.agg [(.int .i64), (.int .i64), .str, .slc, .slc]) [(.s 25), (.s 26)]⟩, ⟨(some 9), none, .new (.agg [(.int .i64), (.int .i64), .str, .slc, .slc]) (.agg [(.t (.int .i64 0)), (.t (.int .i64 0)), (.t (.str [])), .nilS, .nilS])⟩, ⟨none, none, .st (.agg [(.int .i64), (.int .i64), .str, .slc, .slc]) (.s 9) (.s 27)⟩])
 (.seq (.seq (.reg [⟨(some 28), none, .ld .bool (.s 8)⟩, ⟨(some 29), none, .un .not (.s 28)⟩])
 (.cond (.s 29)
 (.seq (.reg [⟨(some 30), none, .build [(.t (.int .i64 0)), (.t (.int .i64 0)), (.t (.str [])), .nilS, .nilS] []⟩, ⟨none, none, .st (.agg [(.int .i64), (.int .i64), .str, .slc, .slc]) (.s 6) (.s 30)⟩, ⟨(some 7), none, .mov (.c (.t (.bool false)))⟩])
 .ret)
 .skip))
 (.seq (.reg [⟨(some 31), none, .ld (.agg [(.int .i64), (.int .i64), .str, .slc, .slc]) (.s 9)⟩, ⟨none, none, .st (.agg [(.int .i64), (.int .i64), .str, .slc, .slc]) (.s 6) (.s 31)⟩, ⟨(some 7), none, .mov (.c (.t (.bool true)))⟩])
 .ret)))))),
 [.cell 6 (.agg [(.int .i64), (.int .i64), .str, .slc, .slc]), .slot 7]⟩
theorem ok93 : compF Tryz.prog 93 [] (Cfg.mk [] [3, 4] [27] [] []) = some ir93 := by kernel_rfl

/-- slices.IndexFunc[[]tenet/api.Level,tenet/api.Level] -/
def ir104 : FInfo := ⟨19,
 (.seq (.reg [⟨(some 4), none, .mov (.c (.t (.int .i64 0)))⟩])
 (.seq (.seq (.reg [⟨(some 6), none, .mov (.s 0)⟩, ⟨(some 7), none, .len (.s 6)⟩, ⟨(some 8), none, .mov (.c (.t (.int .i64 0)))⟩])
 (.block 0 (.loop [0, 1, 7, 8] (.seq (.reg [⟨(some 9), none, .bin .lss (.s 8) (.s 7)⟩])
 (.seq (.cond (.s 9)
 .skip
 (.exit 0))
 (.seq (.block 1 (.seq (.reg [⟨(some 10), none, .mov (.s 8)⟩, ⟨(some 5), none, .mov (.s 10)⟩])
 (.seq (.reg [⟨(some 11), none, .mov (.s 1)⟩, ⟨(some 12), none, .mov (.s 0)⟩, ⟨(some 13), none, .mov (.s 5)⟩, ⟨(some 14), none, .ia (.agg [(.int .i64), .slc]) (.s 12) (.s 13)⟩, ⟨(some 15), none, .ld (.agg [(.int .i64), .slc]) (.s 14)⟩, ⟨(some 16), none, .callv (.s 11) .bool [(.s 15)]⟩])
 (.cond (.s 16)
 (.seq (.reg [⟨(some 17), none, .mov (.s 5)⟩, ⟨(some 4), none, .mov (.s 17)⟩])
 .ret)
 .skip))))
 (.reg [⟨(some 18), none, .bin .add (.s 8) (.c (.t (.int .i64 1)))⟩, ⟨(some 8), none, .mov (.s 18)⟩])))))))
 (.seq (.reg [⟨(some 4), none, .mov (.c (.t (.int .i64 (-1))))⟩])
 .ret))),
 [.slot 4]⟩
theorem ok104 : compF Tryz.prog 104 [[0, 1, 7, 8]] (Cfg.mk [] [] [] [] []) = some ir104 := by kernel_rfl

/-- tenet/level.Normal -/
def ir105 : FInfo := ⟨16,
 (.seq (.reg [⟨(some 1), none, .box (.agg [(.int .i64), .slc]) (.s 0)⟩, ⟨(some 2), none, .new (.agg [(.int .i64), .slc]) (.agg [(.t (.int .i64 0)), .nilS])⟩, ⟨(some 3), none, .mov (.c (.t (.int .i64 0)))⟩])
 (.seq (.seq (.reg [⟨(some 4), none, .ld (.agg [(.int .i64), .slc]) (.s 1)⟩, ⟨(some 5), none, .call false 114 .bool [(.s 4)]⟩, ⟨(some 6), none, .un .not (.s 5)⟩])
 (.cond (.s 6)
 (.seq (.reg [⟨(some 7), none, .build [(.t (.int .i64 0)), .nilS] []⟩, ⟨none, none, .st (.agg [(.int .i64), .slc]) (.s 2) (.s 7)⟩, ⟨(some 3), none, .mov (.c (.t (.int .i64 4)))⟩])
 .ret)
 .skip))
 (.seq (.dreg [⟨(some 8), none, .fa 0 (.s 1)⟩, ⟨(some 9), none, .ld (.int .i64) (.s 8)⟩, ⟨(some 10), none, .fa 1 (.s 1)⟩, ⟨(some 11), none, .ld .slc (.s 10)⟩, ⟨(some 12), none, .call false 124 .slc [(.s 11)]⟩, ⟨(some 13), none, .call false 122 (.tup [(.agg [(.int .i64), .slc]), (.int .i64)]) [(.s 9), (.s 12)]⟩, ⟨(some 14), none, .ext 0 (.s 13)⟩, ⟨(some 15), none, .ext 1 (.s 13)⟩, ⟨none, none, .st (.agg [(.int .i64), .slc]) (.s 2) (.s 14)⟩, ⟨(some 3), none, .mov (.s 15)⟩] [0, 1, 0, 4, 12, 31, 63, 63, 255, 511])
 .ret))),
 [.cell 2 (.agg [(.int .i64), .slc]), .slot 3]⟩
theorem ok105 : compF Tryz.prog 105 [] (Cfg.mk [] [] [] [] []) = some ir105 := by kernel_rfl

/-- slices.Equal[[]tenet/api.LVar,tenet/api.LVar] -/
def ir106 : FInfo := ⟨26,
 (.seq (.reg [⟨(some 4), none, .mov (.c (.t (.bool false)))⟩])
 (.seq (.seq (.reg [⟨(some 6), none, .mov (.s 0)⟩, ⟨(some 7), none, .len (.s 6)⟩, ⟨(some 8), none, .mov (.s 1)⟩, ⟨(some 9), none, .len (.s 8)⟩, ⟨(some 10), none, .bin .neq (.s 7) (.s 9)⟩])
 (.cond (.s 10)
 (.seq (.reg [⟨(some 4), none, .mov (.c (.t (.bool false)))⟩])
 .ret)
 .skip))
 (.seq (.seq (.reg [⟨(some 11), none, .mov (.s 0)⟩, ⟨(some 12), none, .len (.s 11)⟩, ⟨(some 13), none, .mov (.c (.t (.int .i64 0)))⟩])
 (.block 0 (.loop [0, 1, 12, 13] (.seq (.reg [⟨(some 14), none, .bin .lss (.s 13) (.s 12)⟩])
 (.seq (.cond (.s 14)
 .skip
 (.exit 0))
 (.seq (.block 1 (.seq (.reg [⟨(some 15), none, .mov (.s 13)⟩, ⟨(some 5), none, .mov (.s 15)⟩])
 (.seq (.dreg [⟨(some 16), none, .mov (.s 0)⟩, ⟨(some 17), none, .mov (.s 5)⟩, ⟨(some 18), none, .ia (.agg [(.int .i64), (.int .i64)]) (.s 16) (.s 17)⟩, ⟨(some 19), none, .ld (.agg [(.int .i64), (.int .i64)]) (.s 18)⟩, ⟨(some 20), none, .mov (.s 1)⟩, ⟨(some 21), none, .mov (.s 5)⟩, ⟨(some 22), none, .ia (.agg [(.int .i64), (.int .i64)]) (.s 20) (.s 21)⟩, ⟨(some 23), none, .ld (.agg [(.int .i64), (.int .i64)]) (.s 22)⟩, ⟨(some 24), none, .eqs true (.agg [(.int .i64), (.int .i64)]) (.s 19) (.s 23)⟩] [0, 0, 3, 7, 0, 0, 48, 112, 255])
 (.cond (.s 24)
 (.seq (.reg [⟨(some 4), none, .mov (.c (.t (.bool false)))⟩])
 .ret)
 .skip))))
 (.reg [⟨(some 25), none, .bin .add (.s 13) (.c (.t (.int .i64 1)))⟩, ⟨(some 13), none, .mov (.s 25)⟩])))))))
 (.seq (.reg [⟨(some 4), none, .mov (.c (.t (.bool true)))⟩])
 .ret)))),
 [.slot 4]⟩
theorem ok106 : compF Tryz.prog 106 [[0, 1, 12, 13]] (Cfg.mk [] [] [] [] []) = some ir106 := by kernel_rfl

/-- tenet/reduce.Times -/
def ir113 : FInfo := ⟨47,
 (.seq (.reg [⟨(some 3), none, .box (.agg [.slc]) (.s 0)⟩, ⟨(some 4), none, .box (.agg [(.int .i64), (.int .i64), .str, .slc, .slc]) (.s 1)⟩, ⟨(some 6), none, .new (.agg [(.int .i64), (.int .i64), .str, .slc, .slc]) (.agg [(.t (.int .i64 0)), (.t (.int .i64 0)), (.t (.str [])), .nilS, .nilS])⟩, ⟨(some 7), none, .mov (.c (.t (.int .i64 0)))⟩])
 (.seq (.block 0 (.seq (.reg [⟨(some 12), none, .ld (.agg [(.int .i64), (.int .i64), .str, .slc, .slc]) (.s 4)⟩, ⟨(some 13), none, .call false 140 .bool [(.s 12)]⟩, ⟨(some 14), none, .un .not (.s 13)⟩, ⟨(some 11), none, .mov (.s 14)⟩])
 (.cond (.s 11)
 (.seq (.reg [⟨(some 15), none, .build [(.t (.int .i64 0)), (.t (.int .i64 0)), (.t (.str [])), .nilS, .nilS] []⟩, ⟨none, none, .st (.agg [(.int .i64), (.int .i64), .str, .slc, .slc]) (.s 6) (.s 15)⟩, ⟨(some 7), none, .mov (.c (.t (.int .i64 4)))⟩])
 .ret)
 (.seq (.reg [⟨(some 17), none, .mov (.s 2)⟩, ⟨(some 18), none, .bin .lss (.s 17) (.c (.t (.int .i64 0)))⟩, ⟨(some 19), none, .mov (.s 18)⟩, ⟨(some 20), (some (19, false)), .mov (.s 2)⟩, ⟨(some 21), (some (19, false)), .bin .gtr (.s 20) (.c (.t (.int .i64 20000)))⟩, ⟨(some 22), none, .pick (.s 19) (.c (.t (.bool true))) (.s 21)⟩, ⟨(some 16), none, .mov (.s 22)⟩])
 (.cond (.s 16)
 (.seq (.reg [⟨(some 23), none, .build [(.t (.int .i64 0)), (.t (.int .i64 0)), (.t (.str [])), .nilS, .nilS] []⟩, ⟨none, none, .st (.agg [(.int .i64), (.int .i64), .str, .slc, .slc]) (.s 6) (.s 23)⟩, ⟨(some 7), none, .mov (.c (.t (.int .i64 1)))⟩])
 .ret)
 .skip)))))
 (.seq (.reg [⟨(some 24), none, .ld (.agg [.slc]) (.s 3)⟩, ⟨(some 25), none, .callw 141 .wp [(.s 24)]⟩, ⟨(some 8), none, .mov (.s 25)⟩])
 (.seq (.seq (.reg [⟨(some 26), none, .mov (.s 2)⟩, ⟨(some 27), none, .mov (.c (.t (.int .i64 0)))⟩])
 (.block 1 (.loop [4, 6, 8, 26, 27] (.seq (.reg [⟨(some 28), none, .bin .lss (.s 27) (.s 26)⟩])
 (.seq (.cond (.s 28)
 .skip
 (.exit 1))
 (.seq (.block 2 (.seq (.reg [⟨(some 30), none, .mov (.s 8)⟩, ⟨(some 31), none, .ld (.agg [(.int .i64), (.int .i64), .str, .slc, .slc]) (.s 4)⟩, ⟨(some 32), none, .callw 142 (.tup [(.agg [(.int .i64), (.int .i64), .str, .slc, .slc, (.int .i64), .slc]), .bool]) [(.s 30), (.s 31)]⟩, ⟨(some 29), none, .mov (.s 32)⟩, ⟨(some 33), none, .ext 0 (.s 29)⟩, ⟨(some 34), none, .ext 1 (.s 29)⟩, ⟨(some 9), none, .new (.agg [(.int .i64), (.int .i64), .str, .slc, .slc, (.int .i64), .slc]) (.agg [(.t (.int .i64 0)), (.t (.int .i64 0)), (.t (.str [])), .nilS, .nilS, (.t (.int .i64 0)), .nilS])⟩, ⟨none, none, .st (.agg [(.int .i64), (.int .i64), .str, .slc, .slc, (.int .i64), .slc]) (.s 9) (.s 33)⟩, ⟨(some 10), none, .mov (.s 34)⟩])
 (.seq (.seq (.reg [⟨(some 35), none, .mov (.s 10)⟩, ⟨(some 36), none, .un .not (.s 35)⟩])
 (.cond (.s 36)
 (.seq (.reg [⟨(some 37), none, .build [(.t (.int .i64 0)), (.t (.int .i64 0)), (.t (.str [])), .nilS, .nilS] []⟩, ⟨none, none, .st (.agg [(.int .i64), (.int .i64), .str, .slc, .slc]) (.s 6) (.s 37)⟩, ⟨(some 7), none, .mov (.c (.t (.int .i64 1)))⟩])
 .ret)
 .skip))
 (.seq (.seq (.reg [⟨(some 38), none, .mov (.s 8)⟩, ⟨(some 39), none, .ld (.agg [(.int .i64), (.int .i64), .str, .slc, .slc, (.int .i64), .slc]) (.s 9)⟩, ⟨(some 40), none, .callw 143 .bool [(.s 38), (.s 39), (.c (.t (.int .i64 20000)))]⟩, ⟨(some 41), none, .un .not (.s 40)⟩])
 (.cond (.s 41)
 (.seq (.reg [⟨(some 42), none, .build [(.t (.int .i64 0)), (.t (.int .i64 0)), (.t (.str [])), .nilS, .nilS] []⟩, ⟨none, none, .st (.agg [(.int .i64), (.int .i64), .str, .slc, .slc]) (.s 6) (.s 42)⟩, ⟨(some 7), none, .mov (.c (.t (.int .i64 5)))⟩])
 .ret)
 .skip))
 (.reg [⟨(some 43), none, .fa 0 (.s 9)⟩, ⟨(some 44), none, .ld (.agg [(.int .i64), (.int .i64), .str, .slc, .slc]) (.s 43)⟩, ⟨none, none, .st (.agg [(.int .i64), (.int .i64), .str, .slc, .slc]) (.s 4) (.s 44)⟩])))))
 (.reg [⟨(some 45), none, .bin .add (.s 27) (.c (.t (.int .i64 1)))⟩, ⟨(some 27), none, .mov (.s 45)⟩])))))))
 (.seq (.reg [⟨(some 46), none, .ld (.agg [(.int .i64), (.int .i64), .str, .slc, .slc]) (.s 4)⟩, ⟨none, none, .st (.agg [(.int .i64), (.int .i64), .str, .slc, .slc]) (.s 6) (.s 46)⟩, ⟨(some 7), none, .mov (.c (.t (.int .i64 0)))⟩])
 .ret))))),
 [.cell 6 (.agg [(.int .i64), (.int .i64), .str, .slc, .slc]), .slot 7]⟩
theorem ok113 : compF Tryz.prog 113 [[4, 6, 8, 26, 27]] (Cfg.mk [] [220] [25, 32, 40] [] []) = some ir113 := by kernel_rfl

/-- tenet/level.Valid -/
def ir114 : FInfo := ⟨56,
 (.seq (.reg [⟨(some 1), none, .box (.agg [(.int .i64), .slc]) (.s 0)⟩, ⟨(some 2), none, .mov (.c (.t (.bool false)))⟩])
 (.seq (.seq (.reg [⟨(some 5), none, .fa 0 (.s 1)⟩, ⟨(some 6), none, .ld (.int .i64) (.s 5)⟩, ⟨(some 7), none, .bin .lss (.s 6) (.c (.t (.int .i64 0)))⟩, ⟨(some 8), none, .mov (.s 7)⟩, ⟨(some 9), (some (8, false)), .fa 0 (.s 1)⟩, ⟨(some 10), (some (8, false)), .ld (.int .i64) (.s 9)⟩, ⟨(some 11), (some (8, false)), .bin .gtr (.s 10) (.c (.t (.int .i64 1000)))⟩, ⟨(some 12), none, .pick (.s 8) (.c (.t (.bool true))) (.s 11)⟩, ⟨(some 13), none, .mov (.s 12)⟩, ⟨(some 14), (some (13, false)), .fa 1 (.s 1)⟩, ⟨(some 15), (some (13, false)), .ld .slc (.s 14)⟩, ⟨(some 16), (some (13, false)), .len (.s 15)⟩, ⟨(some 17), (some (13, false)), .bin .gtr (.s 16) (.c (.t (.int .i64 8)))⟩, ⟨(some 18), none, .pick (.s 13) (.c (.t (.bool true))) (.s 17)⟩])
 (.cond (.s 18)
 (.seq (.reg [⟨(some 2), none, .mov (.c (.t (.bool false)))⟩])
 .ret)
 .skip))
 (.seq (.seq (.reg [⟨(some 19), none, .fa 1 (.s 1)⟩, ⟨(some 20), none, .ld .slc (.s 19)⟩, ⟨(some 21), none, .len (.s 20)⟩, ⟨(some 22), none, .mov (.c (.t (.int .i64 0)))⟩])
 (.block 0 (.loop [1, 20, 21, 22] (.seq (.reg [⟨(some 23), none, .bin .lss (.s 22) (.s 21)⟩])
 (.seq (.cond (.s 23)
 .skip
 (.exit 0))
 (.seq (.block 1 (.seq (.reg [⟨(some 24), none, .mov (.s 22)⟩, ⟨(some 25), none, .ia (.agg [(.int .i64), (.int .i64)]) (.s 20) (.s 22)⟩, ⟨(some 26), none, .ld (.agg [(.int .i64), (.int .i64)]) (.s 25)⟩, ⟨(some 4), none, .new (.agg [(.int .i64), (.int .i64)]) (.t (.agg [(.int .i64 0), (.int .i64 0)]))⟩, ⟨(some 3), none, .mov (.s 24)⟩, ⟨none, none, .st (.agg [(.int .i64), (.int .i64)]) (.s 4) (.s 26)⟩])
 (.seq (.dreg [⟨(some 27), none, .fa 0 (.s 4)⟩, ⟨(some 28), none, .ld (.int .i64) (.s 27)⟩, ⟨(some 29), none, .bin .lss (.s 28) (.c (.t (.int .i64 0)))⟩, ⟨(some 30), none, .mov (.s 29)⟩, ⟨(some 31), (some (30, false)), .fa 0 (.s 4)⟩, ⟨(some 32), (some (30, false)), .ld (.int .i64) (.s 31)⟩, ⟨(some 33), (some (30, false)), .bin .geq (.s 32) (.c (.t (.int .i64 1200)))⟩, ⟨(some 34), none, .pick (.s 30) (.c (.t (.bool true))) (.s 33)⟩, ⟨(some 35), none, .mov (.s 34)⟩, ⟨(some 36), (some (35, false)), .fa 1 (.s 4)⟩, ⟨(some 37), (some (35, false)), .ld (.int .i64) (.s 36)⟩, ⟨(some 38), (some (35, false)), .bin .lss (.s 37) (.c (.t (.int .i64 0)))⟩, ⟨(some 39), none, .pick (.s 35) (.c (.t (.bool true))) (.s 38)⟩, ⟨(some 40), none, .mov (.s 39)⟩, ⟨(some 41), (some (40, false)), .fa 1 (.s 4)⟩, ⟨(some 42), (some (40, false)), .ld (.int .i64) (.s 41)⟩, ⟨(some 43), (some (40, false)), .bin .gtr (.s 42) (.c (.t (.int .i64 1000)))⟩, ⟨(some 44), none, .pick (.s 40) (.c (.t (.bool true))) (.s 43)⟩, ⟨(some 45), none, .mov (.s 44)⟩, ⟨(some 46), (some (45, false)), .fa 1 (.s 1)⟩, ⟨(some 47), (some (45, false)), .ld .slc (.s 46)⟩, ⟨(some 48), (some (45, false)), .mov (.s 3)⟩, ⟨(some 49), (some (45, false)), .sub (.agg [(.int .i64), (.int .i64)]) (.s 47) none (some (.s 48)) none⟩, ⟨(some 50), (some (45, false)), .fa 0 (.s 4)⟩, ⟨(some 51), (some (45, false)), .ld (.int .i64) (.s 50)⟩, ⟨(some 52), (some (45, false)), .call false 115 (.int .i64) [(.s 49), (.s 51)]⟩, ⟨(some 53), (some (45, false)), .bin .geq (.s 52) (.c (.t (.int .i64 0)))⟩, ⟨(some 54), none, .pick (.s 45) (.c (.t (.bool true))) (.s 53)⟩] [0, 1, 3, 7, 15, 31, 63, 127, 255, 511, 1023, 2047, 4095, 8191, 16383, 32767, 65535, 131071, 262143, 524287, 1048575, 524287, 4194303, 524287, 8912895, 33554431, 67108863, 134217727])
 (.cond (.s 54)
 (.seq (.reg [⟨(some 2), none, .mov (.c (.t (.bool false)))⟩])
 .ret)
 .skip))))
 (.reg [⟨(some 55), none, .bin .add (.s 22) (.c (.t (.int .i64 1)))⟩, ⟨(some 22), none, .mov (.s 55)⟩])))))))
 (.seq (.reg [⟨(some 2), none, .mov (.c (.t (.bool true)))⟩])
 .ret)))),
 [.slot 2]⟩
theorem ok114 : compF Tryz.prog 114 [[1, 20, 21, 22]] (Cfg.mk [] [] [] [] []) = some ir114 := by kernel_rfl

/-- (tenet/level.parts).most -/
def ir116 : FInfo := ⟨18,
 (.seq (.reg [⟨(some 2), none, .mov (.c (.t (.int .i64 0)))⟩])
 (.seq (.reg [⟨(some 3), none, .mov (.c (.t (.int .i64 (-1))))⟩])
 (.seq (.seq (.reg [⟨(some 6), none, .mov (.s 0)⟩, ⟨(some 7), none, .len (.s 6)⟩, ⟨(some 8), none, .mov (.c (.t (.int .i64 0)))⟩])
 (.block 0 (.loop [3, 6, 7, 8] (.seq (.reg [⟨(some 9), none, .bin .lss (.s 8) (.s 7)⟩])
 (.seq (.cond (.s 9)
 .skip
 (.exit 0))
 (.seq (.block 1 (.seq (.reg [⟨(some 10), none, .ia (.agg [(.int .i64), (.int .i64)]) (.s 6) (.s 8)⟩, ⟨(some 11), none, .ld (.agg [(.int .i64), (.int .i64)]) (.s 10)⟩, ⟨(some 5), none, .new (.agg [(.int .i64), (.int .i64)]) (.t (.agg [(.int .i64 0), (.int .i64 0)]))⟩, ⟨none, none, .st (.agg [(.int .i64), (.int .i64)]) (.s 5) (.s 11)⟩])
 (.reg [⟨(some 12), none, .mov (.s 3)⟩, ⟨(some 13), none, .fa 1 (.s 5)⟩, ⟨(some 14), none, .ld (.int .i64) (.s 13)⟩, ⟨(some 15), none, .mx (.s 12) (.s 14)⟩, ⟨(some 3), none, .mov (.s 15)⟩])))
 (.reg [⟨(some 16), none, .bin .add (.s 8) (.c (.t (.int .i64 1)))⟩, ⟨(some 8), none, .mov (.s 16)⟩])))))))
 (.seq (.reg [⟨(some 17), none, .mov (.s 3)⟩, ⟨(some 2), none, .mov (.s 17)⟩])
 .ret)))),
 [.slot 2]⟩
theorem ok116 : compF Tryz.prog 116 [[3, 6, 7, 8]] (Cfg.mk [] [] [] [] []) = some ir116 := by kernel_rfl

/-- tenet/term.Alike -/
def ir117 : FInfo := ⟨8,
 (.seq (.reg [⟨(some 2), none, .box (.agg [(.int .i64), (.int .i64), .str, .slc, .slc]) (.s 0)⟩, ⟨(some 3), none, .box (.agg [(.int .i64), (.int .i64), .str, .slc, .slc]) (.s 1)⟩, ⟨(some 4), none, .mov (.c (.t (.bool false)))⟩])
 (.seq (.reg [⟨(some 5), none, .ld (.agg [(.int .i64), (.int .i64), .str, .slc, .slc]) (.s 2)⟩, ⟨(some 6), none, .ld (.agg [(.int .i64), (.int .i64), .str, .slc, .slc]) (.s 3)⟩, ⟨(some 7), none, .call false 146 .bool [(.s 5), (.s 6), (.f 147)]⟩, ⟨(some 4), none, .mov (.s 7)⟩])
 .ret)),
 [.slot 4]⟩
theorem ok117 : compF Tryz.prog 117 [] (Cfg.mk [] [] [] [] []) = some ir117 := by kernel_rfl

/-- tenet/level.canonical -/
def ir122 : FInfo := ⟨29,
 (.seq (.reg [⟨(some 4), none, .new (.agg [(.int .i64), .slc]) (.agg [(.t (.int .i64 0)), .nilS])⟩, ⟨(some 5), none, .mov (.c (.t (.int .i64 0)))⟩])
 (.seq (.seq (.reg [⟨(some 6), none, .mov (.s 0)⟩, ⟨(some 7), none, .mov (.s 1)⟩, ⟨(some 8), none, .call false 116 (.int .i64) [(.s 7)]⟩, ⟨(some 9), none, .bin .leq (.s 6) (.s 8)⟩])
 (.cond (.s 9)
 (.reg [⟨(some 0), none, .mov (.c (.t (.int .i64 0)))⟩])
 .skip))
 (.seq (.seq (.reg [⟨(some 10), none, .mov (.s 0)⟩, ⟨(some 11), none, .bin .gtr (.s 10) (.c (.t (.int .i64 1000)))⟩, ⟨(some 12), none, .mov (.s 11)⟩, ⟨(some 13), (some (12, false)), .mov (.s 1)⟩, ⟨(some 14), (some (12, false)), .call false 116 (.int .i64) [(.s 13)]⟩, ⟨(some 15), (some (12, false)), .bin .gtr (.s 14) (.c (.t (.int .i64 1000)))⟩, ⟨(some 16), none, .pick (.s 12) (.c (.t (.bool true))) (.s 15)⟩, ⟨(some 17), none, .mov (.s 16)⟩, ⟨(some 18), (some (17, false)), .mov (.s 1)⟩, ⟨(some 19), (some (17, false)), .len (.s 18)⟩, ⟨(some 20), (some (17, false)), .bin .gtr (.s 19) (.c (.t (.int .i64 8)))⟩, ⟨(some 21), none, .pick (.s 17) (.c (.t (.bool true))) (.s 20)⟩])
 (.cond (.s 21)
 (.seq (.reg [⟨(some 22), none, .build [(.t (.int .i64 0)), .nilS] []⟩, ⟨none, none, .st (.agg [(.int .i64), .slc]) (.s 4) (.s 22)⟩, ⟨(some 5), none, .mov (.c (.t (.int .i64 2)))⟩])
 .ret)
 .skip))
 (.seq (.seq (.reg [⟨(some 23), none, .mov (.s 1)⟩, ⟨(some 24), none, .len (.s 23)⟩, ⟨(some 25), none, .bin .eql (.s 24) (.c (.t (.int .i64 0)))⟩])
 (.cond (.s 25)
 (.reg [⟨(some 1), none, .mov (.c .nilS)⟩])
 .skip))
 (.seq (.reg [⟨(some 26), none, .mov (.s 0)⟩, ⟨(some 27), none, .mov (.s 1)⟩, ⟨(some 28), none, .build [(.t (.int .i64 0)), .nilS] [(0, (.int .i64), (.s 26)), (1, .slc, (.s 27))]⟩, ⟨none, none, .st (.agg [(.int .i64), .slc]) (.s 4) (.s 28)⟩, ⟨(some 5), none, .mov (.c (.t (.int .i64 0)))⟩])
 .ret))))),
 [.cell 4 (.agg [(.int .i64), .slc]), .slot 5]⟩
theorem ok122 : compF Tryz.prog 122 [] (Cfg.mk [] [] [] [] []) = some ir122 := by kernel_rfl

/-- tenet/level.sorted -/
def ir124 : FInfo := ⟨9,
 (.seq (.reg [⟨(some 2), none, .mov (.c .nilS)⟩])
 (.seq (.reg [⟨(some 4), none, .mov (.s 0)⟩, ⟨(some 5), none, .clone (.agg [(.int .i64), (.int .i64)]) 16 (.s 4)⟩, ⟨(some 3), none, .mov (.s 5)⟩])
 (.seq (.reg [⟨(some 6), none, .mov (.s 3)⟩, ⟨(some 7), none, .call false 154 (.tup []) [(.s 6), (.f 155)]⟩])
 (.seq (.reg [⟨(some 8), none, .mov (.s 3)⟩, ⟨(some 2), none, .mov (.s 8)⟩])
 .ret)))),
 [.slot 2]⟩
theorem ok124 : compF Tryz.prog 124 [] (Cfg.mk [] [] [] [] []) = some ir124 := by kernel_rfl

/-- tenet/reduce.fits -/
def ir140 : FInfo := ⟨9,
 (.seq (.reg [⟨(some 1), none, .box (.agg [(.int .i64), (.int .i64), .str, .slc, .slc]) (.s 0)⟩, ⟨(some 2), none, .mov (.c (.t (.bool false)))⟩])
 (.seq (.reg [⟨(some 3), none, .ld (.agg [(.int .i64), (.int .i64), .str, .slc, .slc]) (.s 1)⟩, ⟨(some 4), none, .call false 161 .bool [(.s 3)]⟩, ⟨(some 5), none, .mov (.s 4)⟩, ⟨(some 6), (some (5, true)), .ld (.agg [(.int .i64), (.int .i64), .str, .slc, .slc]) (.s 1)⟩, ⟨(some 7), (some (5, true)), .call false 30 .bool [(.s 6)]⟩, ⟨(some 8), none, .pick (.s 5) (.s 7) (.c (.t (.bool false)))⟩, ⟨(some 2), none, .mov (.s 8)⟩])
 .ret)),
 [.slot 2]⟩
theorem ok140 : compF Tryz.prog 140 [] (Cfg.mk [] [] [] [] []) = some ir140 := by kernel_rfl

/-- (*tenet/reduce.machine).step -/
def ir142 : FInfo := ⟨43,
 (.seq (.reg [⟨(some 3), none, .box (.agg [(.int .i64), (.int .i64), .str, .slc, .slc]) (.s 1)⟩, ⟨(some 4), none, .new (.agg [(.int .i64), (.int .i64), .str, .slc, .slc, (.int .i64), .slc]) (.agg [(.t (.int .i64 0)), (.t (.int .i64 0)), (.t (.str [])), .nilS, .nilS, (.t (.int .i64 0)), .nilS])⟩, ⟨(some 5), none, .mov (.c (.t (.bool false)))⟩])
 (.seq (.seq (.dreg [⟨(some 6), none, .fa 0 (.s 3)⟩, ⟨(some 7), none, .ld (.int .i64) (.s 6)⟩, ⟨(some 8), none, .bin .lss (.s 7) (.c (.t (.int .i64 0)))⟩, ⟨(some 9), none, .mov (.s 8)⟩, ⟨(some 10), (some (9, false)), .fa 0 (.s 3)⟩, ⟨(some 11), (some (9, false)), .ld (.int .i64) (.s 10)⟩, ⟨(some 12), (some (9, false)), .mov (.s 0)⟩, ⟨(some 13), (some (9, false)), .nonnil (.s 12)⟩, ⟨(some 14), (some (9, false)), .fa 1 (.s 13)⟩, ⟨(some 15), (some (9, false)), .ld .slc (.s 14)⟩, ⟨(some 16), (some (9, false)), .len (.s 15)⟩, ⟨(some 17), (some (9, false)), .bin .geq (.s 11) (.s 16)⟩, ⟨(some 18), none, .pick (.s 9) (.c (.t (.bool true))) (.s 17)⟩, ⟨(some 19), none, .mov (.s 18)⟩, ⟨(some 20), (some (19, false)), .mov (.s 0)⟩, ⟨(some 21), (some (19, false)), .nonnil (.s 20)⟩, ⟨(some 22), (some (19, false)), .fa 1 (.s 21)⟩, ⟨(some 23), (some (19, false)), .ld .slc (.s 22)⟩, ⟨(some 24), (some (19, false)), .fa 0 (.s 3)⟩, ⟨(some 25), (some (19, false)), .ld (.int .i64) (.s 24)⟩, ⟨(some 26), (some (19, false)), .ia .any (.s 23) (.s 25)⟩, ⟨(some 27), (some (19, false)), .ld .any (.s 26)⟩, ⟨(some 28), (some (19, false)), .eqs false .fn (.s 27) (.c (.t .nilfn))⟩, ⟨(some 29), none, .pick (.s 19) (.c (.t (.bool true))) (.s 28)⟩] [0, 1, 3, 7, 15, 31, 15, 79, 207, 463, 975, 2047, 4095, 8191, 16383, 32767, 65535, 131071, 16383, 278527, 1048575, 2097151, 4194303, 8388607])
 (.cond (.s 29)
 (.seq (.reg [⟨(some 30), none, .build [(.t (.int .i64 0)), (.t (.int .i64 0)), (.t (.str [])), .nilS, .nilS, (.t (.int .i64 0)), .nilS] []⟩, ⟨none, none, .st (.agg [(.int .i64), (.int .i64), .str, .slc, .slc, (.int .i64), .slc]) (.s 4) (.s 30)⟩, ⟨(some 5), none, .mov (.c (.t (.bool false)))⟩])
 .ret)
 .skip))
 (.seq (.dreg [⟨(some 31), none, .mov (.s 0)⟩, ⟨(some 32), none, .nonnil (.s 31)⟩, ⟨(some 33), none, .fa 1 (.s 32)⟩, ⟨(some 34), none, .ld .slc (.s 33)⟩, ⟨(some 35), none, .fa 0 (.s 3)⟩, ⟨(some 36), none, .ld (.int .i64) (.s 35)⟩, ⟨(some 37), none, .ia .any (.s 34) (.s 36)⟩, ⟨(some 38), none, .ld .any (.s 37)⟩, ⟨(some 39), none, .ld (.agg [(.int .i64), (.int .i64), .str, .slc, .slc]) (.s 3)⟩, ⟨(some 40), none, .callvw (.s 38) (.tup [(.agg [(.int .i64), (.int .i64), .str, .slc, .slc, (.int .i64), .slc]), .bool]) [(.s 39)]⟩, ⟨(some 41), none, .ext 0 (.s 40)⟩, ⟨(some 42), none, .ext 1 (.s 40)⟩, ⟨none, none, .st (.agg [(.int .i64), (.int .i64), .str, .slc, .slc, (.int .i64), .slc]) (.s 4) (.s 41)⟩, ⟨(some 5), none, .mov (.s 42)⟩] [0, 1, 3, 7, 0, 16, 63, 127, 0, 511, 1023, 1023, 4095, 8191])
 .ret))),
 [.cell 4 (.agg [(.int .i64), (.int .i64), .str, .slc, .slc, (.int .i64), .slc]), .slot 5]⟩
theorem ok142 : compF Tryz.prog 142 [] (Cfg.mk [] [220] [40] [] []) = some ir142 := by kernel_rfl

/-- tenet/term.compared -/
def ir146 : FInfo := ⟨71,
 (.seq (.reg [⟨(some 3), none, .box (.agg [(.int .i64), (.int .i64), .str, .slc, .slc]) (.s 0)⟩, ⟨(some 4), none, .box (.agg [(.int .i64), (.int .i64), .str, .slc, .slc]) (.s 1)⟩, ⟨(some 6), none, .mov (.c (.t (.bool false)))⟩])
 (.seq (.seq (.reg [⟨(some 8), none, .fa 0 (.s 3)⟩, ⟨(some 9), none, .ld (.int .i64) (.s 8)⟩, ⟨(some 10), none, .fa 0 (.s 4)⟩, ⟨(some 11), none, .ld (.int .i64) (.s 10)⟩, ⟨(some 12), none, .bin .neq (.s 9) (.s 11)⟩, ⟨(some 13), none, .mov (.s 12)⟩, ⟨(some 14), (some (13, false)), .fa 1 (.s 3)⟩, ⟨(some 15), (some (13, false)), .ld (.int .i64) (.s 14)⟩, ⟨(some 16), (some (13, false)), .fa 1 (.s 4)⟩, ⟨(some 17), (some (13, false)), .ld (.int .i64) (.s 16)⟩, ⟨(some 18), (some (13, false)), .bin .neq (.s 15) (.s 17)⟩, ⟨(some 19), none, .pick (.s 13) (.c (.t (.bool true))) (.s 18)⟩, ⟨(some 20), none, .mov (.s 19)⟩, ⟨(some 21), (some (20, false)), .fa 2 (.s 3)⟩, ⟨(some 22), (some (20, false)), .ld .str (.s 21)⟩, ⟨(some 23), (some (20, false)), .fa 2 (.s 4)⟩, ⟨(some 24), (some (20, false)), .ld .str (.s 23)⟩, ⟨(some 25), (some (20, false)), .bin .neq (.s 22) (.s 24)⟩, ⟨(some 26), none, .pick (.s 20) (.c (.t (.bool true))) (.s 25)⟩, ⟨(some 27), none, .mov (.s 26)⟩, ⟨(some 28), (some (27, false)), .fa 4 (.s 3)⟩, ⟨(some 29), (some (27, false)), .ld .slc (.s 28)⟩, ⟨(some 30), (some (27, false)), .len (.s 29)⟩, ⟨(some 31), (some (27, false)), .fa 4 (.s 4)⟩, ⟨(some 32), (some (27, false)), .ld .slc (.s 31)⟩, ⟨(some 33), (some (27, false)), .len (.s 32)⟩, ⟨(some 34), (some (27, false)), .bin .neq (.s 30) (.s 33)⟩, ⟨(some 35), none, .pick (.s 27) (.c (.t (.bool true))) (.s 34)⟩, ⟨(some 36), none, .mov (.s 35)⟩, ⟨(some 37), (some (36, false)), .fa 3 (.s 3)⟩, ⟨(some 38), (some (36, false)), .ld .slc (.s 37)⟩, ⟨(some 39), (some (36, false)), .fa 3 (.s 4)⟩, ⟨(some 40), (some (36, false)), .ld .slc (.s 39)⟩, ⟨(some 41), (some (36, false)), .call false 170 .bool [(.s 38), (.s 40), (.f 171)]⟩, ⟨(some 42), (some (36, false)), .un .not (.s 41)⟩, ⟨(some 43), none, .pick (.s 36) (.c (.t (.bool true))) (.s 42)⟩])
 (.cond (.s 43)
 (.seq (.reg [⟨(some 6), none, .mov (.c (.t (.bool false)))⟩])
 .ret)
 .skip))
 (.seq (.seq (.reg [⟨(some 44), none, .fa 4 (.s 3)⟩, ⟨(some 45), none, .ld .slc (.s 44)⟩, ⟨(some 46), none, .len (.s 45)⟩, ⟨(some 47), none, .mov (.c (.t (.int .i64 0)))⟩])
 (.block 0 (.loop [2, 3, 4, 46, 47] (.seq (.reg [⟨(some 48), none, .bin .lss (.s 47) (.s 46)⟩])
 (.seq (.cond (.s 48)
 .skip
 (.exit 0))
 (.seq (.block 1 (.seq (.reg [⟨(some 49), none, .mov (.s 47)⟩, ⟨(some 7), none, .mov (.s 49)⟩])
 (.seq (.dreg [⟨(some 50), none, .mov (.s 2)⟩, ⟨(some 51), none, .ld (.agg [(.int .i64), (.int .i64), .str, .slc, .slc]) (.s 3)⟩, ⟨(some 52), none, .mov (.s 7)⟩, ⟨(some 53), none, .callv (.s 50) .bool [(.s 51), (.s 52)]⟩, ⟨(some 54), none, .un .not (.s 53)⟩, ⟨(some 55), none, .mov (.s 54)⟩, ⟨(some 56), (some (55, true)), .fa 4 (.s 3)⟩, ⟨(some 57), (some (55, true)), .ld .slc (.s 56)⟩, ⟨(some 58), (some (55, true)), .mov (.s 7)⟩, ⟨(some 59), (some (55, true)), .ia (.agg [(.int .i64), (.int .i64), .str, .slc, .slc]) (.s 57) (.s 58)⟩, ⟨(some 60), (some (55, true)), .ld (.agg [(.int .i64), (.int .i64), .str, .slc, .slc]) (.s 59)⟩, ⟨(some 61), (some (55, true)), .fa 4 (.s 4)⟩, ⟨(some 62), (some (55, true)), .ld .slc (.s 61)⟩, ⟨(some 63), (some (55, true)), .mov (.s 7)⟩, ⟨(some 64), (some (55, true)), .ia (.agg [(.int .i64), (.int .i64), .str, .slc, .slc]) (.s 62) (.s 63)⟩, ⟨(some 65), (some (55, true)), .ld (.agg [(.int .i64), (.int .i64), .str, .slc, .slc]) (.s 64)⟩, ⟨(some 66), (some (55, true)), .mov (.s 2)⟩, ⟨(some 67), (some (55, true)), .call false 146 .bool [(.s 60), (.s 65), (.s 66)]⟩, ⟨(some 68), (some (55, true)), .un .not (.s 67)⟩, ⟨(some 69), none, .pick (.s 55) (.s 68) (.c (.t (.bool false)))⟩] [0, 0, 0, 7, 15, 31, 63, 127, 63, 511, 1023, 63, 2111, 63, 14399, 30783, 63, 131071, 262143, 524287])
 (.cond (.s 69)
 (.seq (.reg [⟨(some 6), none, .mov (.c (.t (.bool false)))⟩])
 .ret)
 .skip))))
 (.reg [⟨(some 70), none, .bin .add (.s 47) (.c (.t (.int .i64 1)))⟩, ⟨(some 47), none, .mov (.s 70)⟩])))))))
 (.seq (.reg [⟨(some 6), none, .mov (.c (.t (.bool true)))⟩])
 .ret)))),
 [.slot 6]⟩
theorem ok146 : compF Tryz.prog 146 [[2, 3, 4, 46, 47]] (Cfg.mk [] [] [] [] []) = some ir146 := by kernel_rfl

/-- slices.SortFunc[tenet/level.parts,tenet/api.LVar] -/
def ir154 : FInfo := ⟨14,
 (.seq (.reg [⟨(some 5), none, .mov (.s 0)⟩, ⟨(some 6), none, .len (.s 5)⟩, ⟨(some 4), none, .mov (.s 6)⟩])
 (.reg [⟨(some 7), none, .mov (.s 0)⟩, ⟨(some 8), none, .mov (.s 4)⟩, ⟨(some 9), none, .mov (.s 4)⟩, ⟨(some 10), none, .conv .u64 (.s 9)⟩, ⟨(some 11), none, .call false 177 (.int .i64) [(.s 10)]⟩, ⟨(some 12), none, .mov (.s 1)⟩, ⟨(some 13), none, .call false 176 (.tup []) [(.s 7), (.c (.t (.int .i64 0))), (.s 8), (.s 11), (.s 12)]⟩])),
 []⟩
theorem ok154 : compF Tryz.prog 154 [] (Cfg.mk [] [] [] [] []) = some ir154 := by kernel_rfl

/-- tenet/reduce.few -/
def ir161 : FInfo := ⟨9,
 (.seq (.reg [⟨(some 1), none, .box (.agg [(.int .i64), (.int .i64), .str, .slc, .slc]) (.s 0)⟩, ⟨(some 2), none, .mov (.c (.t (.bool false)))⟩])
 (.seq (.reg [⟨(some 3), none, .wnew (.int .i64) (.t (.int .i64 0))⟩, ⟨none, none, .st (.int .i64) (.s 3) (.c (.t (.int .i64 0)))⟩])
 (.seq (.reg [⟨(some 4), none, .wnew .any (.t .nilfn)⟩])
 (.seq (.reg [⟨(some 5), none, .mkf 181 [] [(.s 3), (.s 4)]⟩, ⟨none, none, .st .any (.s 4) (.s 5)⟩])
 (.seq (.reg [⟨(some 6), none, .ld .any (.s 4)⟩, ⟨(some 7), none, .ld (.agg [(.int .i64), (.int .i64), .str, .slc, .slc]) (.s 1)⟩, ⟨(some 8), none, .callvw (.s 6) .bool [(.s 7)]⟩, ⟨(some 2), none, .mov (.s 8)⟩])
 .ret))))),
 [.slot 2]⟩
theorem ok161 : compF Tryz.prog 161 [] (Cfg.mk [] [3, 52] [8] [] []) = some ir161 := by kernel_rfl

/-- slices.EqualFunc[[]tenet/api.Level,[]tenet/api.Level,tenet/api.Level,tenet/api.Level] -/
def ir170 : FInfo := ⟨32,
 (.seq (.reg [⟨(some 6), none, .mov (.c (.t (.bool false)))⟩])
 (.seq (.seq (.reg [⟨(some 10), none, .mov (.s 0)⟩, ⟨(some 11), none, .len (.s 10)⟩, ⟨(some 12), none, .mov (.s 1)⟩, ⟨(some 13), none, .len (.s 12)⟩, ⟨(some 14), none, .bin .neq (.s 11) (.s 13)⟩])
 (.cond (.s 14)
 (.seq (.reg [⟨(some 6), none, .mov (.c (.t (.bool false)))⟩])
 .ret)
 .skip))
 (.seq (.seq (.reg [⟨(some 15), none, .mov (.s 0)⟩, ⟨(some 16), none, .len (.s 15)⟩, ⟨(some 17), none, .mov (.c (.t (.int .i64 0)))⟩])
 (.block 0 (.loop [1, 2, 15, 16, 17] (.seq (.reg [⟨(some 18), none, .bin .lss (.s 17) (.s 16)⟩])
 (.seq (.cond (.s 18)
 .skip
 (.exit 0))
 (.seq (.block 1 (.seq (.reg [⟨(some 19), none, .mov (.s 17)⟩, ⟨(some 20), none, .ia (.agg [(.int .i64), .slc]) (.s 15) (.s 17)⟩, ⟨(some 21), none, .ld (.agg [(.int .i64), .slc]) (.s 20)⟩, ⟨(some 8), none, .new (.agg [(.int .i64), .slc]) (.agg [(.t (.int .i64 0)), .nilS])⟩, ⟨(some 7), none, .mov (.s 19)⟩, ⟨none, none, .st (.agg [(.int .i64), .slc]) (.s 8) (.s 21)⟩])
 (.seq (.reg [⟨(some 22), none, .mov (.s 1)⟩, ⟨(some 23), none, .mov (.s 7)⟩, ⟨(some 24), none, .ia (.agg [(.int .i64), .slc]) (.s 22) (.s 23)⟩, ⟨(some 25), none, .ld (.agg [(.int .i64), .slc]) (.s 24)⟩, ⟨(some 9), none, .new (.agg [(.int .i64), .slc]) (.agg [(.t (.int .i64 0)), .nilS])⟩, ⟨none, none, .st (.agg [(.int .i64), .slc]) (.s 9) (.s 25)⟩])
 (.seq (.reg [⟨(some 26), none, .mov (.s 2)⟩, ⟨(some 27), none, .ld (.agg [(.int .i64), .slc]) (.s 8)⟩, ⟨(some 28), none, .ld (.agg [(.int .i64), .slc]) (.s 9)⟩, ⟨(some 29), none, .callv (.s 26) .bool [(.s 27), (.s 28)]⟩, ⟨(some 30), none, .un .not (.s 29)⟩])
 (.cond (.s 30)
 (.seq (.reg [⟨(some 6), none, .mov (.c (.t (.bool false)))⟩])
 .ret)
 .skip)))))
 (.reg [⟨(some 31), none, .bin .add (.s 17) (.c (.t (.int .i64 1)))⟩, ⟨(some 17), none, .mov (.s 31)⟩])))))))
 (.seq (.reg [⟨(some 6), none, .mov (.c (.t (.bool true)))⟩])
 .ret)))),
 [.slot 6]⟩
theorem ok170 : compF Tryz.prog 170 [[1, 2, 15, 16, 17]] (Cfg.mk [] [] [] [] []) = some ir170 := by kernel_rfl

/-- slices.pdqsortCmpFunc[tenet/api.LVar] -/
def ir176 : FInfo := ⟨148,
 (.seq (.reg [⟨(some 10), none, .mov (.c (.t (.bool true)))⟩])
 (.seq (.reg [⟨(some 11), none, .mov (.c (.t (.bool true)))⟩])
 (.block 0 (.loop [0, 1, 2, 3, 4, 10, 11] (.block 1 (.seq (.reg [⟨(some 21), none, .mov (.s 2)⟩, ⟨(some 22), none, .mov (.s 1)⟩, ⟨(some 23), none, .bin .sub (.s 21) (.s 22)⟩, ⟨(some 12), none, .mov (.s 23)⟩])
 (.seq (.seq (.reg [⟨(some 24), none, .mov (.s 12)⟩, ⟨(some 25), none, .bin .leq (.s 24) (.c (.t (.int .i64 12)))⟩])
 (.cond (.s 25)
 (.seq (.reg [⟨(some 26), none, .mov (.s 0)⟩, ⟨(some 27), none, .mov (.s 1)⟩, ⟨(some 28), none, .mov (.s 2)⟩, ⟨(some 29), none, .mov (.s 4)⟩, ⟨(some 30), none, .call false 203 (.tup []) [(.s 26), (.s 27), (.s 28), (.s 29)]⟩])
 .ret)
 .skip))
 (.seq (.seq (.reg [⟨(some 31), none, .mov (.s 3)⟩, ⟨(some 32), none, .bin .eql (.s 31) (.c (.t (.int .i64 0)))⟩])
 (.cond (.s 32)
 (.seq (.reg [⟨(some 33), none, .mov (.s 0)⟩, ⟨(some 34), none, .mov (.s 1)⟩, ⟨(some 35), none, .mov (.s 2)⟩, ⟨(some 36), none, .mov (.s 4)⟩, ⟨(some 37), none, .call false 204 (.tup []) [(.s 33), (.s 34), (.s 35), (.s 36)]⟩])
 .ret)
 .skip))
 (.seq (.seq (.reg [⟨(some 38), none, .mov (.s 10)⟩, ⟨(some 39), none, .un .not (.s 38)⟩])
 (.cond (.s 39)
 (.seq (.reg [⟨(some 40), none, .mov (.s 0)⟩, ⟨(some 41), none, .mov (.s 1)⟩, ⟨(some 42), none, .mov (.s 2)⟩, ⟨(some 43), none, .mov (.s 4)⟩, ⟨(some 44), none, .call false 205 (.tup []) [(.s 40), (.s 41), (.s 42), (.s 43)]⟩])
 (.reg [⟨(some 45), none, .mov (.s 3)⟩, ⟨(some 46), none, .bin .sub (.s 45) (.c (.t (.int .i64 1)))⟩, ⟨(some 3), none, .mov (.s 46)⟩]))
 .skip))
 (.seq (.reg [⟨(some 48), none, .mov (.s 0)⟩, ⟨(some 49), none, .mov (.s 1)⟩, ⟨(some 50), none, .mov (.s 2)⟩, ⟨(some 51), none, .mov (.s 4)⟩, ⟨(some 52), none, .call false 206 (.tup [(.int .i64), (.int .i64)]) [(.s 48), (.s 49), (.s 50), (.s 51)]⟩, ⟨(some 47), none, .mov (.s 52)⟩, ⟨(some 53), none, .ext 0 (.s 47)⟩, ⟨(some 54), none, .ext 1 (.s 47)⟩, ⟨(some 13), none, .mov (.s 53)⟩, ⟨(some 14), none, .mov (.s 54)⟩])
 (.seq (.seq (.reg [⟨(some 55), none, .mov (.s 14)⟩, ⟨(some 56), none, .bin .eql (.s 55) (.c (.t (.int .i64 2)))⟩])
 (.cond (.s 56)
 (.seq (.reg [⟨(some 57), none, .mov (.s 0)⟩, ⟨(some 58), none, .mov (.s 1)⟩, ⟨(some 59), none, .mov (.s 2)⟩, ⟨(some 60), none, .mov (.s 4)⟩, ⟨(some 61), none, .call false 207 (.tup []) [(.s 57), (.s 58), (.s 59), (.s 60)]⟩])
 (.seq (.reg [⟨(some 62), none, .mov (.s 2)⟩, ⟨(some 63), none, .bin .sub (.s 62) (.c (.t (.int .i64 1)))⟩, ⟨(some 64), none, .mov (.s 13)⟩, ⟨(some 65), none, .mov (.s 1)⟩, ⟨(some 66), none, .bin .sub (.s 64) (.s 65)⟩, ⟨(some 67), none, .bin .sub (.s 63) (.s 66)⟩, ⟨(some 13), none, .mov (.s 67)⟩])
 (.reg [⟨(some 14), none, .mov (.c (.t (.int .i64 1)))⟩])))
 .skip))
 (.seq (.seq (.reg [⟨(some 68), none, .mov (.s 10)⟩, ⟨(some 69), none, .mov (.s 68)⟩, ⟨(some 70), (some (69, true)), .mov (.s 11)⟩, ⟨(some 71), none, .pick (.s 69) (.s 70) (.c (.t (.bool false)))⟩, ⟨(some 72), none, .mov (.s 71)⟩, ⟨(some 73), (some (72, true)), .mov (.s 14)⟩, ⟨(some 74), (some (72, true)), .bin .eql (.s 73) (.c (.t (.int .i64 1)))⟩, ⟨(some 75), none, .pick (.s 72) (.s 74) (.c (.t (.bool false)))⟩])
 (.cond (.s 75)
 (.seq (.reg [⟨(some 76), none, .mov (.s 0)⟩, ⟨(some 77), none, .mov (.s 1)⟩, ⟨(some 78), none, .mov (.s 2)⟩, ⟨(some 79), none, .mov (.s 4)⟩, ⟨(some 80), none, .call false 208 .bool [(.s 76), (.s 77), (.s 78), (.s 79)]⟩])
 (.cond (.s 80)
 .ret
 .skip))
 .skip))
 (.seq (.seq (.dreg [⟨(some 81), none, .mov (.s 1)⟩, ⟨(some 82), none, .bin .gtr (.s 81) (.c (.t (.int .i64 0)))⟩, ⟨(some 83), none, .mov (.s 82)⟩, ⟨(some 84), (some (83, true)), .mov (.s 4)⟩, ⟨(some 85), (some (83, true)), .mov (.s 0)⟩, ⟨(some 86), (some (83, true)), .mov (.s 1)⟩, ⟨(some 87), (some (83, true)), .bin .sub (.s 86) (.c (.t (.int .i64 1)))⟩, ⟨(some 88), (some (83, true)), .ia (.agg [(.int .i64), (.int .i64)]) (.s 85) (.s 87)⟩, ⟨(some 89), (some (83, true)), .ld (.agg [(.int .i64), (.int .i64)]) (.s 88)⟩, ⟨(some 90), (some (83, true)), .mov (.s 0)⟩, ⟨(some 91), (some (83, true)), .mov (.s 13)⟩, ⟨(some 92), (some (83, true)), .ia (.agg [(.int .i64), (.int .i64)]) (.s 90) (.s 91)⟩, ⟨(some 93), (some (83, true)), .ld (.agg [(.int .i64), (.int .i64)]) (.s 92)⟩, ⟨(some 94), (some (83, true)), .callv (.s 84) (.int .i64) [(.s 89), (.s 93)]⟩, ⟨(some 95), (some (83, true)), .bin .lss (.s 94) (.c (.t (.int .i64 0)))⟩, ⟨(some 96), (some (83, true)), .un .not (.s 95)⟩, ⟨(some 97), none, .pick (.s 83) (.s 96) (.c (.t (.bool false)))⟩] [0, 1, 3, 7, 7, 7, 39, 119, 247, 7, 7, 1543, 3591, 8191, 16383, 32767, 65535])
 (.cond (.s 97)
 (.seq (.reg [⟨(some 98), none, .mov (.s 0)⟩, ⟨(some 99), none, .mov (.s 1)⟩, ⟨(some 100), none, .mov (.s 2)⟩, ⟨(some 101), none, .mov (.s 13)⟩, ⟨(some 102), none, .mov (.s 4)⟩, ⟨(some 103), none, .call false 209 (.int .i64) [(.s 98), (.s 99), (.s 100), (.s 101), (.s 102)]⟩, ⟨(some 15), none, .mov (.s 103)⟩])
 (.seq (.reg [⟨(some 104), none, .mov (.s 15)⟩, ⟨(some 1), none, .mov (.s 104)⟩])
 (.exit 1)))
 .skip))
 (.seq (.reg [⟨(some 106), none, .mov (.s 0)⟩, ⟨(some 107), none, .mov (.s 1)⟩, ⟨(some 108), none, .mov (.s 2)⟩, ⟨(some 109), none, .mov (.s 13)⟩, ⟨(some 110), none, .mov (.s 4)⟩, ⟨(some 111), none, .call false 210 (.tup [(.int .i64), .bool]) [(.s 106), (.s 107), (.s 108), (.s 109), (.s 110)]⟩, ⟨(some 105), none, .mov (.s 111)⟩, ⟨(some 112), none, .ext 0 (.s 105)⟩, ⟨(some 113), none, .ext 1 (.s 105)⟩, ⟨(some 16), none, .mov (.s 112)⟩, ⟨(some 17), none, .mov (.s 113)⟩])
 (.seq (.reg [⟨(some 114), none, .mov (.s 17)⟩, ⟨(some 11), none, .mov (.s 114)⟩])
 (.seq (.reg [⟨(some 115), none, .mov (.s 16)⟩, ⟨(some 116), none, .mov (.s 1)⟩, ⟨(some 117), none, .bin .sub (.s 115) (.s 116)⟩, ⟨(some 118), none, .mov (.s 2)⟩, ⟨(some 119), none, .mov (.s 16)⟩, ⟨(some 120), none, .bin .sub (.s 118) (.s 119)⟩, ⟨(some 18), none, .mov (.s 117)⟩, ⟨(some 19), none, .mov (.s 120)⟩])
 (.seq (.reg [⟨(some 121), none, .mov (.s 12)⟩, ⟨(some 122), none, .bin .quo (.s 121) (.c (.t (.int .i64 8)))⟩, ⟨(some 20), none, .mov (.s 122)⟩])
 (.seq (.reg [⟨(some 123), none, .mov (.s 18)⟩, ⟨(some 124), none, .mov (.s 19)⟩, ⟨(some 125), none, .bin .lss (.s 123) (.s 124)⟩])
 (.cond (.s 125)
 (.seq (.reg [⟨(some 126), none, .mov (.s 18)⟩, ⟨(some 127), none, .mov (.s 20)⟩, ⟨(some 128), none, .bin .geq (.s 126) (.s 127)⟩, ⟨(some 10), none, .mov (.s 128)⟩])
 (.seq (.reg [⟨(some 129), none, .mov (.s 0)⟩, ⟨(some 130), none, .mov (.s 1)⟩, ⟨(some 131), none, .mov (.s 16)⟩, ⟨(some 132), none, .mov (.s 3)⟩, ⟨(some 133), none, .mov (.s 4)⟩, ⟨(some 134), none, .call false 176 (.tup []) [(.s 129), (.s 130), (.s 131), (.s 132), (.s 133)]⟩])
 (.reg [⟨(some 135), none, .mov (.s 16)⟩, ⟨(some 136), none, .bin .add (.s 135) (.c (.t (.int .i64 1)))⟩, ⟨(some 1), none, .mov (.s 136)⟩])))
 (.seq (.reg [⟨(some 137), none, .mov (.s 19)⟩, ⟨(some 138), none, .mov (.s 20)⟩, ⟨(some 139), none, .bin .geq (.s 137) (.s 138)⟩, ⟨(some 10), none, .mov (.s 139)⟩])
 (.seq (.reg [⟨(some 140), none, .mov (.s 0)⟩, ⟨(some 141), none, .mov (.s 16)⟩, ⟨(some 142), none, .bin .add (.s 141) (.c (.t (.int .i64 1)))⟩, ⟨(some 143), none, .mov (.s 2)⟩, ⟨(some 144), none, .mov (.s 3)⟩, ⟨(some 145), none, .mov (.s 4)⟩, ⟨(some 146), none, .call false 176 (.tup []) [(.s 140), (.s 142), (.s 143), (.s 144), (.s 145)]⟩])
 (.reg [⟨(some 147), none, .mov (.s 16)⟩, ⟨(some 2), none, .mov (.s 147)⟩])))))))))))))))))))))),
 []⟩
theorem ok176 : compF Tryz.prog 176 [[0, 1, 2, 3, 4, 10, 11]] (Cfg.mk [] [] [] [] []) = some ir176 := by kernel_rfl

/-- math/bits.Len -/
def ir177 : FInfo := ⟨8,
 (.seq (.reg [⟨(some 2), none, .mov (.c (.t (.int .i64 0)))⟩])
 (.seq (.cond (.c (.t (.bool false)))
 (.seq (.reg [⟨(some 3), none, .mov (.s 0)⟩, ⟨(some 4), none, .conv .u32 (.s 3)⟩, ⟨(some 5), none, .call false 211 (.int .i64) [(.s 4)]⟩, ⟨(some 2), none, .mov (.s 5)⟩])
 .ret)
 .skip)
 (.seq (.reg [⟨(some 6), none, .mov (.s 0)⟩, ⟨(some 7), none, .call false 212 (.int .i64) [(.s 6)]⟩, ⟨(some 2), none, .mov (.s 7)⟩])
 .ret))),
 [.slot 2]⟩
theorem ok177 : compF Tryz.prog 177 [] (Cfg.mk [] [] [] [] []) = some ir177 := by kernel_rfl

/-- tenet/reduce.few$1 -/
def ir181 : FInfo := ⟨23,
 (.seq (.reg [⟨(some 3), none, .box (.agg [(.int .i64), (.int .i64), .str, .slc, .slc]) (.s 0)⟩, ⟨(some 4), none, .mov (.c (.t (.bool false)))⟩])
 (.seq (.reg [⟨(some 7), none, .ld (.int .i64) (.s 1)⟩, ⟨(some 8), none, .bin .add (.s 7) (.c (.t (.int .i64 1)))⟩, ⟨none, none, .st (.int .i64) (.s 1) (.s 8)⟩])
 (.seq (.seq (.reg [⟨(some 9), none, .ld (.int .i64) (.s 1)⟩, ⟨(some 10), none, .bin .gtr (.s 9) (.c (.t (.int .i64 20000)))⟩])
 (.cond (.s 10)
 (.seq (.reg [⟨(some 4), none, .mov (.c (.t (.bool false)))⟩])
 .ret)
 .skip))
 (.seq (.seq (.reg [⟨(some 11), none, .fa 4 (.s 3)⟩, ⟨(some 12), none, .ld .slc (.s 11)⟩, ⟨(some 13), none, .len (.s 12)⟩, ⟨(some 14), none, .mov (.c (.t (.int .i64 0)))⟩])
 (.block 0 (.loop [2, 12, 13, 14] (.seq (.reg [⟨(some 15), none, .bin .lss (.s 14) (.s 13)⟩])
 (.seq (.cond (.s 15)
 .skip
 (.exit 0))
 (.seq (.block 1 (.seq (.reg [⟨(some 16), none, .ia (.agg [(.int .i64), (.int .i64), .str, .slc, .slc]) (.s 12) (.s 14)⟩, ⟨(some 17), none, .ld (.agg [(.int .i64), (.int .i64), .str, .slc, .slc]) (.s 16)⟩, ⟨(some 6), none, .new (.agg [(.int .i64), (.int .i64), .str, .slc, .slc]) (.agg [(.t (.int .i64 0)), (.t (.int .i64 0)), (.t (.str [])), .nilS, .nilS])⟩, ⟨none, none, .st (.agg [(.int .i64), (.int .i64), .str, .slc, .slc]) (.s 6) (.s 17)⟩])
 (.seq (.reg [⟨(some 18), none, .ld .any (.s 2)⟩, ⟨(some 19), none, .ld (.agg [(.int .i64), (.int .i64), .str, .slc, .slc]) (.s 6)⟩, ⟨(some 20), none, .callvw (.s 18) .bool [(.s 19)]⟩, ⟨(some 21), none, .un .not (.s 20)⟩])
 (.cond (.s 21)
 (.seq (.reg [⟨(some 4), none, .mov (.c (.t (.bool false)))⟩])
 .ret)
 .skip))))
 (.reg [⟨(some 22), none, .bin .add (.s 14) (.c (.t (.int .i64 1)))⟩, ⟨(some 14), none, .mov (.s 22)⟩])))))))
 (.seq (.reg [⟨(some 4), none, .mov (.c (.t (.bool true)))⟩])
 .ret))))),
 [.slot 4]⟩
theorem ok181 : compF Tryz.prog 181 [[2, 12, 13, 14]] (Cfg.mk [] [] [20] [] []) = some ir181 := by kernel_rfl

/-- slices.insertionSortCmpFunc[tenet/api.LVar] -/
def ir203 : FInfo := ⟨53,
 (.seq (.reg [⟨(some 10), none, .mov (.s 1)⟩, ⟨(some 11), none, .bin .add (.s 10) (.c (.t (.int .i64 1)))⟩, ⟨(some 8), none, .mov (.s 11)⟩])
 (.block 0 (.loop [0, 1, 2, 3, 8] (.seq (.seq (.reg [⟨(some 12), none, .mov (.s 8)⟩, ⟨(some 13), none, .mov (.s 2)⟩, ⟨(some 14), none, .bin .lss (.s 12) (.s 13)⟩])
 (.cond (.s 14)
 .skip
 (.exit 0)))
 (.seq (.block 1 (.seq (.reg [⟨(some 17), none, .mov (.s 8)⟩, ⟨(some 9), none, .mov (.s 17)⟩])
 (.block 2 (.loop [0, 1, 2, 3, 8, 9] (.seq (.seq (.dreg [⟨(some 18), none, .mov (.s 9)⟩, ⟨(some 19), none, .mov (.s 1)⟩, ⟨(some 20), none, .bin .gtr (.s 18) (.s 19)⟩, ⟨(some 21), none, .mov (.s 20)⟩, ⟨(some 22), (some (21, true)), .mov (.s 3)⟩, ⟨(some 23), (some (21, true)), .mov (.s 0)⟩, ⟨(some 24), (some (21, true)), .mov (.s 9)⟩, ⟨(some 25), (some (21, true)), .ia (.agg [(.int .i64), (.int .i64)]) (.s 23) (.s 24)⟩, ⟨(some 26), (some (21, true)), .ld (.agg [(.int .i64), (.int .i64)]) (.s 25)⟩, ⟨(some 27), (some (21, true)), .mov (.s 0)⟩, ⟨(some 28), (some (21, true)), .mov (.s 9)⟩, ⟨(some 29), (some (21, true)), .bin .sub (.s 28) (.c (.t (.int .i64 1)))⟩, ⟨(some 30), (some (21, true)), .ia (.agg [(.int .i64), (.int .i64)]) (.s 27) (.s 29)⟩, ⟨(some 31), (some (21, true)), .ld (.agg [(.int .i64), (.int .i64)]) (.s 30)⟩, ⟨(some 32), (some (21, true)), .callv (.s 22) (.int .i64) [(.s 26), (.s 31)]⟩, ⟨(some 33), (some (21, true)), .bin .lss (.s 32) (.c (.t (.int .i64 0)))⟩, ⟨(some 34), none, .pick (.s 21) (.s 33) (.c (.t (.bool false)))⟩] [0, 0, 3, 7, 15, 15, 15, 111, 239, 15, 15, 1039, 3599, 7695, 16383, 32767, 65535])
 (.cond (.s 34)
 .skip
 (.exit 2)))
 (.seq (.block 3 (.dreg [⟨(some 37), none, .mov (.s 0)⟩, ⟨(some 38), none, .mov (.s 9)⟩, ⟨(some 39), none, .mov (.s 0)⟩, ⟨(some 40), none, .mov (.s 9)⟩, ⟨(some 41), none, .bin .sub (.s 40) (.c (.t (.int .i64 1)))⟩, ⟨(some 42), none, .mov (.s 0)⟩, ⟨(some 43), none, .mov (.s 9)⟩, ⟨(some 44), none, .bin .sub (.s 43) (.c (.t (.int .i64 1)))⟩, ⟨(some 45), none, .ia (.agg [(.int .i64), (.int .i64)]) (.s 42) (.s 44)⟩, ⟨(some 46), none, .ld (.agg [(.int .i64), (.int .i64)]) (.s 45)⟩, ⟨(some 47), none, .mov (.s 0)⟩, ⟨(some 48), none, .mov (.s 9)⟩, ⟨(some 49), none, .ia (.agg [(.int .i64), (.int .i64)]) (.s 47) (.s 48)⟩, ⟨(some 50), none, .ld (.agg [(.int .i64), (.int .i64)]) (.s 49)⟩, ⟨(some 51), none, .ia (.agg [(.int .i64), (.int .i64)]) (.s 37) (.s 38)⟩, ⟨none, none, .st (.agg [(.int .i64), (.int .i64)]) (.s 51) (.s 46)⟩, ⟨(some 52), none, .ia (.agg [(.int .i64), (.int .i64)]) (.s 39) (.s 41)⟩, ⟨none, none, .st (.agg [(.int .i64), (.int .i64)]) (.s 52) (.s 50)⟩] [0, 0, 0, 0, 8, 0, 0, 64, 224, 480, 0, 0, 3072, 7168, 16355, 32739, 65535, 131071]))
 (.reg [⟨(some 35), none, .mov (.s 9)⟩, ⟨(some 36), none, .bin .sub (.s 35) (.c (.t (.int .i64 1)))⟩, ⟨(some 9), none, .mov (.s 36)⟩])))))))
 (.reg [⟨(some 15), none, .mov (.s 8)⟩, ⟨(some 16), none, .bin .add (.s 15) (.c (.t (.int .i64 1)))⟩, ⟨(some 8), none, .mov (.s 16)⟩])))))),
 []⟩
theorem ok203 : compF Tryz.prog 203 [[0, 1, 2, 3, 8], [0, 1, 2, 3, 8, 9]] (Cfg.mk [] [] [] [] []) = some ir203 := by kernel_rfl

/-- math/bits.Len64 -/
def ir212 : FInfo := ⟨25,
 (.seq (.reg [⟨(some 2), none, .mov (.c (.t (.int .i64 0)))⟩])
 (.seq (.seq (.reg [⟨(some 3), none, .mov (.s 0)⟩, ⟨(some 4), none, .bin .geq (.s 3) (.c (.t (.int .u64 4294967296)))⟩])
 (.cond (.s 4)
 (.seq (.reg [⟨(some 5), none, .mov (.s 0)⟩, ⟨(some 6), none, .bin .shr (.s 5) (.c (.t (.int .u64 32)))⟩, ⟨(some 0), none, .mov (.s 6)⟩])
 (.reg [⟨(some 2), none, .mov (.c (.t (.int .i64 32)))⟩]))
 .skip))
 (.seq (.seq (.reg [⟨(some 7), none, .mov (.s 0)⟩, ⟨(some 8), none, .bin .geq (.s 7) (.c (.t (.int .u64 65536)))⟩])
 (.cond (.s 8)
 (.seq (.reg [⟨(some 9), none, .mov (.s 0)⟩, ⟨(some 10), none, .bin .shr (.s 9) (.c (.t (.int .u64 16)))⟩, ⟨(some 0), none, .mov (.s 10)⟩])
 (.reg [⟨(some 11), none, .mov (.s 2)⟩, ⟨(some 12), none, .bin .add (.s 11) (.c (.t (.int .i64 16)))⟩, ⟨(some 2), none, .mov (.s 12)⟩]))
 .skip))
 (.seq (.seq (.reg [⟨(some 13), none, .mov (.s 0)⟩, ⟨(some 14), none, .bin .geq (.s 13) (.c (.t (.int .u64 256)))⟩])
 (.cond (.s 14)
 (.seq (.reg [⟨(some 15), none, .mov (.s 0)⟩, ⟨(some 16), none, .bin .shr (.s 15) (.c (.t (.int .u64 8)))⟩, ⟨(some 0), none, .mov (.s 16)⟩])
 (.reg [⟨(some 17), none, .mov (.s 2)⟩, ⟨(some 18), none, .bin .add (.s 17) (.c (.t (.int .i64 8)))⟩, ⟨(some 2), none, .mov (.s 18)⟩]))
 .skip))
 (.seq (.reg [⟨(some 19), none, .mov (.s 2)⟩, ⟨(some 20), none, .mov (.s 0)⟩, ⟨(some 21), none, .conv .u8 (.s 20)⟩, ⟨(some 22), none, .ixs (.c (.t (.str [0, 1, 2, 2, 3, 3, 3, 3, 4, 4, 4, 4, 4, 4, 4, 4, 5, 5, 5, 5, 5, 5, 5, 5, 5, 5, 5, 5, 5, 5, 5, 5, 6, 6, 6, 6, 6, 6, 6, 6, 6, 6, 6, 6, 6, 6, 6, 6, 6, 6, 6, 6, 6, 6, 6, 6, 6, 6, 6, 6, 6, 6, 6, 6, 7, 7, 7, 7, 7, 7, 7, 7, 7, 7, 7, 7, 7, 7, 7, 7, 7, 7, 7, 7, 7, 7, 7, 7, 7, 7, 7, 7, 7, 7, 7, 7, 7, 7, 7, 7, 7, 7, 7, 7, 7, 7, 7, 7, 7, 7, 7, 7, 7, 7, 7, 7, 7, 7, 7, 7, 7, 7, 7, 7, 7, 7, 7, 7, 8, 8, 8, 8, 8, 8, 8, 8, 8, 8, 8, 8, 8, 8, 8, 8, 8, 8, 8, 8, 8, 8, 8, 8, 8, 8, 8, 8, 8, 8, 8, 8, 8, 8, 8, 8, 8, 8, 8, 8, 8, 8, 8, 8, 8, 8, 8, 8, 8, 8, 8, 8, 8, 8, 8, 8, 8, 8, 8, 8, 8, 8, 8, 8, 8, 8, 8, 8, 8, 8, 8, 8, 8, 8, 8, 8, 8, 8, 8, 8, 8, 8, 8, 8, 8, 8, 8, 8, 8, 8, 8, 8, 8, 8, 8, 8, 8, 8, 8, 8, 8, 8, 8, 8, 8, 8, 8, 8, 8, 8, 8, 8, 8, 8, 8, 8, 8, 8, 8, 8, 8, 8, 8, 8, 8, 8, 8, 8]))) (.s 21)⟩, ⟨(some 23), none, .conv .i64 (.s 22)⟩, ⟨(some 24), none, .bin .add (.s 19) (.s 23)⟩, ⟨(some 2), none, .mov (.s 24)⟩])
 .ret))))),
 [.slot 2]⟩
theorem ok212 : compF Tryz.prog 212 [] (Cfg.mk [] [] [] [] []) = some ir212 := by kernel_rfl


end Go.Proofs.Dw.Za
end

/-
  CertSizes: table.named, where no node is refused.
-/
section
set_option maxRecDepth 100000
namespace Go.Proofs.Dw.Za
open Go.Proofs

namespace N35
/-- tenet/table.named -/
def ir35 : FInfo := ⟨41,
 (.seq (.reg [⟨(some 4), none, .box (.agg [.slc]) (.s 0)⟩, ⟨(some 6), none, .box (.agg [(.int .i64), (.int .i64), .str, .slc, .slc]) (.s 2)⟩, ⟨(some 8), none, .mov (.c (.t .nili))⟩])
 (.seq (.seq (.reg [⟨(some 13), none, .ld (.agg [.slc]) (.s 4)⟩, ⟨(some 14), none, .mov (.s 1)⟩, ⟨(some 15), none, .ld (.agg [(.int .i64), (.int .i64), .str, .slc, .slc]) (.s 6)⟩, ⟨(some 16), none, .mov (.s 3)⟩, ⟨(some 17), none, .call false 51 .any [(.s 13), (.s 14), (.s 15), (.s 16)]⟩, ⟨(some 9), none, .mov (.s 17)⟩])
 (.seq (.reg [⟨(some 18), none, .mov (.s 9)⟩, ⟨(some 19), none, .eqs true .ifc (.s 18) (.c (.t .nili))⟩])
 (.cond (.s 19)
 (.seq (.reg [⟨(some 20), none, .mov (.s 9)⟩, ⟨(some 8), none, .mov (.s 20)⟩])
 .ret)
 .skip)))
 (.seq (.seq (.reg [⟨(some 21), none, .fa 4 (.s 6)⟩, ⟨(some 22), none, .ld .slc (.s 21)⟩, ⟨(some 23), none, .len (.s 22)⟩, ⟨(some 24), none, .mov (.c (.t (.int .i64 0)))⟩])
 (.block 0 (.loop [1, 3, 4, 22, 23, 24] (.seq (.reg [⟨(some 25), none, .bin .lss (.s 24) (.s 23)⟩])
 (.seq (.cond (.s 25)
 .skip
 (.exit 0))
 (.seq (.block 1 (.seq (.reg [⟨(some 26), none, .mov (.s 24)⟩, ⟨(some 27), none, .ia (.agg [(.int .i64), (.int .i64), .str, .slc, .slc]) (.s 22) (.s 24)⟩, ⟨(some 28), none, .ld (.agg [(.int .i64), (.int .i64), .str, .slc, .slc]) (.s 27)⟩, ⟨(some 11), none, .new (.agg [(.int .i64), (.int .i64), .str, .slc, .slc]) (.agg [(.t (.int .i64 0)), (.t (.int .i64 0)), (.t (.str [])), .nilS, .nilS])⟩, ⟨(some 10), none, .mov (.s 26)⟩, ⟨none, none, .st (.agg [(.int .i64), (.int .i64), .str, .slc, .slc]) (.s 11) (.s 28)⟩])
 (.seq (.dreg [⟨(some 29), none, .ld (.agg [.slc]) (.s 4)⟩, ⟨(some 30), none, .mov (.s 1)⟩, ⟨(some 31), none, .ld (.agg [(.int .i64), (.int .i64), .str, .slc, .slc]) (.s 11)⟩, ⟨(some 32), none, .mov (.s 3)⟩, ⟨(some 33), none, .mov (.s 10)⟩, ⟨(some 34), none, .bsl (.int .i64) (.t (.int .i64 0)) 1 [(0, (.s 33))]⟩, ⟨(some 35), none, .app (.int .i64) 8 (.s 32) (.s 34)⟩, ⟨(some 36), none, .call true 35 .any [(.s 29), (.s 30), (.s 31), (.s 35)]⟩, ⟨(some 12), none, .mov (.s 36)⟩] [0, 0, 0, 0, 0, 16, 56, 127, 255])
 (.seq (.reg [⟨(some 37), none, .mov (.s 12)⟩, ⟨(some 38), none, .eqs true .ifc (.s 37) (.c (.t .nili))⟩])
 (.cond (.s 38)
 (.seq (.reg [⟨(some 39), none, .mov (.s 12)⟩, ⟨(some 8), none, .mov (.s 39)⟩])
 .ret)
 .skip)))))
 (.reg [⟨(some 40), none, .bin .add (.s 24) (.c (.t (.int .i64 1)))⟩, ⟨(some 24), none, .mov (.s 40)⟩])))))))
 (.seq (.reg [⟨(some 8), none, .mov (.c (.t .nili))⟩])
 .ret)))),
 [.slot 8]⟩
theorem ok35 : compF Tryz.prog 35 [[1, 3, 4, 22, 23, 24]] (Cfg.mk [36] [] [] [] []) = some ir35 := by kernel_rfl


def sL : Code → Code | .seq a _ => a | c => c
def sR : Code → Code | .seq _ b => b | c => c
def bk : Code → Code | .block _ b => b | .loop b => b | c => c
def iL : ICode → ICode | .seq a _ => a | c => c
def iR : ICode → ICode | .seq _ b => b | c => c
def ik : ICode → ICode | .block _ b => b | .loop _ b => b | c => c
noncomputable def b35 : Code := match Tryz.f35.body with | some c => c | none => .skip

noncomputable def r0 : Code := sL b35
noncomputable def q1 : Code := sL (sR b35)
noncomputable def r1 : Code := sL q1
noncomputable def q2 : Code := sR q1
noncomputable def q4 : Code := sL (sR (sR b35))
noncomputable def r4 : Code := sL q4
noncomputable def lb : Code := bk (bk (sR q4))
noncomputable def r5 : Code := sL lb
noncomputable def c5 : Code := sL (sR lb)
noncomputable def k1 : Code := bk (sL (sR (sR lb)))
noncomputable def r6 : Code := sL k1
noncomputable def r7 : Code := sL (sR k1)
noncomputable def q8 : Code := sR (sR k1)
noncomputable def r10 : Code := sR (sR (sR lb))
noncomputable def r11 : Code := sR (sR (sR b35))

theorem b35_eq : b35 = .seq r0 (.seq (.seq r1 q2) (.seq (.seq r4 (.block 0 (.loop (.seq r5 (.seq c5 (.seq (.block 1 (.seq r6 (.seq r7 q8))) r10)))))) r11)) := by kernel_rfl

def opsOf : Code → Array Oper | .region _ ops _ => ops | _ => #[]
noncomputable def ops1 : Array Oper := opsOf r1
noncomputable def ops7 : Array Oper := opsOf r7
theorem r1_eq : r1 = .region 1 ops1 false := by kernel_rfl
theorem r7_eq : r7 = .region 7 ops7 true := by kernel_rfl

def i0 : ICode := iL ir35.body
def iq2 : ICode := iR (iL (iR ir35.body))
def i4 : ICode := iL (iL (iR (iR ir35.body)))
def il : ICode := ik (ik (iR (iL (iR (iR ir35.body)))))
def i5 : ICode := iL il
def ic5 : ICode := iL (iR il)
def ik1 : ICode := ik (iL (iR (iR il)))
def i6 : ICode := iL ik1
def iq8 : ICode := iR (iR ik1)
def i10 : ICode := iR (iR (iR il))
def i11 : ICode := iR (iR (iR ir35.body))
def g0 : Cfg := Cfg.mk [] [] [] [] []
theorem m0 : comp Tryz.prog g0 r0 [] = some (i0, []) := by kernel_rfl
theorem mq2 : comp Tryz.prog g0 q2 [] = some (iq2, []) := by kernel_rfl
theorem m4 : comp Tryz.prog g0 r4 [] = some (i4, []) := by kernel_rfl
theorem m5 : comp Tryz.prog g0 r5 [] = some (i5, []) := by kernel_rfl
theorem mc5 : comp Tryz.prog g0 c5 [] = some (ic5, []) := by kernel_rfl
theorem m6 : comp Tryz.prog g0 r6 [] = some (i6, []) := by kernel_rfl
theorem mq8 : comp Tryz.prog g0 q8 [] = some (iq8, []) := by kernel_rfl
theorem m10 : comp Tryz.prog g0 r10 [] = some (i10, []) := by kernel_rfl
theorem m11 : comp Tryz.prog g0 r11 [] = some (i11, []) := by kernel_rfl

def regs : ICode → List IOper | .reg l => l | .dreg l _ => l | _ => []
def i1 : List IOper := (regs (iL (iL (iR ir35.body)))).take 4
def i1b : List IOper := (regs (iL (iL (iR ir35.body)))).drop 5
theorem m1 : mapO (compOper Tryz.prog g0 ops1) (ops1.toList.take 4) = some i1 := by kernel_rfl
theorem m1b : mapO (compOper Tryz.prog g0 ops1) (ops1.toList.drop 5) = some i1b := by kernel_rfl
noncomputable def o4 : Oper := (ops1.toList.drop 4).headD default
theorem ops1_eq : ops1.toList = ops1.toList.take 4 ++ (o4 :: ops1.toList.drop 5) := by kernel_rfl

theorem mixed : Tryz.prog.follows .mixedOrders = true := by kernel_rfl

/-! ### what the pieces come to -/
abbrev TS : Sh := .agg [.int .i64, .int .i64, .str, .slc, .slc]
abbrev tT (d : List Tree) : Tree := .agg [.slc d]
abbrev tS (op nn : Int) (st : List UInt8) (u l : List Tree) : Tree := .agg [.int .i64 op, .int .i64 nn, .str st, .slc u, .slc l]
section
variable (F : Fns) (n m : Nat) (own : Tree) (ns : List Int) (d : List Tree) (op nn : Int) (st : List UInt8) (u l : List Tree)

def s0 : List AV := start 41 [.t (tT d), .t own, .t (tS op nn st u l), .hsl 0 none]
def Hp : Heap := [.tre (.int .i64) (nT ns)]
def H0 : Heap := [.tre (.int .i64) (nT ns), .tre (.agg [.slc]) [tT d], .tre TS [tS op nn st u l]]
def s1 : List AV := setN (setN (setN (s0 own d op nn st u l) 4 (.href 1 0 0)) 6 (.href 2 0 0)) 8 (.t .nili)
theorem e0 : evC F n m i0 ⟨s0 own d op nn st u l, Hp ns⟩ (fun e s => some (e, s)) = some (.normal, ⟨s1 own d op nn st u l, H0 ns d op nn st u l⟩) := by kernel_rfl
def s2 : List AV := setN (setN (setN (setN (s1 own d op nn st u l) 13 (.t (tT d))) 14 (.t own)) 15 (.t (tS op nn st u l))) 16 (.hsl 0 none)
theorem e1 : evOps F i1 ⟨s1 own d op nn st u l, H0 ns d op nn st u l⟩ some = some ⟨s2 own d op nn st u l, H0 ns d op nn st u l⟩ := by kernel_rfl
def s3 : List AV := setN (setN (s2 own d op nn st u l) 17 (.t .nili)) 9 (.t .nili)
theorem e1b : evOps F i1b ⟨setN (s2 own d op nn st u l) 17 (.t .nili), H0 ns d op nn st u l⟩ some = some ⟨s3 own d op nn st u l, H0 ns d op nn st u l⟩ := by kernel_rfl
def s4 : List AV := setN (setN (s3 own d op nn st u l) 18 (.t .nili)) 19 (.t (.bool false))
theorem e2 : evC F n m iq2 ⟨s3 own d op nn st u l, H0 ns d op nn st u l⟩ (fun e s => some (e, s)) = some (.normal, ⟨s4 own d op nn st u l, H0 ns d op nn st u l⟩) := by kernel_rfl
def s5 : List AV := setN (setN (setN (setN (s4 own d op nn st u l) 21 (.href 2 0 4)) 22 (.t (.slc l))) 23 (.t (.int .i64 (l.length : Int)))) 24 (.t (.int .i64 0))
theorem e4 : evC F n m i4 ⟨s4 own d op nn st u l, H0 ns d op nn st u l⟩ (fun e s => some (e, s)) = some (.normal, ⟨s5 own d op nn st u l, H0 ns d op nn st u l⟩) := by kernel_rfl
/-- The state at the loop's head. -/
def sC (i : Nat) : List AV := [.any, .t own, .any, .hsl 0 none, .href 1 0 0] ++ (List.replicate 17 .any ++ ([.t (.slc l), .t (.int .i64 (l.length : Int)), .t (.int .i64 (i : Int))] ++ List.replicate 16 .any))
def HC : Heap := [.tre (.int .i64) (nT ns), .tre (.agg [.slc]) [tT d]]
theorem en : norm 1 [1, 3, 4, 22, 23, 24] ⟨s5 own d op nn st u l, H0 ns d op nn st u l⟩ some = some ⟨sC own l 0, HC ns d⟩ := by kernel_rfl
def sD (i : Nat) (b : Bool) : List AV := setN (sC own l i) 25 (.t (.bool b))
theorem e5 (i : Nat) : evC F n m i5 ⟨sC own l i, HC ns d⟩ (fun e s => some (e, s)) = some (.normal, ⟨sD own l i (decide ((i : Int) < (l.length : Int))), HC ns d⟩) := by kernel_rfl
theorem ec5 (i : Nat) : evC F n m ic5 ⟨sD own l i true, HC ns d⟩ (fun e s => some (e, s)) = some (.normal, ⟨sD own l i true, HC ns d⟩) := by kernel_rfl
theorem ec5f (i : Nat) : evC F n m ic5 ⟨sD own l i false, HC ns d⟩ (fun e s => some (e, s)) = some (.exit 0, ⟨sD own l i false, HC ns d⟩) := by kernel_rfl
/-- A part's own variable. -/
def s6 (i : Nat) (x : Tree) : List AV := setN (setN (setN (setN (setN (sD own l i true) 26 (.t (.int .i64 (i : Int)))) 27 (.t (.ptr x 0))) 28 (.t x)) 11 (.href 2 0 0)) 10 (.t (.int .i64 (i : Int)))
def H6 (x : Tree) : Heap := HC ns d ++ [.tre TS [x]]
theorem e6' (i : Nat) : evC F n m i6 ⟨sD own l i true, HC ns d⟩ (fun e s => some (e, s)) = (nth l i).bind fun e => bif TS.ok e then evOps F ((regs i6).drop 2) ⟨setN (setN (sD own l i true) 26 (.t (.int .i64 (i : Int)))) 27 (.t (.ptr (TS.open e) 0)), HC ns d⟩ (fun s => some (.normal, s)) else none := by kernel_rfl
theorem e6'' (l2 : List Tree) (i : Nat) : evOps F ((regs i6).drop 2) ⟨setN (setN (sD own l i true) 26 (.t (.int .i64 (i : Int)))) 27 (.t (.ptr (TS.open (tS op nn st u l2)) 0)), HC ns d⟩ (fun s => some (.normal, s)) = some ((.normal, ⟨s6 own l i (tS op nn st u l2), H6 ns d (tS op nn st u l2)⟩) : IExit × St) := by kernel_rfl
def s8 (i : Nat) : List AV := setN (sC own l i) 12 (.t .nili)
theorem eo (i : Nat) (x : Tree) : setN (only [1, 3, 4, 22, 23, 24] 0 (s6 own l i x)) 12 (.t .nili) = s8 own l i := by kernel_rfl
def s9 (i : Nat) : List AV := setN (setN (s8 own l i) 37 (.t .nili)) 38 (.t (.bool false))
theorem e8 (i : Nat) (x : Tree) : evC F n m iq8 ⟨s8 own l i, H6 ns d x⟩ (fun e s => some (e, s)) = some (.normal, ⟨s9 own l i, H6 ns d x⟩) := by kernel_rfl
theorem e10 (i : Nat) (x : Tree) : evC F n m i10 ⟨s9 own l i, H6 ns d x⟩ (fun e s => some (e, s)) = some (.normal, ⟨setN (setN (s9 own l i) 40 (.t (.int .i64 (IntKind.i64.wrap ((i : Int) + 1))))) 24 (.t (.int .i64 (IntKind.i64.wrap ((i : Int) + 1)))), H6 ns d x⟩) := by kernel_rfl
theorem en8 (i : Nat) (x : Tree) : norm 1 [1, 3, 4, 22, 23, 24] ⟨setN (setN (s9 own l i) 40 (.t (.int .i64 ((i + 1 : Nat) : Int)))) 24 (.t (.int .i64 ((i + 1 : Nat) : Int))), H6 ns d x⟩ some = some ⟨sC own l (i + 1), HC ns d⟩ := by kernel_rfl
theorem e11 (i : Nat) : evC F n m i11 ⟨sD own l i false, HC ns d⟩ (fun e s => some (e, s)) = some (.ret, ⟨setN (sD own l i false) 8 (.t .nili), HC ns d⟩) := by kernel_rfl
end

/-! ### the region that appends to the path and calls -/
noncomputable def o7 (i : Nat) : Oper := ops7.getD i default
theorem ac7 : acyc (ops7.toList.map afterOf) ops7.size [] = true := by kernel_rfl
theorem u22 : Tryz.prog.underlying 22 = some (.slice 3) := by kernel_rfl
theorem sh43 : shOf Tryz.prog 43 = some (.agg [.slc]) := by kernel_rfl
theorem sh35 : shOf Tryz.prog 35 = some TS := by kernel_rfl
theorem inf3 : (Tryz.prog.info? 3).map (fun i => (i.zero, i.size, i.bytes)) = some (some (.int .i64 0), 1, 8) := by kernel_rfl

theorem info_of {P : Program} {t : TypeId} {z : Option Value} {s b : Nat} (h : (P.info? t).map (fun i => (i.zero, i.size, i.bytes)) = some (z, s, b)) : ∃ i, P.info? t = some i ∧ i.zero = z ∧ i.size = s ∧ i.bytes = b := by
  cases hq : P.info? t with
  | none => rw [hq] at h; cases h
  | some i => rw [hq] at h; cases h; exact ⟨i, rfl, rfl, rfl, rfl⟩

def ds : Nat → Nat
  | 0 => 29 | 1 => 30 | 2 => 31 | 3 => 32 | 4 => 33 | 5 => 34 | 6 => 35 | 7 => 36 | _ => 12

theorem ds_inj' : ∀ i, i < 9 → ∀ j, j < 9 → ds i = ds j → i = j := by decide
theorem ds_inj {i j : Nat} (hi : i < 9) (hj : j < 9) (h : ds i = ds j) : i = j := ds_inj' i hi j hj h
theorem ds_lt : ∀ k, k < 9 → ds k < 41 := by decide
theorem ds_ge : ∀ k, k < 9 → ds k = 12 ∨ 29 ≤ ds k := by decide

/-- What is known of what operation j has yielded. -/
def F7 (p : Pl) (ns : List Int) (w0 : World) (φ : Phi) (rd : Rd) (a : Act) (d : List Tree) (x : Tree) (i : Nat) (j : Nat) (h6 h7 : Prop) (I' : Fz) (w' : World) (v : Value) : Prop :=
  match j with
  | 0 => h7 → RepT w' I' (tT d) v
  | 1 => v = a.tmps.getD 1 undef
  | 2 => h7 → RepT w' I' x v
  | 3 => v = a.tmps.getD 3 undef
  | 4 => v = .int .i64 i
  | 5 => h6 → Src Tryz.prog 1 22 v 1 [.int .i64 i] w'
  | 6 => h7 → ∃ p', POk I' w' v p' (ns ++ [(i : Int)]) ∧ ∀ g D ms, p' = some (g, D, ms) → (w0.heap.size ≤ g ∧ ∀ b q, (rd b).mut = true → φ b = some (g, q) → False) ∨ (p = some (g, D, ns) ∧ ms = ns ++ [(i : Int)])
  | _ => v = .nilIface

section
variable {p : Pl} {ns : List Int} {I0 : Fz} {w0 : World} {φ : Phi} {I : Fz} {rd : Rd} {a : Act} {w : World} {d : List Tree} {x : Tree} {i : Nat}

theorem F7.step {j : Nat} {h6 h7 h6' h7' : Prop} {I' I'' : Fz} {w' w'' : World} {v : Value} (h : F7 p ns w0 φ rd a d x i j h6 h7 I' w' v) (k6 : h6' → h6) (k7 : h7' → h7) (hm : ∀ {y : Tree} {v : Value}, RepT w' I' y v → RepT w'' I'' y v)
    (h5 : h6' → Src Tryz.prog 1 22 v 1 [.int .i64 i] w' → Src Tryz.prog 1 22 v 1 [.int .i64 i] w'') (hp : h7' → ∀ p', POk I' w' v p' (ns ++ [(i : Int)]) → POk I'' w'' v p' (ns ++ [(i : Int)])) : F7 p ns w0 φ rd a d x i j h6' h7' I'' w'' v := by
  unfold F7 at h ⊢
  split at h
  · exact fun h' => hm (h (k7 h'))
  · exact h
  · exact fun h' => hm (h (k7 h'))
  · exact h
  · exact h
  · exact fun h' => h5 h' (h (k6 h'))
  · intro h'
    obtain ⟨p', h1, h2⟩ := h (k7 h')
    exact ⟨p', hp h' p' h1, h2⟩
  · exact h

structure S7 (p : Pl) (ns : List Int) (I0 : Fz) (w0 : World) (φ : Phi) (I : Fz) (rd : Rd) (a : Act) (w : World) (d : List Tree) (x : Tree) (i : Nat) (listed : Array Bool) (I' : Fz) (a' : Act) (w' : World) : Prop where
  defers : a'.defers = []
  size : a'.tmps.size = a.tmps.size
  same : ∀ t, t < 29 → t ≠ 12 → a'.tmps.getD t undef = a.tmps.getD t undef
  at_ : At p ns I0 w0 φ I' rd w'
  mono : ∀ {y : Tree} {v : Value}, RepT w I y v → RepT w' I' y v
  fact : ∀ j, j < 9 → listed[j]? = some true → F7 p ns w0 φ rd a d x i j (listed[6]? = some false) (listed[7]? = some false) I' w' (a'.tmps.getD (ds j) undef)

theorem put_ne {a : Act} {t k : Nat} {v : Value} (h : t ≠ k) : (a.put (some t) v).tmps.getD k undef = a.tmps.getD k undef := by
  simp only [Act.put, Array.getD_eq_getD_getElem?]
  rw [Array.getElem?_setIfInBounds_ne h]

theorem put_eq {a : Act} {t : Nat} {v : Value} (h : t < a.tmps.size) : (a.put (some t) v).tmps.getD t undef = v := by
  simp only [Act.put, Array.getD_eq_getD_getElem?]
  rw [Array.getElem?_setIfInBounds_self_of_lt h]; rfl

theorem set_get {l : Array Bool} {i j : Nat} (h : j ≠ i) : (l.setIfInBounds i true)[j]? = l[j]? := by
  rw [Array.getElem?_setIfInBounds_ne (Ne.symm h)]

theorem set_no {l : Array Bool} {i : Nat} (hl : i < l.size) : ¬ (l.setIfInBounds i true)[i]? = some false := by
  rw [Array.getElem?_setIfInBounds_self_of_lt hl]; simp

/-- Operation k has yielded v. -/
theorem S7.next {listed : Array Bool} {I' I'' : Fz} {a' : Act} {w' w'' : World} {k : Nat} {v : Value} (h : S7 p ns I0 w0 φ I rd a w d x i listed I' a' w') (hk : k < 9) (hls : listed.size = 9) (hsz : a.tmps.size = 41)
    (hat : At p ns I0 w0 φ I'' rd w'') (hm : ∀ {y : Tree} {v : Value}, RepT w' I' y v → RepT w'' I'' y v)
    (h5 : (listed.setIfInBounds k true)[6]? = some false → k ≠ 5 → ∀ u, Src Tryz.prog 1 22 u 1 [.int .i64 i] w' → Src Tryz.prog 1 22 u 1 [.int .i64 i] w'')
    (hp : (listed.setIfInBounds k true)[7]? = some false → k ≠ 6 → ∀ u p', POk I' w' u p' (ns ++ [(i : Int)]) → POk I'' w'' u p' (ns ++ [(i : Int)]))
    (hv : F7 p ns w0 φ rd a d x i k ((listed.setIfInBounds k true)[6]? = some false) ((listed.setIfInBounds k true)[7]? = some false) I'' w'' v) :
    S7 p ns I0 w0 φ I rd a w d x i (listed.setIfInBounds k true) I'' (a'.put (some (ds k)) v) w'' where
  defers := h.defers
  size := by simp only [Act.put, Array.size_setIfInBounds]; exact h.size
  same t ht h12 := by
    rw [put_ne]
    · exact h.same t ht h12
    · intro e
      have hd := ds_ge k hk
      omega
  at_ := hat
  mono r := hm (h.mono r)
  fact j hj hl := by
    by_cases e : j = k
    · subst e
      rw [put_eq (by rw [h.size, hsz]; have : ∀ k, k < 9 → ds k < 41 := by decide
                     exact this j hk)]
      exact hv
    · rw [put_ne fun e' => e (ds_inj hj hk e'.symm)]
      rw [set_get e] at hl
      have imp : ∀ t, (listed.setIfInBounds k true)[t]? = some false → listed[t]? = some false := fun t ht => by
        by_cases et : t = k
        · subst et; exact (set_no (by omega) ht).elim
        · rw [set_get et] at ht; exact ht
      have hf := h.fact j hj hl
      by_cases e5 : j = 5
      · subst e5
        exact fun h' => h5 h' (Ne.symm e) _ (hf (imp 6 h'))
      · by_cases e6 : j = 6
        · subst e6
          intro h'
          obtain ⟨p', m1, m2⟩ := hf (imp 7 h')
          exact ⟨p', hp h' (Ne.symm e) _ p' m1, m2⟩
        · have : j = 0 ∨ j = 1 ∨ j = 2 ∨ j = 3 ∨ j = 4 ∨ j = 7 ∨ j = 8 := by omega
          rcases this with rfl | rfl | rfl | rfl | rfl | rfl | rfl
          · exact fun h' => hm (hf (imp 7 h'))
          · exact hf
          · exact fun h' => hm (hf (imp 7 h'))
          · exact hf
          · exact hf
          · exact hf
          · exact hf

open Go (Op Operand Callee Builtin Ground)
def q0 : Oper := { dst := some 29, op := .load 43 (.tmp 4), type := 43, pos := "table.go:151", after := #[], guard := none }
def q1' : Oper := { dst := some 30, op := .move (.tmp 1), type := 88, pos := "table.go:151", after := #[], guard := none }
def q2' : Oper := { dst := some 31, op := .load 35 (.tmp 11), type := 35, pos := "table.go:151", after := #[], guard := none }
def q3' : Oper := { dst := some 32, op := .move (.tmp 3), type := 22, pos := "table.go:151", after := #[], guard := none }
def q4' : Oper := { dst := some 33, op := .move (.tmp 10), type := 3, pos := "table.go:151", after := #[], guard := none }
def q5' : Oper := { dst := some 34, op := .buildSlice 22 1 #[(0, .tmp 33)], type := 22, pos := "table.go:151", after := #[{ on := 4, ground := .data }], guard := none }
def q6' : Oper := { dst := some 35, op := .call { callee := .builtin .append, args := #[.tmp 32, .tmp 34], argTypes := #[22, 22] }, type := 22, pos := "table.go:151", after := #[{ on := 3, ground := .data }, { on := 5, ground := .data }], guard := none }
def q7' : Oper := { dst := some 36, op := .call { callee := .value (.func 35), args := #[.tmp 29, .tmp 30, .tmp 31, .tmp 35], argTypes := #[43, 88, 35, 22] }, type := 72, pos := "table.go:151", after := #[{ on := 0, ground := .data }, { on := 1, ground := .data }, { on := 2, ground := .data }, { on := 6, ground := .data }, { on := 6, ground := .chain }], guard := none }
def q8' : Oper := { dst := some 12, op := .assign (.tmp 36), type := 72, pos := "table.go:151", after := #[{ on := 7, ground := .data }, { on := 7, ground := .chain }, { on := 0, ground := .phase }, { on := 1, ground := .phase }, { on := 2, ground := .phase }, { on := 3, ground := .phase }, { on := 4, ground := .phase }, { on := 5, ground := .phase }, { on := 6, ground := .phase }, { on := 7, ground := .phase }], guard := none }
theorem ops7_eq : ops7 = #[q0, q1', q2', q3', q4', q5', q6', q7', q8'] := by kernel_rfl

theorem src_of {w : World} {g : Nat} {n : Int} {arr : Array Value} {T : TypeId} (h : w.heap[g]? = some (.cells arr T (0, 0))) (h0 : arr[0]? = some (.int .i64 n)) : Src Tryz.prog 1 22 (.slice (some ⟨g, 0, none⟩) 1 1) 1 [.int .i64 n] w :=
  Src.ofSlice w u22 ⟨g, 0, none⟩ 1 1 [.int .i64 n] rfl (fun j u hj => by
    match j, hj with
    | 0, hj =>
      have hj : Value.int .i64 n = u := by simpa using hj
      subst hj
      simp [World.cell?, h, h0, Addr.add]
    | j + 1, hj => simp at hj) (fun u hu => by simp at hu; subst hu; rfl)

theorem run5 {a : Act} {w : World} {n : Int} (h : a.tmps.getD 33 undef = .int .i64 n) : (execOp a.eval q5').run Tryz.prog w = .ok (.value (.slice (some ⟨w.heap.size, 0, none⟩) 1 1)) (w.alloc (.cells #[.int .i64 n] 3)) := by
  have he : a.eval (.tmp 33) = .int .i64 n := h
  have hsh : shOf Tryz.prog 3 = some (.int .i64) := by kernel_rfl
  have hz : tyZero Tryz.prog 3 = some (.int .i64 0) := by kernel_rfl
  have hpm : (#[((0 : Nat), Operand.tmp 33)].map fun (i, x) => (i, a.eval x)).toList = [(0, Value.int .i64 n)] := by simp [he]
  simp only [execOp, q5', Instr.buildSlice]
  simp only [Sem.run_bind, run_underlying' u22, run_sizeOf' (shOf_spec hsh).1, Result.andThen_ok, Sem.run_ite, Sh.width, hpm]
  simp only [Nat.mul_one, run_zeroValue' hz, Sem.run_bind, Result.andThen_ok, Sem.run_pure, if_neg (show ¬ (1 : Nat) > 2 ^ 24 by decide), if_neg (show ¬ (1 : Nat) = 0 by decide)]
  have hf : Instr.fill (fun i => some (i, 1)) (Array.map (fun x => (Value.int IntKind.i64 0).cells[x % (Value.int IntKind.i64 0).cells.size]!) (Array.range 1)) [(0, Value.int IntKind.i64 n)] = some #[Value.int .i64 n] := by
    have h1 : (Array.map (fun x => (Value.int IntKind.i64 0).cells[x % (Value.int IntKind.i64 0).cells.size]!) (Array.range 1)) = #[Value.int .i64 0] := by
      apply Array.ext <;> simp [Value.cells]
    rw [h1]
    rfl
  rw [hf]
  simp [newRow]

/-- What is wanted of the calls within. -/
def Child (d : List Tree) (own x : Tree) (ns : List Int) (i : Nat) : Prop :=
  ∀ (w : World) (I : Fz) (vt vo vx v : Value) (p : Pl), RepT w I (tT d) vt → RepT w I own vo → RepT w I x vx → FzOk I w → POk I w v p (ns ++ [(i : Int)]) → Calls Tryz.prog 35 #[vt, vo, vx, v] w fun e w' => e = .returned .nilIface ∧ ∃ I', PStep p I w I' w'

section
variable {p : Pl} {ns : List Int} {I0 : Fz} {w0 : World} {φ : Phi} {I : Fz} {a : Act} {w : World} {d : List Tree} {own : Tree} {op nn : Int} {st : List UInt8} {u l l2 : List Tree} {i : Nat}

theorem callable35 : callable Tryz.prog 35 = true := by kernel_rfl
theorem el1 (x : Tree) : elemOf (rdH (H6 ns d x) 1) 0 (fun e => loadBy (.agg [.slc]) 0 e.cells some) = some (.t (tT d)) := by kernel_rfl
theorem el2 : elemOf (rdH (H6 ns d (tS op nn st u l2)) 2) 0 (fun e => loadBy TS 0 e.cells some) = some (.t (tS op nn st u l2)) := by kernel_rfl

theorem step7 (hA : At p ns I0 w0 φ I (rdH (H6 ns d (tS op nn st u l2))) w) (hs : RepL φ (rdH (H6 ns d (tS op nn st u l2))) w I (s6 own l i (tS op nn st u l2)) a.tmps.toList) (hsz : a.tmps.size = 41)
    (hn : ns.length + 1 ≤ 1000000) (hch : Child d own (tS op nn st u l2) ns i) {Q : Exit → Act → World → Prop} {listed : Array Bool} {k : Nat} {o : Oper} {I' : Fz} {a' : Act} {w' : World} (hls : listed.size = ops7.size)
    (h : S7 p ns I0 w0 φ I (rdH (H6 ns d (tS op nn st u l2))) a w d (tS op nn st u l2) i listed I' a' w') (ho : ops7[k]? = some o) (hl : listed[k]? = some false) (haf : ∀ e, e ∈ afterOf o → listed[e]? = some true) :
    StepWp Tryz.prog ops7 o a' w' (fun a'' w'' => ∃ I'', S7 p ns I0 w0 φ I (rdH (H6 ns d (tS op nn st u l2))) a w d (tS op nn st u l2) i (listed.setIfInBounds k true) I'' a'' w'') Q := by
  have hls9 : listed.size = 9 := by rw [hls, ops7_eq]; rfl
  have hk : k < 9 := by have := (Array.getElem?_eq_some_iff.1 hl).1; omega
  have base := hs
  have up : RepL φ (rdH (H6 ns d (tS op nn st u l2))) w' I' (s6 own l i (tS op nn st u l2)) a.tmps.toList := ⟨hs.1, fun j y v hy hv => (hs.2 j y v hy hv).mono' h.mono⟩
  have at' : ∀ t x, slot (s6 own l i (tS op nn st u l2)) t = x → RepA φ (rdH (H6 ns d (tS op nn st u l2))) w' I' x (a.tmps.getD t undef) := fun t x e => by
    have := slot_rep up t
    rw [e, ← getD_toList] at this; exact this
  have ev : ∀ t, a'.eval (.tmp t) = a'.tmps.getD t undef := fun _ => rfl
  have smI := h.at_.sim
  rw [ops7_eq] at ho
  have same : ∀ {v : Value}, F7 p ns w0 φ (rdH (H6 ns d (tS op nn st u l2))) a d (tS op nn st u l2) i k ((listed.setIfInBounds k true)[6]? = some false) ((listed.setIfInBounds k true)[7]? = some false) I' w' v →
      S7 p ns I0 w0 φ I (rdH (H6 ns d (tS op nn st u l2))) a w d (tS op nn st u l2) i (listed.setIfInBounds k true) I' (a'.put (some (ds k)) v) w' := fun hv =>
    h.next hk hls9 hsz h.at_ (fun r => r) (fun _ _ _ h => h) (fun _ _ _ _ h => h) hv
  have hcase : k = 0 ∨ k = 1 ∨ k = 2 ∨ k = 3 ∨ k = 4 ∨ k = 5 ∨ k = 6 ∨ k = 7 ∨ k = 8 := by omega
  rcases hcase with rfl | rfl | rfl | rfl | rfl | rfl | rfl | rfl | rfl
  · cases ho
    obtain ⟨g1, C1, k1, k2⟩ := (at' 4 (.href 1 0 0) (by kernel_rfl)).href_inv (by rfl)
    obtain ⟨v, hrun, hr⟩ := ldRun smI k1 sh43 (el1 _)
    have hp : a'.tmps.getD 4 undef = .pointer (some ⟨g1, 0, none⟩) := by rw [h.same 4 (by decide) (by decide), k2]; simp
    exact stepV rfl (v := v) (w' := w') (by simp [execOp, q0, ev, hp, hrun]) ⟨I', same fun _ => hr.tree⟩
  · cases ho
    exact stepV rfl (v := a'.tmps.getD 1 undef) (w' := w') (by simp [execOp, q1', ev]) ⟨I', same (h.same 1 (by decide) (by decide))⟩
  · cases ho
    obtain ⟨g1, C1, k1, k2⟩ := (at' 11 (.href 2 0 0) (by kernel_rfl)).href_inv (by rfl)
    obtain ⟨v, hrun, hr⟩ := ldRun smI k1 sh35 el2
    have hp : a'.tmps.getD 11 undef = .pointer (some ⟨g1, 0, none⟩) := by rw [h.same 11 (by decide) (by decide), k2]; simp
    exact stepV rfl (v := v) (w' := w') (by simp [execOp, q2', ev, hp, hrun]) ⟨I', same fun _ => hr.tree⟩
  · cases ho
    exact stepV rfl (v := a'.tmps.getD 3 undef) (w' := w') (by simp [execOp, q3', ev]) ⟨I', same (h.same 3 (by decide) (by decide))⟩
  · cases ho
    have hi : a'.tmps.getD 10 undef = .int .i64 i := by
      rw [h.same 10 (by decide) (by decide)]
      have := at' 10 (.t (.int .i64 i)) (by kernel_rfl)
      have := this.tree
      generalize a.tmps.getD 10 undef = v at this
      cases this; rfl
    exact stepV rfl (v := a'.tmps.getD 10 undef) (w' := w') (by simp [execOp, q4', ev]) ⟨I', same hi⟩
  · cases ho
    have h4 := h.fact 4 (by decide) (haf 4 (by decide))
    have hrun := run5 (w := w') h4
    have hst : PStep none I' w' I' (w'.alloc (.cells #[.int .i64 i] 3)) := PStep.alloc _
    obtain ⟨m1, m2⟩ := h.at_.pstep hst fun g D ms hg => by cases hg
    refine stepV rfl hrun ⟨I', h.next hk hls9 hsz m1 m2 (fun _ hne => (hne rfl).elim) (fun _ _ v p' hv => hst.wide.pok hv) fun _ => ?_⟩
    have hh : (w'.alloc (.cells #[.int .i64 i] 3)).heap[w'.heap.size]? = some (.cells #[.int .i64 i] 3 (0, 0)) := by
      show (w'.heap.push _)[w'.heap.size]? = _
      simp
    exact src_of hh rfl
  · cases ho
    have hl6 := hl
    have h3 := h.fact 3 (by decide) (haf 3 (by decide))
    have h5 := h.fact 5 (by decide) (haf 5 (by decide)) hl6
    have hpok := h.at_.pok (at' 3 (.hsl 0 none) (by kernel_rfl))
    obtain ⟨inf, j1, j2, j3, j4⟩ := info_of inf3
    obtain ⟨v', w2, p', r1, r2, r3, r4⟩ := append_pok (P := Tryz.prog) (ty := 22) (i := (i : Int)) u22 j1 j2 j3 rfl hpok smI.fzOk (by rw [j4]; omega) (by rw [j4]; decide) h5
    have hrow : ∀ g D ms, p = some (g, D, ms) → RowI w' g D ms ∧ ms = ns := fun g D ms hg => by
      rcases h.at_.place with ⟨z1, _⟩ | ⟨g1, C, z1, z2, _⟩
      · rw [z1] at hg; cases hg
      · rw [z1] at hg; cases hg; exact ⟨rowI_of smI h.at_.zero z2, rfl⟩
    obtain ⟨m1, m2⟩ := h.at_.pstep r2 fun g D ms hg => ⟨h.at_.apart g _ hg, (hrow g D ms hg).1, .inr ⟨by rw [hg, (hrow g D ms hg).2], [], by rw [(hrow g D ms hg).2]; simp⟩⟩
    have hrun : (execOp a'.eval q6').run Tryz.prog w' = .ok (.value v') w2 := by
      have e1 : a'.eval (.tmp 32) = a.tmps.getD 3 undef := h3
      have r1 : (Builtin.append_ #[22, 22] 22 #[a'.eval (.tmp 32), a'.eval (.tmp 34)]).run Tryz.prog w' = .ok v' w2 := by rw [e1]; exact r1
      simp only [execOp, q6', resolve, pure_bind, invoke, builtin]
      simp [r1]
    refine stepV rfl hrun ⟨I', h.next hk hls9 hsz m1 m2 (fun h6 _ => ?_) (fun _ hne => (hne rfl).elim) fun _ => ⟨p', r3, fun g D ms hg => ?_⟩⟩
    · exact (set_no (by omega) h6).elim
    · rcases r4 g D ms hg with h1 | ⟨h1, h2⟩
      · refine .inl ⟨Nat.le_trans h.at_.step.size h1, fun b q hmu hφ => ?_⟩
        have := smI.lt (HObj.mut_alive hmu) hφ
        omega
      · exact .inr ⟨h1, h2⟩
  · obtain rfl : q7' = o := Option.some.inj ho
    have hl7 := hl
    have h0 := h.fact 0 (by decide) (haf 0 (by decide)) hl7
    have h1 := h.fact 1 (by decide) (haf 1 (by decide))
    have h2 := h.fact 2 (by decide) (haf 2 (by decide)) hl7
    obtain ⟨p', h6, h6'⟩ := h.fact 6 (by decide) (haf 6 (by decide)) hl7
    have hown : RepT w' I' own (a'.tmps.getD 30 undef) := by
      have h1 : a'.tmps.getD 30 undef = a.tmps.getD 1 undef := h1
      rw [h1]
      exact (at' 1 (.t own) (by kernel_rfl)).tree
    have hc := hch w' I' _ _ _ _ p' h0 hown h2 smI.fzOk h6
    have hex : (execOp a'.eval q7').run Tryz.prog w' = .ok (.enter 35 #[a'.tmps.getD 29 undef, a'.tmps.getD 30 undef, a'.tmps.getD 31 undef, a'.tmps.getD 35 undef]) w' :=
      by
        have e : (#[] ++ (#[Operand.tmp 29, Operand.tmp 30, Operand.tmp 31, Operand.tmp 35].map a'.eval) ++ #[] : Array Value) = #[a'.tmps.getD 29 undef, a'.tmps.getD 30 undef, a'.tmps.getD 31 undef, a'.tmps.getD 35 undef] := by simp [ev]
        rw [← e]
        exact call_exec (a := a') (va := #[]) (vc := #[]) callable35 (o := q7') rfl rfl rfl
    unfold StepWp
    rw [if_pos (by simp [Region.wanted, q7'])]
    unfold Oper.wp
    rw [hex]
    refine Calls.mono hc fun e w2 ⟨he, I2, hp2⟩ => ?_
    subst he
    have hq : ∀ g D ms, p' = some (g, D, ms) → Apart I' g ∧ RowI w' g D ms ∧ ((w0.heap.size ≤ g ∧ ∀ b x, (rdH (H6 ns d (tS op nn st u l2)) b).mut = true → φ b = some (g, x) → False) ∨ (p = some (g, D, ns) ∧ ∃ ls, ms = ns ++ ls)) := fun g D ms hg => by
      have hz : Apart I' g ∧ RowI w' g D ms := by
        rcases h6 with ⟨z1, _⟩ | ⟨g1, c, C, z1, _, _, _, z2, z3⟩
        · simp at z1
        · rw [z1] at hg; cases hg; exact ⟨z3, z2⟩
      refine ⟨hz.1, hz.2, ?_⟩
      rcases h6' g D ms hg with z | ⟨z1, z2⟩
      · exact .inl z
      · exact .inr ⟨z1, _, z2⟩
    obtain ⟨m1, m2⟩ := h.at_.pstep hp2 hq
    exact ⟨I2, h.next hk hls9 hsz m1 m2 (fun h6 _ => by
      rw [set_get (by decide)] at h6
      rw [haf 6 (by decide)] at h6; cases h6) (fun h7 _ => (set_no (by omega) h7).elim) rfl⟩
  · cases ho
    have h7 := h.fact 7 (by decide) (haf 7 (by decide))
    exact stepV rfl (v := a'.tmps.getD 36 undef) (w' := w') (by simp [execOp, q8', ev]) ⟨I', same h7⟩

end

end

section
variable {p : Pl} {ns : List Int} {I0 : Fz} {w0 : World} {φ : Phi} {I : Fz} {a : Act} {w : World} {d : List Tree} {own : Tree} {op nn : Int} {st : List UInt8} {u l l2 : List Tree} {i : Nat}

theorem reg7 (hA : At p ns I0 w0 φ I (rdH (H6 ns d (tS op nn st u l2))) w) (hs : RepL φ (rdH (H6 ns d (tS op nn st u l2))) w I (s6 own l i (tS op nn st u l2)) a.tmps.toList) (hd : a.defers = [])
    (hn : ns.length + 1 ≤ 1000000) (hch : Child d own (tS op nn st u l2) ns i) {Q : Exit → Act → World → Prop}
    (hQ : ∀ I' a' w', At p ns I0 w0 φ I' (rdH (H6 ns d (tS op nn st u l2))) w' → RepL φ (rdH (H6 ns d (tS op nn st u l2))) w' I' (s8 own l i) a'.tmps.toList → a'.defers = [] → Q .normal a' w') : r7.wp Tryz.prog Q a w := by
  have hsz : a.tmps.size = 41 := by
    have := hs.1
    rw [show (s6 own l i (tS op nn st u l2)).length = 41 from by kernel_rfl] at this
    simpa using this
  rw [r7_eq]
  refine wp_region_any mixed ?_
  have E0 : Ext φ I (rdH (H6 ns d (tS op nn st u l2))) w φ I (rdH (H6 ns d (tS op nn st u l2))) { w with drawn := w.drawn + 1 } := Ext.same (fun _ => rfl) rfl rfl rfl rfl
  have sm0 := hA.sim.same (w' := { w with drawn := w.drawn + 1 }) (fun _ => rfl) rfl rfl rfl rfl
  have hA' := hA.ext E0 sm0 hA.zero
  have hsz7 : ops7.size = 9 := by rw [ops7_eq]; rfl
  refine wpAny_inv ac7 (fun listed a' w' => ∃ I', S7 p ns I0 w0 φ I (rdH (H6 ns d (tS op nn st u l2))) a w d (tS op nn st u l2) i listed I' a' w') (fun listed k o a' w' h1 ⟨I', h2⟩ h3 h4 h5 => step7 hA hs hsz hn hch h1 h2 h3 h4 h5) (fun listed a' w' ⟨I', h⟩ hall => ?_) ops7.size _ a _ (by simp) (unl_rep ops7.size)
    ⟨I, hd, rfl, fun _ _ _ => rfl, hA', fun r => r.ext E0 hA.sim, fun j hj hl => ?_⟩
  · rw [Array.getElem?_replicate] at hl
    split at hl <;> cases hl
  · have h8 := h.fact 8 (by decide) (hall 8 (by omega))
    have up : RepL φ (rdH (H6 ns d (tS op nn st u l2))) w' I' (s6 own l i (tS op nn st u l2)) a.tmps.toList := ⟨hs.1, fun j y v hy hv => (hs.2 j y v hy hv).mono' h.mono⟩
    refine hQ I' a' w' h.at_ ?_ h.defers
    rw [← eo own l i (tS op nn st u l2)]
    refine set_rep (only_rep up h.size fun t ht => ?_) ?_
    · have : ∀ t, t ∈ [1, 3, 4, 22, 23, 24] → t < 29 ∧ t ≠ 12 := by decide
      obtain ⟨m1, m2⟩ := this t ht
      exact h.same t m1 m2
    · have h8 : a'.tmps.getD 12 undef = .nilIface := h8
      rw [h8]; exact .t _ _ .nili


theorem piece {F : Fns} (hF : FnsOk Tryz.prog F) {c : Code} {ic : ICode} {n m : Nat} {s s' : St} {e : IExit} (hA : At p ns I0 w0 φ I (rdH s.H) w) (hs : RepL φ (rdH s.H) w I s.ts a.tmps.toList) (hd : a.defers = []) (hc : comp Tryz.prog g0 c [] = some (ic, [])) (hm : m = s.H.length)
    (he : evC F n m ic s (fun e s => some (e, s)) = some (e, s')) (hz : rdH s'.H 0 = .tre (.int .i64) (nT ns)) {Q : Exit → Act → World → Prop} (hQ : ∀ φ' I' a' w', At p ns I0 w0 φ' I' (rdH s'.H) w' → RepL φ' (rdH s'.H) w' I' s'.ts a'.tmps.toList → a'.defers = [] → Q e.out a' w') : c.wp Tryz.prog Q a w := by
  subst hm
  have hm0 : ∀ b, rdH s.H b ≠ .unborn → b < s.H.length := fun b hb => by
    rcases Nat.lt_or_ge b s.H.length with h | h
    · exact h
    · exact absurd (rdH_unborn s.H b h) hb
  refine evC_sound hF mixed hm0 c [] [] ic s φ I a w _ Q hc he (Df := []) ⟨hs, hA.sim, hd⟩ (.refl _ _ _ _) fun e1 st1 φ' I' a' w' k1 k2 k3 => ?_
  cases k1
  exact hQ φ' I' a' w' (hA.ext k3 k2.sim hz) k2.reps k2.defers

theorem wrapN {i : Nat} (h : i < 1000001) : IntKind.i64.wrap ((i : Int) + 1) = ((i + 1 : Nat) : Int) := by
  rw [wrap_small _ (by omega) (by omega)]
  simp

theorem loop7 {F : Fns} (hF : FnsOk Tryz.prog F) (n : Nat) (hn : ns.length + 1 ≤ 1000000) {Qn : Exit → Act → World → Prop} (hl : l.length ≤ 1000000)
    (hch : ∀ i x, nth l i = some x → (∃ op nn st u l2, x = tS op nn st u l2) ∧ Child d own x ns i)
    (hQ : ∀ φ' I' a' w', At p ns I0 w0 φ' I' (rdH (HC ns d)) w' → RepL φ' (rdH (HC ns d)) w' I' (sD own l l.length false) a'.tmps.toList → a'.defers = [] → Qn .normal a' w') :
    ∀ (q i : Nat) (φ : Phi) (I : Fz) (a : Act) (w : World), i + q = l.length → At p ns I0 w0 φ I (rdH (HC ns d)) w → RepL φ (rdH (HC ns d)) w I (sC own l i) a.tmps.toList → a.defers = [] → Code.rounds Tryz.prog (.seq r5 (.seq c5 (.seq (.block 1 (.seq r6 (.seq r7 q8))) r10))) (Exit.inBlock 0 Qn) (q + 1) a w
  | q, i, φ, I, a, w, hi, hA, hs, hd => by
    rw [rounds_succ]
    refine wp_seq (piece (s := ⟨sC own l i, HC ns d⟩) hF hA hs hd m5 rfl (e5 F n 2 own ns d l i) rfl fun φ1 I1 a1 w1 hA1 hs1 hd1 => ?_)
    show (Code.seq c5 _).wp Tryz.prog _ a1 w1
    cases q with
    | zero =>
      have hi : i = l.length := by omega
      subst hi
      rw [show decide (((l.length : Nat) : Int) < ((l.length : Nat) : Int)) = false from decide_eq_false (by omega)] at hs1
      refine wp_seq (piece (s := ⟨sD own l l.length false, HC ns d⟩) hF hA1 hs1 hd1 mc5 rfl (ec5f F n 2 own ns d l l.length) rfl fun φ2 I2 a2 w2 hA2 hs2 hd2 => ?_)
      show Exit.inBlock 0 Qn (.exit 0) a2 w2
      simp only [Exit.inBlock, if_true]
      exact hQ φ2 I2 a2 w2 hA2 hs2 hd2
    | succ q =>
      have hlt : i < l.length := by omega
      rw [show decide (((i : Nat) : Int) < ((l.length : Nat) : Int)) = true from decide_eq_true (by omega)] at hs1
      obtain ⟨x, hx⟩ : ∃ x, nth l i = some x := ⟨l[i], by rw [nth_eq]; simp [hlt]⟩
      obtain ⟨⟨op, nn, st, u, l2, rfl⟩, hc⟩ := hch i x hx
      refine wp_seq (piece (s := ⟨sD own l i true, HC ns d⟩) hF hA1 hs1 hd1 mc5 rfl (ec5 F n 2 own ns d l i) rfl fun φ2 I2 a2 w2 hA2 hs2 hd2 => ?_)
      show (Code.seq (.block 1 _) r10).wp Tryz.prog _ a2 w2
      refine wp_seq (wp_block (wp_seq (piece (s := ⟨sD own l i true, HC ns d⟩) hF hA2 hs2 hd2 m6 rfl (n := n) (e := .normal) (s' := ⟨s6 own l i (tS op nn st u l2), H6 ns d (tS op nn st u l2)⟩) ?_ rfl fun φ3 I3 a3 w3 hA3 hs3 hd3 => ?_)))
      · refine (e6' F n _ own ns d l i).trans ?_
        rw [hx]
        exact e6'' F own ns d op nn st u l l2 i
      · show (Code.seq r7 q8).wp Tryz.prog _ a3 w3
        refine wp_seq (reg7 hA3 hs3 hd3 hn hc fun I4 a4 w4 hA4 hs4 hd4 => ?_)
        show q8.wp Tryz.prog _ a4 w4
        refine piece (s := ⟨s8 own l i, H6 ns d (tS op nn st u l2)⟩) hF hA4 hs4 hd4 mq8 rfl (e8 F n 3 own ns d l i _) rfl fun φ5 I5 a5 w5 hA5 hs5 hd5 => ?_
        show r10.wp Tryz.prog _ a5 w5
        refine piece (s := ⟨s9 own l i, H6 ns d (tS op nn st u l2)⟩) hF hA5 hs5 hd5 m10 rfl (e10 F n 3 own ns d l i _) rfl fun φ6 I6 a6 w6 hA6 hs6 hd6 => ?_
        show Code.rounds Tryz.prog _ (Exit.inBlock 0 Qn) (q + 1) a6 w6
        rw [wrapN (by omega)] at hs6
        obtain ⟨φ7, hA7, hs7⟩ := hA6.norm hs6 (en8 own ns d l i (tS op nn st u l2)) rfl
        exact loop7 hF n hn hl hch hQ q (i + 1) φ7 I6 a6 w6 (by omega) hA7 hs7 hd6


end

/-- No node of the term is refused. -/
def fine (E : Env) (K : Nat) (d : List Tree) (own : Tree) : Nat → Tree → Bool
  | 0, _ => false
  | k + 1, s => match s with
    | .agg [.int .i64 op, .int .i64 nn, .str st, .slc u, .slc l] => match runFn E K 51 [.t (tT d), .t own, .t (.agg [.int .i64 op, .int .i64 nn, .str st, .slc u, .slc l]), .any] [] with
      | some (.t .nili, _) => bif Nat.ble l.length 1000000 then l.all (fine E K d own k) else false
      | _ => false
    | _ => false

theorem fine_succ {E : Env} {K : Nat} {d : List Tree} {own : Tree} {k : Nat} {s : Tree} (h : fine E K d own (k + 1) s = true) :
    ∃ op nn st u l H', s = tS op nn st u l ∧ runFn E K 51 [.t (tT d), .t own, .t s, .any] [] = some (.t .nili, H') ∧ l.length ≤ 1000000 ∧ ∀ x, x ∈ l → fine E K d own k x = true := by
  unfold fine at h
  split at h
  · rename_i op nn st u l
    split at h
    · rename_i H' hr
      obtain ⟨h1, h2⟩ := cond_true_of h
      exact ⟨op, nn, st, u, l, H', rfl, hr, Nat.le_of_ble_eq_true h1, fun x hx => List.all_eq_true.1 h2 x hx⟩
    · cases h
  · cases h
where
  cond_true_of {b : Bool} {x : Bool} (h : (bif b then x else false) = true) : b = true ∧ x = true := by
    cases b <;> simp_all

theorem rfOk {P : Program} {E : Env} (hE : EnvOk P E) (hm : P.follows .mixedOrders = true) (k : Nat) : RfOk P (runFn E k) :=
  fun g args H v H' h => (runFn_sound hE hm k).rf g args H v H' rfl h

theorem res35 : compRes Tryz.prog Tryz.f35.results.toList = some [.slot 8] := by kernel_rfl
theorem body35 : Tryz.f35.body = some b35 := by kernel_rfl
theorem tm35 : Tryz.f35.ntmps = 41 := by kernel_rfl
theorem o4op : o4.op = .call { callee := .value (.func 51), args := #[.tmp 13, .tmp 14, .tmp 15, .tmp 16], argTypes := #[43, 88, 35, 22] } := by kernel_rfl
theorem o4g : o4.guard = none := by kernel_rfl
theorem o4d : o4.dst = some 17 := by kernel_rfl

theorem named_nil {T : Tab} (hT : T.Ok Tryz.prog) (K : Nat) (d : List Tree) (own : Tree) : ∀ (k : Nat) (ns : List Int) (s : Tree), fine T.env K d own k s = true → ns.length + k ≤ 1000000 → ∀ (w : World) (I : Fz) (vt vo vs v : Value) (p : Pl), RepT w I (tT d) vt → RepT w I own vo → RepT w I s vs → FzOk I w → POk I w v p ns →
    Calls Tryz.prog 35 #[vt, vo, vs, v] w fun e w' => e = .returned .nilIface ∧ ∃ I', PStep p I w I' w' := by
  intro k
  induction k with
  | zero => intro ns s hf; simp [fine] at hf
  | succ k ihk =>
    intro ns s hf hk w I vt vo vs v p ht ho hsx hI hv
    obtain ⟨op, nn, st, u, l, H', rfl, hnode, hlen, hall⟩ := fine_succ hf
    have hF := runFn_sound (Tab.envOk hT) mixed K
    -- the beginning
    obtain ⟨q, φ0, hwide, hA0, hr0⟩ : ∃ (q : Pl) (φ0 : Phi), (∀ I' w', PStep q I w I' w' → PStep p I w I' w') ∧ At q ns I w φ0 I (rdH (Hp ns)) w ∧ RepA φ0 (rdH (Hp ns)) w I (.hsl 0 none) v := by
      have un : ∀ b, b ≠ 0 → rdH (Hp ns) b = .unborn := fun b hb => rdH_unborn _ b (by simp [Hp]; omega)
      have nal : ∀ b, b ≠ 0 → (rdH (Hp ns) b).alive = false := fun b hb => by rw [un b hb]; rfl
      have z0 : rdH (Hp ns) 0 = .tre (.int .i64) (nT ns) := rfl
      have now : ∀ b G, rdH (Hp ns) b ≠ .wld G := fun b G hb => by
        by_cases h : b = 0
        · subst h; rw [z0] at hb; cases hb
        · rw [un b h] at hb; cases hb
      have mz : ∀ b, (rdH (Hp ns) b).mut = true → b = 0 := fun b hb => by
        refine Classical.byContradiction fun h => ?_
        rw [un b h] at hb; cases hb
      rcases hv with ⟨rfl, A, rfl⟩ | ⟨g, c, C, rfl, rfl, h1, h2, h3, h4⟩
      · refine ⟨none, fun _ => none, fun I' w' h => h.wide, ⟨⟨fun b hb => .inl ⟨?_, rfl⟩, fun b b' g C C' hb hb' h => by simp at h, hI.old, ⟨hI.psI, hI.psinj, fun b g C id hb h => by simp at h, fun b G hb => (now b G hb).elim⟩⟩, .refl, z0, .inl ⟨rfl, rfl, rfl⟩, fun b g C hb h => by simp at h, now⟩, ?_⟩
        · by_cases h : b = 0
          · subst h; rfl
          · rw [nal b h] at hb; cases hb
        · exact .hsl0 0 none A rfl rfl (fun n hn => by cases hn)
      · have hφ : ∀ b g1 C1, (if b = 0 then some (g, C) else none) = some (g1, C1) → b = 0 ∧ g1 = g ∧ C1 = C := fun b g1 C1 h => by
          split at h
          · cases h; exact ⟨by assumption, rfl, rfl⟩
          · cases h
        refine ⟨some (g, C, ns), fun b => if b = 0 then some (g, C) else none, fun I' w' h => h, ⟨⟨fun b hb => ?_, fun b b' g1 C1 C1' hb hb' _ _ => (mz b hb).trans (mz b' hb').symm, hI.old, ⟨hI.psI, hI.psinj, fun b g1 C1 id hb h hid => ?_, fun b G hb => (now b G hb).elim⟩⟩, .refl, z0, .inr ⟨g, C, rfl, if_pos rfl, h3.lt⟩, fun b g1 C1 hb h => .inr (mz b hb), now⟩, ?_⟩
        · by_cases h : b = 0
          · subst h
            refine .inr ⟨g, C, if_pos rfl, fun _ => h4.1, (fun hf => (by cases hf)), ?_⟩
            exact h3.row (Nat.le_trans h1 h2)
          · rw [nal b h] at hb; cases hb
        · obtain ⟨_, rfl, _⟩ := hφ b g1 C1 h
          exact h4.2 id hid
        · have := RepA.hsl (φ := fun b => if b = 0 then some (g, C) else none) (rd := rdH (Hp ns)) (w := w) (I := I) 0 none g C c rfl (if_pos rfl) (by rw [z0]; simpa [HObj.els, nT] using h1) h2 (fun n hn => by cases hn)
          rw [z0] at this
          simpa [HObj.els, nT] using this
    refine Calls.mono (R := fun e w' => e = .returned .nilIface ∧ ∃ I', PStep q I w I' w') ?_ fun e w' ⟨h1, I', h2⟩ => ⟨h1, I', hwide I' w' h2⟩
    refine calls_of_wp Tryz.func35 body35 ?_
    have hs0 : RepL φ0 (rdH (Hp ns)) w I (s0 own d op nn st u l) (#[vt, vo, vs, v] ++ Array.replicate (Tryz.f35.ntmps - (#[vt, vo, vs, v] : Array Value).size) undef).toList := by
      rw [tm35]
      exact start_rep 41 (.cons (.t _ _ ht) (.cons (.t _ _ ho) (.cons (.t _ _ hsx) (.cons hr0 .nil))))
    suffices key : ∀ a0 : Act, a0.defers = [] → RepL φ0 (rdH (Hp ns)) w I (s0 own d op nn st u l) a0.tmps.toList → b35.wp Tryz.prog (bodyPost Tryz.prog Tryz.f35 fun e w' => e = .returned .nilIface ∧ ∃ I', PStep q I w I' w') a0 w from key _ rfl hs0
    clear hs0
    intro a0 hd0 hs0
    rw [b35_eq]
    refine wp_seq (piece (s := ⟨s0 own d op nn st u l, Hp ns⟩) (s' := ⟨s1 own d op nn st u l, H0 ns d op nn st u l⟩) (e := .normal) (n := K) (m := 1) hF hA0 hs0 hd0 m0 rfl (e0 _ K 1 own ns d op nn st u l) rfl fun φ1 I1 a1 w1 hA1 hs1 hd1 => ?_)
    show (Code.seq (.seq r1 q2) _).wp Tryz.prog _ a1 w1
    -- the node
    refine wp_seq (wp_seq ?_)
    rw [r1_eq]
    refine wp_region_list ?_
    rw [ops1_eq]
    refine evOps_cont hF _ i1 ⟨s1 own d op nn st u l, H0 ns d op nn st u l⟩ φ1 I1 a1 w1 m1 (e1 _ own ns d op nn st u l) (Df := []) ⟨hs1, hA1.sim, hd1⟩ fun st2 φ2 I2 a2 w2 k1 k2 k3 => ?_
    cases k1
    have hA2 := hA1.ext k3 k2.sim rfl
    refine wpList_step fun Kp hKp => ?_
    have at2 : ∀ t x, slot (s2 own d op nn st u l) t = x → RepA φ2 (rdH (H0 ns d op nn st u l)) w2 I2 x (a2.tmps.getD t undef) := fun t x e => by
      have := slot_rep k2.reps t
      rw [e, ← getD_toList] at this; exact this
    have toT : ∀ {x : Tree} {z : Value}, RepA φ2 (rdH (H0 ns d op nn st u l)) w2 I2 (.t x) z → RepA (fun _ => none) (rdH []) w2 I2 (.t x) z := fun h => .t _ _ h.tree
    refine call0 (rfOk (Tab.envOk hT) mixed K) k2 o4op rfl o4g (avs := [.t (tT d), .t own, .t (tS op nn st u l), .any]) ?_ hnode Kp _ fun φ3 I3 v3 w3 y3 y4 => hKp _ _ ?_
    · have e4 : (#[Operand.tmp 13, Operand.tmp 14, Operand.tmp 15, Operand.tmp 16].map a2.eval).toList = [a2.eval (.tmp 13), a2.eval (.tmp 14), a2.eval (.tmp 15), a2.eval (.tmp 16)] := by simp
      show RepL _ _ _ _ _ (#[Operand.tmp 13, Operand.tmp 14, Operand.tmp 15, Operand.tmp 16].map a2.eval).toList
      rw [e4]
      show RepL _ _ _ _ _ [a2.tmps.getD 13 undef, a2.tmps.getD 14 undef, a2.tmps.getD 15 undef, a2.tmps.getD 16 undef]
      exact .cons (toT (at2 13 _ (by kernel_rfl))) (.cons (toT (at2 14 _ (by kernel_rfl))) (.cons (toT (at2 15 _ (by kernel_rfl))) (.cons (.any _) .nil)))
    have hA3 := hA2.ext y4 y3.sim rfl
    rw [o4d] at y3 ⊢
    refine evOps_sound hF _ i1b ⟨setN (s2 own d op nn st u l) 17 (.t .nili), H0 ns d op nn st u l⟩ φ3 I3 _ w3 m1b (e1b _ own ns d op nn st u l) (Df := []) y3 fun st4 φ4 I4 a4 w4 k1 k4 k5 => ?_
    cases k1
    have hA4 := hA3.ext k5 k4.sim rfl
    show q2.wp Tryz.prog _ a4 w4
    refine piece (s := ⟨s3 own d op nn st u l, H0 ns d op nn st u l⟩) hF hA4 k4.reps k4.defers mq2 rfl (e2 _ K 3 own ns d op nn st u l) rfl fun φ5 I5 a5 w5 hA5 hs5 hd5 => ?_
    show (Code.seq (.seq r4 _) r11).wp Tryz.prog _ a5 w5
    refine wp_seq (wp_seq (piece (s := ⟨s4 own d op nn st u l, H0 ns d op nn st u l⟩) hF hA5 hs5 hd5 m4 rfl (e4 _ K 3 own ns d op nn st u l) rfl fun φ6 I6 a6 w6 hA6 hs6 hd6 => ?_))
    show (Code.block 0 _).wp Tryz.prog _ a6 w6
    obtain ⟨φ7, hA7, hs7⟩ := hA6.norm hs6 (en own ns d op nn st u l) rfl
    refine wp_block (wp_loop_rounds (l.length + 1) (loop7 hF K (by omega) hlen (fun i x hx => ?_) (fun φ8 I8 a8 w8 hA8 hs8 hd8 => ?_) l.length 0 φ7 I6 a6 w6 (by omega) hA7 hs7 hd6))
    · have hm : x ∈ l := by rw [nth_eq] at hx; exact List.mem_of_getElem? hx
      have hfx := hall x hm
      refine ⟨?_, fun w I vt vo vx v p h1 h2 h3 h4 h5 => ihk (ns ++ [(i : Int)]) x hfx (by simp; omega) w I vt vo vx v p h1 h2 h3 h4 h5⟩
      cases k with
      | zero => simp [fine] at hfx
      | succ k =>
        obtain ⟨op, nn, st, u, l2, _, e, _⟩ := fine_succ hfx
        exact ⟨op, nn, st, u, l2, e⟩
    · show r11.wp Tryz.prog _ a8 w8
      refine piece (s := ⟨sD own l l.length false, HC ns d⟩) hF hA8 hs8 hd8 m11 rfl (e11 _ K 2 own ns d l l.length) rfl fun φ9 I9 a9 w9 hA9 hs9 hd9 => ?_
      obtain ⟨x, val, j1, j2, j3⟩ := results_run (Df := []) (K := fun x => some x) (st := ⟨setN (sD own l l.length false) 8 (.t .nili), HC ns d⟩) (r := .t .nili) ⟨hs9, hA9.sim, hd9⟩ res35 (by kernel_rfl)
      cases j1
      refine ⟨hd9, val, j2, ?_, I9, hA9.step⟩
      have := j3.tree
      generalize val = z at this
      cases this; rfl

end N35

def C35 (_ : List AV) (_ : Heap) : Bool := true
def S35 (E : Env) (K : Nat) (args : List AV) (H : Heap) : Option (AV × Heap) :=
  match args, H with
  | [.t (.agg [.slc d]), .t own, .t s, .nilS], [] => bif N35.fine E K d own 1000 s then some (.t .nili, []) else none
  | _, _ => none

theorem sum35 {T : Tab} (hT : T.Ok Tryz.prog) (K : Nat) : SumOk Tryz.prog 35 C35 (S35 T.env K) := by
  intro args H v H' _ h
  unfold S35 at h
  split at h
  · rename_i d own s _
    obtain ⟨hf, h⟩ := bif_some h
    cases h
    refine ⟨N35.callable35, fun φ w I vals hr sm => ?_⟩
    obtain ⟨vt, vo, vs, vp, rfl⟩ : ∃ a b c d, vals = #[a, b, c, d] := by
      have := hr.1
      match vals, this with
      | ⟨[a, b, c, d]⟩, _ => exact ⟨a, b, c, d, rfl⟩
    have g0 := (hr.2 0 _ _ rfl rfl).tree
    have g1 := (hr.2 1 _ _ rfl rfl).tree
    have g2 := (hr.2 2 _ _ rfl rfl).tree
    have g3 := hr.2 3 _ _ rfl rfl
    have e3 : vp = .slice none 0 0 := by
      generalize vp = z at g3
      cases g3; rfl
    refine Calls.mono (N35.named_nil hT K d own 1000 [] s hf (by simp) w I vt vo vs vp none g0 g1 g2 sm.fzOk (.inl ⟨rfl, none, e3⟩)) fun e w' ⟨he, I', hp⟩ => ?_
    obtain ⟨k1, k2⟩ := sm.still hp.sub hp.inew (hp.old sm.old) ⟨fun g hg => hp.heap g hg fun q hq => (by cases hq), hp.size, hp.os, hp.tape, hp.output⟩ hp.ps
    exact ⟨_, φ, I', he, .t _ _ .nili, k1, k2⟩
  · cases h

end Go.Proofs.Dw.Za
end

/-
  CertSizes: cert.premises.
-/
section
namespace Go.Proofs.Dw.Za
open Go.Proofs Go.RowKit Go.Shelf

attribute [local go_sem] Oper.semAt_some

namespace Pm

theorem tm83 : Tryz.f83.ntmps = 22 := by kernel_rfl

/-- What a round keeps. -/
def Kp (n₀ Bn : Nat) (A B : World) : Prop := Below n₀ A B ∧ B.heap[Bn]? = A.heap[Bn]?

/-- The pointers to the parts. -/
def addr (g o : Nat) (i : Nat) : Value := .pointer (some ⟨g, o + i * 3, none⟩)

set_option maxRecDepth 100000 in
set_option maxHeartbeats 1000000 in
theorem parts1_in (F : Fence) (n : Nat) (h6 : F.fn 83) (hro : F.round = none) (hn : 1 ≤ n) (l Bn n₀ b o g o' c nn : Nat) (hb : b < n₀) (A : Option Addr) (hA : nn = 0 ∨ A = some ⟨g, o', none⟩) (hnn : nn ≤ 1000000) (J Jx : List Nat → World → Prop)
    (hY : ∀ pre i W, J pre W → pre.length < nn → YieldAt F (n - 1) Tryz.prog l #[addr g o' i] W fun e W' =>
      (e = .returned (.bool true) ∧ J (pre ++ [i]) W' ∧ Kp n₀ Bn W W') ∨ (e = .returned (.bool false) ∧ Jx (pre ++ [i]) W'))
    (W : World) (hBn : W.cell? ⟨Bn, 0, none⟩ = some (.pointer (some ⟨b, o, none⟩))) (hL : W.cell? ⟨b, o + 2, none⟩ = some (.slice A nn c)) (h0 : J [] W) :
    CallsIn F n Tryz.prog 83 #[.func (.yield l) #[] #[], .pointer (some ⟨Bn, 0, none⟩)] W fun e W' => (∃ v, e = .returned v) ∧
      ((∃ ys, ys = List.range nn ∧ J ys W') ∨ (∃ pre, Jx pre W')) := by
  refine callsIn_of_wp Tryz.func83 rfl h6 ?_ hro
  simp only [tm83, List.size_toArray, List.length_cons, List.length_nil, Nat.reduceAdd, Nat.reduceSub, Array.replicate_succ, Array.replicate_zero, List.push_toArray, List.append_toArray, List.nil_append, List.cons_append]
  gi_wp2
  gi_loopw [9] (fun t wr => ∃ k : Nat, t = .int .i64 (k : Int) ∧ k ≤ nn ∧ J (List.range k) wr ∧ wr.cell? ⟨Bn, 0, none⟩ = some (.pointer (some ⟨b, o, none⟩)) ∧ wr.cell? ⟨b, o + 2, none⟩ = some (.slice A nn c))
    (fun t _ => nn - (intOf t).toNat)
  case atStart =>
    exact ⟨0, rfl, Nat.zero_le _, by simpa using h0, hBn, hL⟩
  case round =>
    obtain ⟨k, rfl, hk, hJs, hB1, hL1⟩ := hrel
    by_cases hkn : (k : Int) < (nn : Int)
    · have hlt : k < nn := by omega
      obtain rfl : A = some ⟨g, o', none⟩ := by rcases hA with h | h; omega; exact h
      obtain ⟨fn, tmps, assign, body, hy, hR⟩ := hY (List.range k) k wr hJs (by simpa using hlt)
      unfold addr at hy
      gi_wp2
      refine hR.mono ?_
      rintro e W3 (⟨rfl, hJ3, hk3⟩ | ⟨rfl, hJx3⟩)
      · have hB3 : W3.cell? ⟨Bn, 0, none⟩ = some (.pointer (some ⟨b, o, none⟩)) := (cell_of_heap hk3.2 0).trans hB1
        have hL3 : W3.cell? ⟨b, o + 2, none⟩ = some (.slice (some ⟨g, o', none⟩) nn c) := (hk3.1.cell (p := ⟨b, o + 2, none⟩) hb).trans hL1
        have hw : IntKind.i64.wrap ((k : Int) + 1) = ((k + 1 : Nat) : Int) := by
          have : ((k : Int) + 1) = ((k + 1 : Nat) : Int) := by simp
          rw [this]
          simp only [IntKind.wrap, IntKind.bits, IntKind.signed]
          have h2 : (0 : Int) ≤ ((k + 1 : Nat) : Int) := Int.natCast_nonneg _
          simp
          omega
        gi_wp2
        go_roundw
        case rel => exact ⟨k + 1, by simp [hw], by omega, by rw [List.range_succ]; exact hJ3, hB3, hL3⟩
        case measure => simp [intOf, hw]; omega
      · gi_wp2
        refine bodyPost_ret (results_none rfl _ _ _) rfl ?_
        exact ⟨⟨_, rfl⟩, .inr ⟨_, hJx3⟩⟩
    · have hkn' : k = nn := by omega
      subst hkn'
      gi_wp2
      go_end0
      exact ⟨⟨_, rfl⟩, .inl hJs⟩

/-- **parts(c) hands back an iterator over the parts' pointers.** -/
theorem parts_stops (F : Fence) (n : Nat) (h6 : F.fn 83) (hro : F.round = none) (hn : 1 ≤ n) (Bn n₀ b o g o' c nn : Nat) (A : Option Addr) (hA : nn = 0 ∨ A = some ⟨g, o', none⟩) (hnn : nn ≤ 1000000) (w : World) (hb : b < n₀) (hBn : Bn < w.heap.size) (hn₀ : n₀ ≤ w.heap.size)
    (hc : w.cell? ⟨Bn, 0, none⟩ = some (.pointer (some ⟨b, o, none⟩))) (hL : w.cell? ⟨b, o + 2, none⟩ = some (.slice A nn c)) :
    SeqStopsK F n Tryz.prog 83 #[.pointer (some ⟨Bn, 0, none⟩)] (fun i : Nat => #[addr g o' i]) (Kp n₀ Bn) (fun ys => ys = List.range nn) (fun _ => True) nn w := fun l J Jx W hW _ _ hY h0 =>
  (parts1_in F n h6 hro hn l Bn n₀ b o g o' c nn hb A hA hnn J Jx hY W ((hW.cell (p := ⟨Bn, 0, none⟩) hBn).trans hc) ((hW.cell (p := ⟨b, o + 2, none⟩) (Nat.lt_of_lt_of_le hb hn₀)).trans hL) h0).mono
    fun e W' ⟨h1, h2⟩ => ⟨h1, h2.imp id fun ⟨pre, h⟩ => ⟨pre, trivial, h⟩⟩

theorem tm52 : Tryz.f52.ntmps = 4 := by kernel_rfl
theorem tm38 : Tryz.f38.ntmps = 21 := by kernel_rfl

set_option maxHeartbeats 1000000 in
theorem parts_in (F : Fence) (n : Nat) (h5 : F.fn 52) (hro : F.round = none) (p0 : Option Addr) (w : World) :
    CallsIn F n Tryz.prog 52 #[.pointer p0] w fun e w' => e = .returned (.func (.func 83) #[] #[.pointer (some ⟨w.heap.size, 0, none⟩)]) ∧ w' = w.alloc (.cells #[.pointer p0] 63) := by
  refine callsIn_of_wp Tryz.func52 rfl h5 ?_ hro
  simp only [tm52, List.size_toArray, List.length_cons, List.length_nil, Nat.reduceAdd, Nat.reduceSub, Array.replicate_succ, Array.replicate_zero, List.push_toArray, List.append_toArray, List.nil_append, List.cons_append]
  gi_wp2
  go_ret
  exact ⟨rfl, rfl⟩

/-- Between two rounds. -/
def Inv (w : World) (g o' : Nat) (pre : List Nat) (W : World) : Prop :=
  ∃ v, W.heap[w.heap.size]? = some (.cells #[v, .int .i64 0] 91 (0, 0)) ∧ W.heap[w.heap.size + 1]? = some (.cells #[.pointer (some ⟨w.heap.size, 0, none⟩)] 78 (0, 0)) ∧
    W.ownsRow (w.heap.size + 3) 63 1 v pre.length (pre.map (addr g o')) ∧ Below w.heap.size w W ∧ w.heap.size + 3 ≤ W.heap.size

theorem row_ne {W : World} {base : Nat} {e : TypeId} {size : Nat} {v : Value} {k : Nat} {xs : List Value} (h : W.ownsRow base e size v k xs) {j : Nat} (hj : j < base) : some j ≠ v.ownBlock := by
  rcases h.2 with ⟨rfl, _⟩ | ⟨g, cap, cur, rfl, hb, _⟩
  · simp [Value.ownBlock]
  · intro e
    have : j = g := by simpa [Value.ownBlock] using e
    omega

theorem Inv.own {w : World} {g o' B : Nat} (hB : w.heap.size ≤ B) : OwnFrom B (Inv w g o') := by
  rintro s X Y row ⟨v, h1, h2, h3, h4, h5⟩ hg hrow
  have ne : ∀ j arr T, X.heap[j]? = some (.cells arr T (0, 0)) → some j ≠ row := fun j arr T hj e => by
    obtain ⟨_, o, ho, hc⟩ := hrow j e.symm
    rw [hj] at ho; cases ho; cases hc
  refine ⟨v, (hg.block _ (Array.getElem?_eq_some_iff.1 h1).1 (ne _ _ _ h1)).trans h1, (hg.block _ (Array.getElem?_eq_some_iff.1 h2).1 (ne _ _ _ h2)).trans h2, h3.kept hg ?_, h4.grown hg h4.size fun k e => Nat.le_trans hB (hrow k e).1, Nat.le_trans h5 hg.size⟩
  rcases h3.2 with ⟨rfl, _⟩ | ⟨g1, cap, cur, rfl, _, hgb, _⟩
  · exact .inl rfl
  · exact .inr fun e => ne g1 _ _ hgb e

/-- The body's end. -/
theorem Inv.next {w W w3 : World} {g o' x : Nat} {pre : List Nat} {v v' : Value} (h : Inv w g o' pre W) (hv : W.heap[w.heap.size]? = some (.cells #[v, .int .i64 0] 91 (0, 0))) (hr : W.ownsRow (w.heap.size + 3) 63 1 v pre.length (pre.map (addr g o')))
    (hown : w3.ownsRow (w.heap.size + 3) 63 1 v' (pre.length + 1) (pre.map (addr g o') ++ [addr g o' x])) (hg : W.grownBy w3 v.ownBlock) :
    w3.cell? ⟨w.heap.size + 1, 0, none⟩ = some (.pointer (some ⟨w.heap.size, 0, none⟩)) ∧ w3.cell? ⟨w.heap.size, 0, none⟩ = some v ∧ w3.frozen? ⟨w.heap.size, 0, none⟩ = false ∧
    KeepsOthers W (w3.setCell ⟨w.heap.size, 0, none⟩ v') ∧ Kp w.heap.size (w.heap.size + 1 + 1) W (w3.setCell ⟨w.heap.size, 0, none⟩ v') ∧ Inv w g o' (pre ++ [x]) (w3.setCell ⟨w.heap.size, 0, none⟩ v') := by
  obtain ⟨v0, h1, h2, h3, h4, h5⟩ := h
  rw [hv] at h1; cases h1
  have hsz : W.heap.size ≤ w3.heap.size := hg.size
  have old : ∀ j, j < W.heap.size → some j ≠ v.ownBlock → w3.heap[j]? = W.heap[j]? := fun j hj hne => hg.block j hj hne
  have b1 : w3.heap[w.heap.size]? = some (.cells #[v, .int .i64 0] 91 (0, 0)) := (old _ (Array.getElem?_eq_some_iff.1 hv).1 (row_ne hr (by omega))).trans hv
  have b2 := (old _ (Array.getElem?_eq_some_iff.1 h2).1 (row_ne hr (by omega))).trans h2
  have hset : ∀ j, j ≠ w.heap.size → (w3.setCell ⟨w.heap.size, 0, none⟩ v').heap[j]? = w3.heap[j]? := fun j hj => Below.heap_setCell _ _ _ j hj
  have hsame : (w3.setCell ⟨w.heap.size, 0, none⟩ v').heap[w.heap.size]? = some (.cells #[v', .int .i64 0] 91 (0, 0)) := by
    obtain ⟨hlt, hk⟩ := Array.getElem?_eq_some_iff.1 b1
    show (w3.heap.modify w.heap.size _)[w.heap.size]? = _
    rw [Array.getElem?_eq_getElem (by rw [Array.size_modify]; exact hlt), Array.getElem_modify_self, hk]
    rfl
  have hss : (w3.setCell ⟨w.heap.size, 0, none⟩ v').heap.size = w3.heap.size := by simp [World.setCell]
  have nv : ∀ j (ob : Obj), W.heap[j]? = some ob → ob.isCells = false → some j ≠ v.ownBlock := fun j ob hj hc => by
    rcases hr.2 with ⟨rfl, _⟩ | ⟨g1, cap, cur, rfl, _, hgb, _⟩
    · simp [Value.ownBlock]
    · intro e
      have : j = g1 := by simpa [Value.ownBlock] using e
      subst this; rw [hgb] at hj; cases hj; cases hc
  refine ⟨by simp [World.cell?, b2], by simp [World.cell?, b1], by simp [World.frozen?, b1], ⟨by omega, fun j ob hj hc => ?_⟩, ⟨⟨hg.os, hg.tape, hg.output, by omega, fun j hj => ?_⟩, ?_⟩, ⟨v', hsame, (hset _ (by omega)).trans b2, ?_, ⟨hg.os.trans h4.os, hg.tape.trans h4.tape, hg.output.trans h4.output, by have := h4.size; omega, fun j hj => ?_⟩, by omega⟩⟩
  · have hj' : j ≠ w.heap.size := fun e => by subst e; rw [hv] at hj; cases hj; cases hc
    exact (hset j hj').trans ((old j (Array.getElem?_eq_some_iff.1 hj).1 (nv j ob hj hc)).trans hj)
  · exact (hset j (by omega)).trans (old j (by have := h4.size; omega) (row_ne hr (by omega)))
  · exact (hset _ (by omega)).trans (old _ (by omega) (row_ne hr (by omega)))
  · have := ownsRow_setCell_below (a := ⟨w.heap.size, 0, none⟩) hown (by show w.heap.size < w.heap.size + 3; omega) v'
    simpa using this
  · exact (hset j (by omega)).trans ((old j (by have := h4.size; omega) (row_ne hr (by omega))).trans (h4.block j hj))

theorem u89 : Tryz.prog.underlying 89 = some (.slice 63) := by kernel_rfl
theorem i63 : (Tryz.prog.info? 63).map (fun i => (i.zero, i.size, i.bytes)) = some (some (.pointer none), 1, 8) := by kernel_rfl

/-! ### the body of a round -/
open Go (Op Operand Callee Builtin Ground)
def sL : Code → Code | .seq a _ => a | c => c
def sR : Code → Code | .seq _ b => b | c => c
def rbody : Code → Code | .block _ (.rangeFunc _ _ _ b) => b | c => c
def bk : Code → Code | .block _ b => b | c => c
def opsOf : Code → Array Oper | .region _ ops _ => ops | _ => #[]

abbrev PT (Br : Nat) : Value := .pointer (some ⟨Br, 0, none⟩)
def q0 : Oper := { dst := some 10, op := .load 78 (.tmp 3), type := 78, pos := "follow.go:79", after := #[], guard := none }
def q1 : Oper := { dst := some 11, op := .load 78 (.tmp 3), type := 78, pos := "follow.go:79", after := #[], guard := none }
def q2 : Oper := { dst := some 12, op := .nilCheck (.tmp 11), type := 0, pos := "follow.go:79", after := #[{ on := 1, ground := .data }], guard := none }
def q3 : Oper := { dst := some 13, op := .fieldAddr 91 (.tmp 12) 0, type := 0, pos := "follow.go:79", after := #[{ on := 2, ground := .data }], guard := none }
def q4 : Oper := { dst := some 14, op := .load 89 (.tmp 13), type := 89, pos := "follow.go:79", after := #[{ on := 3, ground := .data }], guard := none }
def q5 : Oper := { dst := some 15, op := .move (.tmp 4), type := 63, pos := "follow.go:79", after := #[], guard := none }
def q6 : Oper := { dst := some 16, op := .buildSlice 89 1 #[(0, .tmp 15)], type := 89, pos := "follow.go:79", after := #[{ on := 5, ground := .data }], guard := none }
def q7 : Oper := { dst := some 17, op := .call { callee := .builtin .append, args := #[.tmp 14, .tmp 16], argTypes := #[89, 89] }, type := 89, pos := "follow.go:79", after := #[{ on := 4, ground := .data }, { on := 6, ground := .data }], guard := none }
def q8 : Oper := { dst := some 18, op := .nilCheck (.tmp 10), type := 0, pos := "follow.go:79", after := #[{ on := 0, ground := .data }, { on := 0, ground := .phase }, { on := 1, ground := .phase }, { on := 2, ground := .phase }, { on := 3, ground := .phase }, { on := 4, ground := .phase }, { on := 5, ground := .phase }, { on := 6, ground := .phase }, { on := 7, ground := .phase }], guard := none }
def q9 : Oper := { dst := some 19, op := .fieldAddr 91 (.tmp 18) 0, type := 0, pos := "follow.go:79", after := #[{ on := 8, ground := .data }, { on := 0, ground := .phase }, { on := 1, ground := .phase }, { on := 2, ground := .phase }, { on := 3, ground := .phase }, { on := 4, ground := .phase }, { on := 5, ground := .phase }, { on := 6, ground := .phase }, { on := 7, ground := .phase }], guard := none }
def q10 : Oper := { dst := none, op := .store 89 (.tmp 19) (.tmp 17), type := 0, pos := "follow.go:79", after := #[{ on := 9, ground := .data }, { on := 7, ground := .data }, { on := 7, ground := .chain }, { on := 0, ground := .phase }, { on := 1, ground := .phase }, { on := 2, ground := .phase }, { on := 3, ground := .phase }, { on := 4, ground := .phase }, { on := 5, ground := .phase }, { on := 6, ground := .phase }, { on := 7, ground := .phase }], guard := none }
def opsB : Array Oper := #[q0, q1, q2, q3, q4, q5, q6, q7, q8, q9, q10]

section
variable {F : Fence} {n : Nat} {P : Program} {ops : Array Oper} {Q : Exit → Act → World → Prop}

def StepIn (F : Fence) (n : Nat) (P : Program) (ops : Array Oper) (o : Oper) (a : Act) (w : World) (Kp : Act → World → Prop) (Q : Exit → Act → World → Prop) : Prop :=
  if Region.wanted o (yielded ops a.tmps) then o.wpIn F n P a w Kp Q else (∀ f, o.about P w a.eval = some f → F.fn f) ∧ Kp (a.put o.dst undef) w

theorem wpAnyIn_inv (hac : acyc (ops.toList.map afterOf) ops.size [] = true) (S : Array Bool → Act → World → Prop)
    (step : ∀ (listed : Array Bool) i o a w, listed.size = ops.size → S listed a w → ops[i]? = some o → listed[i]? = some false → (∀ e, e ∈ afterOf o → listed[e]? = some true) → StepIn F n P ops o a w (S (listed.setIfInBounds i true)) Q)
    (done : ∀ (listed : Array Bool) a w, S listed a w → (∀ i, i < ops.size → listed[i]? = some true) → Q .normal a w) :
    ∀ (fuel : Nat) (listed : Array Bool) a w, listed.size = ops.size → unl listed = fuel → S listed a w → wpAnyIn F n P .any ops Q fuel listed a w
  | 0, listed, a, w, hsz, hu, hS => by
    have hall : ∀ i, i < ops.size → listed[i]? = some true := by
      intro i hi
      have hl : i < listed.size := by omega
      have he : listed[i]? = some listed[i] := by simp [hl]
      rw [he]
      unfold unl at hu
      rw [List.countP_eq_zero] at hu
      have := hu listed[i] (by simp)
      cases hq : listed[i] with
      | true => rfl
      | false => rw [hq] at this; simp at this
    refine ⟨?_, done listed a w hS hall⟩
    rw [List.eq_nil_iff_forall_not_mem]
    intro i hi
    obtain ⟨o, h1, h2, _⟩ := (mem_ready hsz).1 hi
    rw [hall i (Array.getElem?_eq_some_iff.1 h1).1] at h2
    cases h2
  | fuel + 1, listed, a, w, hsz, hu, hS => by
    refine ⟨fun hr => done listed a w hS (ready_all hac hsz hr), fun i hi => ?_⟩
    obtain ⟨o, ho, hfl, haf⟩ := (mem_ready hsz).1 hi
    have h2 := step listed i o a w hsz hS ho hfl haf
    have ih : ∀ a' w', S (listed.setIfInBounds i true) a' w' → wpAnyIn F n P .any ops Q fuel (listed.setIfInBounds i true) a' w' := fun a' w' h =>
      wpAnyIn_inv hac S step done fuel _ a' w' (by simpa using hsz) (by have := unl_set hfl; omega) h
    unfold wpOpIn
    rw [ho]
    unfold StepIn at h2
    simp only
    split
    · rename_i hw; rw [if_pos hw] at h2; exact Oper.wpIn_mono ih h2
    · rename_i hw; rw [if_neg hw] at h2; exact ⟨h2.1, ih _ _ h2.2⟩

theorem stepIn {o : Oper} {a : Act} {v : Value} {w w' : World} {Kp : Act → World → Prop} (hd : ∀ c, o.op ≠ .defer c) (hg : o.guard = none) (hF : ∀ f, F.fn f) (hrun : (execOp a.eval o).run P w = .ok (.value v) w') (hK : Kp (a.put o.dst v) w') : StepIn F n P ops o a w Kp Q := by
  unfold StepIn
  rw [if_pos (by simp [Region.wanted, hg])]
  refine ⟨fun f _ => hF f, ?_⟩
  rw [Oper.semAt_plain F _ _ hd, hrun]
  exact hK

theorem stepInS {o : Oper} {a : Act} {w w' : World} {Kp : Act → World → Prop} (hd : ∀ c, o.op ≠ .defer c) (hg : o.guard = none) (hF : ∀ f, F.fn f) (hrun : (execOp a.eval o).run P w = .ok .skip w') (hK : Kp (a.put o.dst undef) w') : StepIn F n P ops o a w Kp Q := by
  unfold StepIn
  rw [if_pos (by simp [Region.wanted, hg])]
  refine ⟨fun f _ => hF f, ?_⟩
  rw [Oper.semAt_plain F _ _ hd, hrun]
  exact hK

end

def FB (w W : World) (g o' x : Nat) (pre : List Nat) (v : Value) (j : Nat) (h7 h10 : Prop) (W' : World) (u : Value) : Prop :=
  match j with
  | 4 => u = v
  | 5 => u = addr g o' x
  | 6 => h7 → ∃ ad, u = .slice (some ad) 1 1 ∧ W'.cell? (ad.add 0) = some (addr g o' x)
  | 7 => h10 → W'.ownsRow (w.heap.size + 3) 63 1 u (pre.length + 1) (pre.map (addr g o') ++ [addr g o' x])
  | _ => u = PT w.heap.size

structure SB (w W : World) (g o' x : Nat) (pre : List Nat) (v : Value) (a : Act) (listed : Array Bool) (a' : Act) (W' : World) : Prop where
  size : a'.tmps.size = a.tmps.size
  same : ∀ t, t < 10 → a'.tmps.getD t undef = a.tmps.getD t undef
  grown : listed[10]? = some false → W.grownBy W' v.ownBlock
  own : listed[7]? = some false → W'.ownsRow (w.heap.size + 3) 63 1 v pre.length (pre.map (addr g o'))
  fact : ∀ j, j < 10 → listed[j]? = some true → FB w W g o' x pre v j (listed[7]? = some false) (listed[10]? = some false) W' (a'.tmps.getD (10 + j) undef)
  c7 : listed[7]? = some true → listed[6]? = some true
  c9 : listed[9]? = some true → listed[8]? = some true
  c10 : listed[10]? = some true → ∀ j, j < 10 → listed[j]? = some true
  fin : listed[10]? = some true → KeepsOthers W W' ∧ Kp w.heap.size (w.heap.size + 1 + 1) W W' ∧ Inv w g o' (pre ++ [x]) W'

theorem put_ne {a : Act} {t k : Nat} {v : Value} (h : t ≠ k) : (a.put (some t) v).tmps.getD k undef = a.tmps.getD k undef := by
  simp only [Act.put, Array.getD_eq_getD_getElem?]
  rw [Array.getElem?_setIfInBounds_ne h]

theorem put_eq {a : Act} {t : Nat} {v : Value} (h : t < a.tmps.size) : (a.put (some t) v).tmps.getD t undef = v := by
  simp only [Act.put, Array.getD_eq_getD_getElem?]
  rw [Array.getElem?_setIfInBounds_self_of_lt h]; rfl

theorem set_get {l : Array Bool} {i j : Nat} (h : j ≠ i) : (l.setIfInBounds i true)[j]? = l[j]? := by
  rw [Array.getElem?_setIfInBounds_ne (Ne.symm h)]

theorem set_no {l : Array Bool} {i : Nat} (hl : i < l.size) : ¬ (l.setIfInBounds i true)[i]? = some false := by
  rw [Array.getElem?_setIfInBounds_self_of_lt hl]; simp

section
variable {w W : World} {g o' x : Nat} {pre : List Nat} {v : Value} {a : Act}

theorem SB.next {listed : Array Bool} {a' : Act} {W' W'' : World} {k : Nat} {u : Value} (h : SB w W g o' x pre v a listed a' W') (hk : k < 10) (hls : listed.size = 11) (hl : listed[k]? = some false) (hsz : a.tmps.size = 21)
    (hc : k = 7 → listed[6]? = some true) (hc9 : k = 9 → listed[8]? = some true) (hg : W.grownBy W'' v.ownBlock) (ho : k ≠ 7 → listed[7]? = some false → W''.ownsRow (w.heap.size + 3) 63 1 v pre.length (pre.map (addr g o')))
    (hw : k ≠ 6 → k ≠ 7 → W'' = W') (hv : FB w W g o' x pre v k ((listed.setIfInBounds k true)[7]? = some false) ((listed.setIfInBounds k true)[10]? = some false) W'' u) :
    SB w W g o' x pre v a (listed.setIfInBounds k true) (a'.put (some (10 + k)) u) W'' := by
  have l10 : listed[10]? ≠ some true := fun e => by
    have := h.c10 e k hk
    rw [hl] at this; cases this
  refine ⟨by simp only [Act.put, Array.size_setIfInBounds]; exact h.size, fun t ht => ?_, fun _ => hg, fun h7 => ?_, fun j hj hlj => ?_, fun h7 => ?_, fun h9 => ?_, fun h10 => ?_, fun h10 => ?_⟩
  · rw [put_ne (by omega)]; exact h.same t ht
  · by_cases e : k = 7
    · subst e; exact (set_no (by omega) h7).elim
    · rw [set_get (Ne.symm e)] at h7; exact ho e h7
  · by_cases e : j = k
    · subst e
      rw [put_eq (by rw [h.size, hsz]; omega)]
      exact hv
    · rw [put_ne (by omega)]
      rw [set_get e] at hlj
      have hf := h.fact j hj hlj
      have same : W'' = W' → FB w W g o' x pre v j ((listed.setIfInBounds k true)[7]? = some false) ((listed.setIfInBounds k true)[10]? = some false) W'' (a'.tmps.getD (10 + j) undef) := fun e2 => by
        rw [e2]
        have imp : ∀ t, (listed.setIfInBounds k true)[t]? = some false → listed[t]? = some false := fun t ht => by
          by_cases et : t = k
          · subst et; exact (set_no (by omega) ht).elim
          · rw [set_get et] at ht; exact ht
        have : j = 0 ∨ j = 1 ∨ j = 2 ∨ j = 3 ∨ j = 4 ∨ j = 5 ∨ j = 6 ∨ j = 7 ∨ j = 8 ∨ j = 9 := by omega
        rcases this with rfl | rfl | rfl | rfl | rfl | rfl | rfl | rfl | rfl | rfl
        all_goals first | exact hf | exact fun h' => hf (imp _ h')
      by_cases e6 : k = 6
      · subst e6
        have : j = 0 ∨ j = 1 ∨ j = 2 ∨ j = 3 ∨ j = 4 ∨ j = 5 ∨ j = 7 ∨ j = 8 ∨ j = 9 := by omega
        rcases this with rfl | rfl | rfl | rfl | rfl | rfl | rfl | rfl | rfl
        case inr.inr.inr.inr.inr.inr.inl => have := h.c7 hlj; rw [hl] at this; cases this
        all_goals exact hf
      · by_cases e7 : k = 7
        · subst e7
          have : j = 0 ∨ j = 1 ∨ j = 2 ∨ j = 3 ∨ j = 4 ∨ j = 5 ∨ j = 6 ∨ j = 8 ∨ j = 9 := by omega
          rcases this with rfl | rfl | rfl | rfl | rfl | rfl | rfl | rfl | rfl
          case inr.inr.inr.inr.inr.inr.inl => exact fun h' => (set_no (by omega) h').elim
          all_goals exact hf
        · exact same (hw e6 e7)
  · by_cases e : k = 7
    · subst e; rw [set_get (by decide)]; exact hc rfl
    · rw [set_get (Ne.symm e)] at h7
      have := h.c7 h7
      by_cases e6 : k = 6
      · subst e6; rw [hl] at this; cases this
      · rw [set_get (Ne.symm e6)]; exact this
  · by_cases e : k = 9
    · subst e; rw [set_get (by decide)]; exact hc9 rfl
    · rw [set_get (Ne.symm e)] at h9
      have := h.c9 h9
      by_cases e8 : k = 8
      · subst e8; rw [hl] at this; cases this
      · rw [set_get (Ne.symm e8)]; exact this
  · rw [set_get (by omega)] at h10; exact (l10 h10).elim
  · rw [set_get (by omega)] at h10; exact (l10 h10).elim

theorem run6 {a : Act} {w : World} {A : Option Addr} (h : a.tmps.getD 15 undef = .pointer A) : (execOp a.eval q6).run Tryz.prog w = .ok (.value (.slice (some ⟨w.heap.size, 0, none⟩) 1 1)) (w.alloc (.cells #[.pointer A] 63)) := by
  have he : a.eval (.tmp 15) = .pointer A := h
  have hsh : shOf Tryz.prog 63 = some .any := by kernel_rfl
  have hz : tyZero Tryz.prog 63 = some (.pointer none) := by kernel_rfl
  have hpm : (#[((0 : Nat), Operand.tmp 15)].map fun (i, x) => (i, a.eval x)).toList = [(0, Value.pointer A)] := by simp [he]
  simp only [execOp, q6, Instr.buildSlice]
  simp only [Sem.run_bind, run_underlying' u89, run_sizeOf' (shOf_spec hsh).1, Result.andThen_ok, Sem.run_ite, Sh.width, hpm]
  simp only [Nat.mul_one, run_zeroValue' hz, Sem.run_bind, Result.andThen_ok, Sem.run_pure, if_neg (show ¬ (1 : Nat) > 2 ^ 24 by decide), if_neg (show ¬ (1 : Nat) = 0 by decide)]
  have hf : Instr.fill (fun i => some (i, 1)) (Array.map (fun x => (Value.pointer none).cells[x % (Value.pointer none).cells.size]!) (Array.range 1)) [(0, Value.pointer A)] = some #[Value.pointer A] := by
    have h1 : (Array.map (fun x => (Value.pointer none).cells[x % (Value.pointer none).cells.size]!) (Array.range 1)) = #[Value.pointer none] := by
      apply Array.ext <;> simp [Value.cells]
    rw [h1]
    rfl
  rw [hf]
  simp [newRow]

theorem sh78 : shOf Tryz.prog 78 = some .any := by kernel_rfl
theorem sh89 : shOf Tryz.prog 89 = some .slc := by kernel_rfl
theorem ag78 : tyAgg Tryz.prog 78 = some false := by kernel_rfl
theorem ag89 : tyAgg Tryz.prog 89 = some false := by kernel_rfl
theorem st91 : (Tryz.prog.underlying 91).bind (fun t => match t with | .struct fs => (fs[0]?).map (fun f => (f.offset, f.type)) | _ => none) = some (0, 89) := by kernel_rfl
theorem sz89 : tySize Tryz.prog 89 = some (0 + 1) := by kernel_rfl

theorem runFa {w : World} {ρ : Operand → Value} {o : Oper} {t : Nat} {Br : Nat} (ho : o.op = .fieldAddr 91 (.tmp t) 0) (h : ρ (.tmp t) = PT Br) : (execOp ρ o).run Tryz.prog w = .ok (.value (PT Br)) w := by
  have h91 := st91
  cases hu : Tryz.prog.underlying 91 with
  | none => rw [hu] at h91; cases h91
  | some td =>
    rw [hu] at h91
    simp only [Option.bind_some] at h91
    split at h91
    · rename_i fs
      cases hf : fs[0]? with
      | none => rw [hf] at h91; cases h91
      | some fl =>
        rw [hf] at h91
        simp only [Option.map_some, Option.some.injEq, Prod.mk.injEq] at h91
        have hp : ∀ A : Addr, (fieldPlace A fl).run Tryz.prog w = .ok (A.add fl.offset) w := fun A => by
          have := sz89
          rw [← h91.2] at this
          simp [fieldPlace, run_sizeOf' this]
        simp [execOp, ho, h, Instr.fieldAt, run_underlying' hu, hf, Instr.sureAddr, hp, h91.1, Addr.add]
    · cases h91

theorem stepB (hsz : a.tmps.size = 21) (h3 : a.tmps.getD 3 undef = .pointer (some ⟨w.heap.size + 1, 0, none⟩)) (h4 : a.tmps.getD 4 undef = addr g o' x) (hinv : Inv w g o' pre W) (hv : W.heap[w.heap.size]? = some (.cells #[v, .int .i64 0] 91 (0, 0))) (hr : W.ownsRow (w.heap.size + 3) 63 1 v pre.length (pre.map (addr g o'))) (hpre : pre.length + 1 ≤ 1000000)
    {l n : Nat} {Q : Exit → Act → World → Prop} {listed : Array Bool} {k : Nat} {o : Oper} {a' : Act} {W' : World} (hls : listed.size = opsB.size) (h : SB w W g o' x pre v a listed a' W') (ho : opsB[k]? = some o) (hl : listed[k]? = some false) (haf : ∀ e, e ∈ afterOf o → listed[e]? = some true) :
    StepIn (Fence.wide.inRound l) n Tryz.prog opsB o a' W' (SB w W g o' x pre v a (listed.setIfInBounds k true)) Q := by
  have hls9 : listed.size = 11 := hls
  have hk : k < 11 := by have := (Array.getElem?_eq_some_iff.1 hl).1; omega
  have ev : ∀ t, a'.eval (.tmp t) = a'.tmps.getD t undef := fun _ => rfl
  have hF : ∀ f, (Fence.wide.inRound l).fn f := fun _ => trivial
  have n10 : k < 10 → listed[10]? = some false := fun hk' => by
    have hb : (10 : Nat) < listed.size := by omega
    have he : listed[10]? = some listed[10] := by simp [hb]
    rw [he]
    cases hq : listed[10] with
    | false => rfl
    | true =>
      rw [hq] at he
      have := h.c10 he k hk'
      rw [hl] at this; cases this
  have hcase : k = 0 ∨ k = 1 ∨ k = 2 ∨ k = 3 ∨ k = 4 ∨ k = 5 ∨ k = 6 ∨ k = 7 ∨ k = 8 ∨ k = 9 ∨ k = 10 := by omega
  obtain ⟨v0, i1, i2, i3, i4, i5⟩ := id hinv
  have old : listed[10]? = some false → ∀ j, j < W.heap.size → some j ≠ v.ownBlock → W'.heap[j]? = W.heap[j]? := fun h10 j hj hne => (h.grown h10).block j hj hne
  have cBv : listed[10]? = some false → W'.heap[w.heap.size + 1]? = some (.cells #[PT w.heap.size] 78 (0, 0)) := fun h10 => (old h10 _ (Array.getElem?_eq_some_iff.1 i2).1 (row_ne hr (by omega))).trans i2
  have cBr : listed[10]? = some false → W'.heap[w.heap.size]? = some (.cells #[v, .int .i64 0] 91 (0, 0)) := fun h10 => (old h10 _ (Array.getElem?_eq_some_iff.1 hv).1 (row_ne hr (by omega))).trans hv
  have same : ∀ {u : Value}, k ≠ 6 → k ≠ 7 → k < 10 → (k = 9 → listed[8]? = some true) → FB w W g o' x pre v k ((listed.setIfInBounds k true)[7]? = some false) ((listed.setIfInBounds k true)[10]? = some false) W' u → SB w W g o' x pre v a (listed.setIfInBounds k true) (a'.put (some (10 + k)) u) W' := fun h6 h7 hk' h98 hf =>
    h.next hk' hls9 hl hsz (fun e => (h7 e).elim) h98 (h.grown (n10 hk')) (fun _ h' => h.own h') (fun _ _ => rfl) hf
  have ldBv : listed[10]? = some false → (loadVar 78 ⟨w.heap.size + 1, 0, none⟩).run Tryz.prog W' = .ok (PT w.heap.size) W' := fun h10 =>
    run_loadVar_sc ag78 _ _ (by simp [World.cell?, cBv h10])
  have e3 : a'.tmps.getD 3 undef = .pointer (some ⟨w.heap.size + 1, 0, none⟩) := (h.same 3 (by decide)).trans h3
  rcases hcase with rfl | rfl | rfl | rfl | rfl | rfl | rfl | rfl | rfl | rfl | rfl
  · obtain rfl : q0 = o := Option.some.inj ho
    exact stepIn (fun c hc => by cases hc) rfl hF (v := PT w.heap.size) (w' := W') (by simp [execOp, q0, ev, e3, Instr.loadAt, Instr.sureAddr, ldBv (n10 (by decide))]) (same (by decide) (by decide) (by decide) (fun e => by cases e) rfl)
  · obtain rfl : q1 = o := Option.some.inj ho
    exact stepIn (fun c hc => by cases hc) rfl hF (v := PT w.heap.size) (w' := W') (by simp [execOp, q1, ev, e3, Instr.loadAt, Instr.sureAddr, ldBv (n10 (by decide))]) (same (by decide) (by decide) (by decide) (fun e => by cases e) rfl)
  · obtain rfl : q2 = o := Option.some.inj ho
    have e1 : a'.tmps.getD 11 undef = PT w.heap.size := h.fact 1 (by decide) (haf 1 (by decide))
    exact stepIn (fun c hc => by cases hc) rfl hF (v := PT w.heap.size) (w' := W') (by simp [execOp, q2, ev, e1]) (same (by decide) (by decide) (by decide) (fun e => by cases e) rfl)
  · obtain rfl : q3 = o := Option.some.inj ho
    have e1 : a'.tmps.getD 12 undef = PT w.heap.size := h.fact 2 (by decide) (haf 2 (by decide))
    exact stepIn (fun c hc => by cases hc) rfl hF (v := PT w.heap.size) (w' := W') (runFa rfl e1) (same (by decide) (by decide) (by decide) (fun e => by cases e) rfl)
  · obtain rfl : q4 = o := Option.some.inj ho
    have e1 : a'.tmps.getD 13 undef = PT w.heap.size := h.fact 3 (by decide) (haf 3 (by decide))
    have hld : (loadVar 89 ⟨w.heap.size, 0, none⟩).run Tryz.prog W' = .ok v W' := run_loadVar_sc ag89 _ _ (by simp [World.cell?, cBr (n10 (by decide))])
    exact stepIn (fun c hc => by cases hc) rfl hF (v := v) (w' := W') (by simp [execOp, q4, ev, e1, Instr.loadAt, Instr.sureAddr, hld]) (same (by decide) (by decide) (by decide) (fun e => by cases e) rfl)
  · obtain rfl : q5 = o := Option.some.inj ho
    have e1 : a'.tmps.getD 4 undef = addr g o' x := (h.same 4 (by decide)).trans h4
    exact stepIn (fun c hc => by cases hc) rfl hF (v := addr g o' x) (w' := W') (by simp [execOp, q5, ev, e1]) (same (by decide) (by decide) (by decide) (fun e => by cases e) rfl)
  · obtain rfl : q6 = o := Option.some.inj ho
    have e1 : a'.tmps.getD 15 undef = addr g o' x := h.fact 5 (by decide) (haf 5 (by decide))
    refine stepIn (fun c hc => by cases hc) rfl hF (run6 e1) (h.next (by decide) hls9 hl hsz (fun e => by cases e) (fun e => by cases e) ((h.grown (n10 (by decide))).trans (World.grownBy_alloc W' _ _)) (fun _ h7 => (h.own h7).alloc _) (fun e => (e rfl).elim) fun _ => ⟨_, rfl, ?_⟩)
    exact cell_one_new W' (addr g o' x) 63 0 _ rfl
  · obtain rfl : q7 = o := Option.some.inj ho
    have e4 : a'.tmps.getD 14 undef = v := h.fact 4 (by decide) (haf 4 (by decide))
    obtain ⟨ad, e6, c6⟩ := h.fact 6 (by decide) (haf 6 (by decide)) hl
    have e6 : a'.tmps.getD 16 undef = .slice (some ad) 1 1 := e6
    obtain ⟨i0, j1, j2, j3, j4⟩ := info_parts i63
    have hgr := h.grown (n10 (by decide))
    obtain ⟨v', w3, r1, r2, r3, _⟩ := run_append_own (P := Tryz.prog) W' (w.heap.size + 3) 89 89 63 i0 (.pointer none) 1 8 u89 j1 j2 j3 j4 rfl (by decide) v pre.length _ (h.own hl) ad 1 1 [addr g o' x] rfl (fun j u hj => by
      match j, hj with
      | 0, hj => have hj : addr g o' x = u := by simpa using hj
                 subst hj; exact c6
      | j + 1, hj => simp at hj) (fun u hu => by simp at hu; subst hu; rfl) (by simp [maxLen]; omega) (by omega) (by have := hgr.size; omega)
    have r1 : (Builtin.append_ #[89, 89] 89 #[a'.eval (.tmp 14), a'.eval (.tmp 16)]).run Tryz.prog W' = .ok v' w3 := by rw [ev, ev, e4, e6]; exact r1
    have hrun : (execOp a'.eval q7).run Tryz.prog W' = .ok (.value v') w3 := by
      simp only [execOp, q7, resolve, pure_bind, invoke, builtin]
      simp [r1]
    refine stepIn (fun c hc => by cases hc) rfl hF hrun (h.next (by decide) hls9 hl hsz (fun _ => haf 6 (by decide)) (fun e => by cases e) (hgr.trans r3) (fun e => (e rfl).elim) (fun _ e => (e rfl).elim) fun _ => r2)
  · obtain rfl : q8 = o := Option.some.inj ho
    have e1 : a'.tmps.getD 10 undef = PT w.heap.size := h.fact 0 (by decide) (haf 0 (by decide))
    exact stepIn (fun c hc => by cases hc) rfl hF (v := PT w.heap.size) (w' := W') (by simp [execOp, q8, ev, e1]) (same (by decide) (by decide) (by decide) (fun e => by cases e) rfl)
  · obtain rfl : q9 = o := Option.some.inj ho
    have e1 : a'.tmps.getD 18 undef = PT w.heap.size := h.fact 8 (by decide) (haf 8 (by decide))
    exact stepIn (fun c hc => by cases hc) rfl hF (v := PT w.heap.size) (w' := W') (runFa rfl e1) (same (by decide) (by decide) (by decide) (fun _ => haf 8 (by decide)) rfl)
  · obtain rfl : q10 = o := Option.some.inj ho
    have e9 : a'.tmps.getD 19 undef = PT w.heap.size := h.fact 9 (by decide) (haf 9 (by decide))
    have f7 := h.fact 7 (by decide) (haf 7 (by decide)) hl
    obtain ⟨z1, z2, z3, z4⟩ := hinv.next hv hr f7 (h.grown hl)
    have hrun : (execOp a'.eval q10).run Tryz.prog W' = .ok .skip (W'.setCell ⟨w.heap.size, 0, none⟩ (a'.tmps.getD 17 undef)) := by
      obtain ⟨g1, cap, e17⟩ : ∃ g1 cap, a'.tmps.getD 17 undef = .slice (some ⟨g1, 0, none⟩) (pre.length + 1) cap := by
        rcases f7.2 with ⟨_, h0⟩ | ⟨g1, cap, cur, e, _⟩
        · omega
        · exact ⟨g1, cap, e⟩
      have hst := run_storeVar (P := Tryz.prog) sz89 (cBr hl) (a'.tmps.getD 17 undef) (o := 0) (by rw [e17]; rfl) (by simp) (by rw [e17]; intro y hy; simp [Value.cells] at hy; subst hy; rfl)
      have hset : W'.setCells w.heap.size 0 (a'.tmps.getD 17 undef).cells.toList = W'.setCell ⟨w.heap.size, 0, none⟩ (a'.tmps.getD 17 undef) := by
        rw [e17]; rfl
      rw [hset] at hst
      have e19 : a'.eval (.tmp 19) = PT w.heap.size := e9
      have hst' : (storeVar 89 ⟨w.heap.size, 0, none⟩ (a'.eval (.tmp 17))).run Tryz.prog W' = .ok () (W'.setCell ⟨w.heap.size, 0, none⟩ (a'.tmps.getD 17 undef)) := hst
      clear hst hset
      simp only [execOp, q10, e19, Instr.storeAt, Instr.sureAddr, Sem.run_bind, Sem.run_pure, Result.andThen_ok, hst']
    refine stepInS (fun c hc => by cases hc) rfl hF hrun ⟨h.size, fun t ht => h.same t ht, fun h10 => (set_no (by omega) h10).elim, fun h7 => ?_, fun j hj hlj => ?_, fun h7 => ?_, fun h9 => ?_, fun _ j hj => ?_, fun _ => z4⟩
    · rw [set_get (by decide), haf 7 (by decide)] at h7; cases h7
    · rw [set_get (by omega)] at hlj
      have hf := h.fact j hj hlj
      have : j = 0 ∨ j = 1 ∨ j = 2 ∨ j = 3 ∨ j = 4 ∨ j = 5 ∨ j = 6 ∨ j = 7 ∨ j = 8 ∨ j = 9 := by omega
      rcases this with rfl | rfl | rfl | rfl | rfl | rfl | rfl | rfl | rfl | rfl
      case inr.inr.inr.inr.inr.inr.inl =>
        intro h7
        rw [set_get (by decide), haf 7 (by decide)] at h7; cases h7
      case inr.inr.inr.inr.inr.inr.inr.inl => exact fun h10 => (set_no (by omega) h10).elim
      all_goals exact hf
    · rw [set_get (by decide)]; exact haf 6 (by decide)
    · rw [set_get (by decide)]; exact h.c9 (haf 9 (by decide))
    · rw [set_get (by omega)]
      have : j = 0 ∨ j = 1 ∨ j = 2 ∨ j = 3 ∨ j = 4 ∨ j = 5 ∨ j = 6 ∨ j = 7 ∨ j = 8 ∨ j = 9 := by omega
      rcases this with rfl | rfl | rfl | rfl | rfl | rfl | rfl | rfl | rfl | rfl
      case inr.inr.inr.inr.inr.inr.inr.inr.inl => exact h.c9 (haf 9 (by decide))
      all_goals exact haf _ (by decide)

theorem acB : acyc (opsB.toList.map afterOf) opsB.size [] = true := by kernel_rfl

theorem bodyB (hd : a.defers = []) (hsz : a.tmps.size = 21) (h3 : a.tmps.getD 3 undef = .pointer (some ⟨w.heap.size + 1, 0, none⟩)) (h4 : a.tmps.getD 4 undef = addr g o' x) (hinv : Inv w g o' pre W) (hpre : pre.length + 1 ≤ 1000000) (l n : Nat) {Ix : Code → List Nat → World → Prop} :
    (Code.block 1 (Code.region 4 opsB true)).wpIn (Fence.wide.inRound l) n Tryz.prog (ownPostK (Kp w.heap.size (w.heap.size + 1 + 1)) (Inv w g o') Ix (pre ++ [x]) W) a W := by
  have hmx : Tryz.prog.follows .mixedOrders = true := by kernel_rfl
  obtain ⟨v, hv, hbv, hrow, hbel, hsz'⟩ := id hinv
  refine wpIn_block (wpIn_region_any hmx ?_)
  have hg0 : W.grownBy { W with drawn := W.drawn + 1 } v.ownBlock := ⟨rfl, rfl, rfl, Nat.le_refl _, fun _ _ _ => rfl⟩
  refine wpAnyIn_inv acB (SB w W g o' x pre v a) (fun listed k o a' w' h1 h2 h3' h4' h5 => stepB hsz h3 h4 hinv hv hrow hpre h1 h2 h3' h4' h5) (fun listed a' w' h hall => ?_) opsB.size _ a _ (by simp) (unl_rep opsB.size)
    ⟨rfl, fun _ _ => rfl, fun _ => hg0, fun _ => hrow, fun j hj hl => ?_, fun hl => ?_, fun hl => ?_, fun hl => ?_, fun hl => ?_⟩
  all_goals first
    | (exfalso; rw [Array.getElem?_replicate] at hl; split at hl <;> cases hl; done)
    | skip
  obtain ⟨z1, z2, z3⟩ := h.fin (hall 10 (by decide))
  exact ⟨z1, z2, z3⟩

end

set_option maxRecDepth 100000 in
set_option maxHeartbeats 4000000 in
theorem premises_in (n : Nat) (hn : 3 ≤ n) (b o g o' c nn : Nat) (A : Option Addr) (hA : nn = 0 ∨ A = some ⟨g, o', none⟩) (hnn : nn ≤ 1000000) (w : World) (hb : b < w.heap.size)
    (hL : w.cell? ⟨b, o + 2, none⟩ = some (.slice A nn c)) :
    CallsIn Fence.wide n Tryz.prog 38 #[.pointer (some ⟨b, o, none⟩)] w fun e w' => e = .returned (.pointer (some ⟨w.heap.size, 0, none⟩)) ∧ Inv w g o' (List.range nn) w' := by
  have h1 : 1 ≤ n := by omega
  refine callsIn_of_wp_marks Tryz.func38 rfl trivial ?_ rfl
  simp only [tm38, List.size_toArray, List.length_cons, List.length_nil, Nat.reduceAdd, Nat.reduceSub, Array.replicate_succ, Array.replicate_zero, List.push_toArray, List.append_toArray, List.nil_append, List.cons_append]
  have h5 : Fence.wide.fn 52 := trivial
  have hro : Fence.wide.round = none := rfl
  gi_wp2_with (gi_at_call 52; refine (parts_in Fence.wide (n - 1) h5 hro _ _).mono ?_; rintro e w' ⟨rfl, rfl⟩)
  have hW0 : Below w.heap.size w (((w.alloc (.cells #[.slice none 0 0, .int .i64 0] 91)).alloc (.cells #[.pointer (some ⟨w.heap.size, 0, none⟩)] 78)).alloc (.cells #[.pointer (some ⟨b, o, none⟩)] 63)) :=
    ((((Below.refl _ w).alloc (Nat.le_refl _) _).alloc (by simp) _).alloc (by simp; omega) _)
  refine wpIn_rangeFunc_ownF hro h1 (gf := 83) (lb := #[.pointer (some ⟨w.heap.size + 1 + 1, 0, none⟩)]) rfl trivial (enters_of Tryz.func83 (by kernel_rfl) rfl)
    (parts_stops Fence.wide (n - 1) trivial hro (by omega) (w.heap.size + 1 + 1) w.heap.size b o g o' c nn A hA hnn _ hb (by simp) (by simp; omega) ?c1 ?c2) (fun h k => ⟨h.1.trans k.1, k.2.trans h.2⟩) ?kb (Below.refl _ _) (fun _ => rfl)
    (Inv w g o') (fun _ _ _ => False) (Inv.own (by simp; omega)) (fun _ _ _ _ _ hs _ _ => hs) ?start
    (fun x => { tmps := #[.pointer (some ⟨b, o, none⟩), undef, .pointer none, .pointer (some ⟨w.heap.size + 1, 0, none⟩), addr g o' x, .agg #[.slice none 0 0, .int .i64 0], .pointer (some ⟨w.heap.size, 0, none⟩), .pointer (some ⟨b, o, none⟩), .func (.func 83) #[] #[.pointer (some ⟨w.heap.size + 1 + 1, 0, none⟩)], addr g o' x, undef, undef, undef, undef, undef, undef, undef, undef, undef, undef, undef], defers := [] }) ?assign ?body ?done ?stop
  case kb =>
    intro W l ob ob' hl hl2 hc hwk
    refine ⟨belowK_b (Nat.le_refl _) W l ob ob' (Nat.le_trans (by simp; omega) hl) hl2 hc hwk, World.putObj_heap_other ?_⟩
    simp at hl
    omega
  case c1 =>
    have := World.alloc_heap_new ((w.alloc (.cells #[.slice none 0 0, .int .i64 0] 91)).alloc (.cells #[.pointer (some ⟨w.heap.size, 0, none⟩)] 78)) (.cells #[.pointer (some ⟨b, o, none⟩)] 63)
    simp only [World.size_alloc] at this
    unfold World.cell?
    simp only
    rw [this]
    rfl
  case c2 => exact (hW0.cell (p := ⟨b, o + 2, none⟩) hb).trans hL
  case start =>
    refine ⟨.slice none 0 0, ?_, ?_, ⟨by simp, .inl ⟨rfl, rfl⟩⟩, hW0, by simp⟩
    · exact (Below.heap_alloc _ _ _ (by simp; omega)).trans ((Below.heap_alloc _ _ _ (by simp)).trans (World.alloc_heap_new w _))
    · exact (Below.heap_alloc _ _ _ (by simp)).trans (by have := World.alloc_heap_new (w.alloc (.cells #[.slice none 0 0, .int .i64 0] 91)) (.cells #[.pointer (some ⟨w.heap.size, 0, none⟩)] 78); simpa using this)
  case assign =>
    intro l x W K hK
    unfold addr at hK ⊢
    gi_wp2
    exact hK
  case body =>
    intro l pre x W hinv hpre
    exact bodyB rfl rfl rfl rfl hinv (by omega) l _
  case done =>
    rintro D ys W hD rfl hI hK
    obtain ⟨v, hv, hbv, hrow, hbel, hsz'⟩ := id hI
    have cv : W.cell? ⟨w.heap.size + 1, 0, none⟩ = some (.pointer (some ⟨w.heap.size, 0, none⟩)) := by simp [World.cell?, hbv]
    gi_wp2
    refine ⟨by simp, .inl ⟨_, _, rfl, run_takeDeferred hK, ?_⟩⟩
    refine ⟨_, results_tmp rfl _ _ _, rfl, ?_⟩
    exact Inv.own (B := w.heap.size) (Nat.le_refl _) _ _ _ _ hI (grownBy_putObj' W D (.deferred none)) (fun r e => by cases e; exact ⟨by simp at hD; omega, _, hK, rfl⟩)
  case stop =>
    rintro D c pre W _ _ h _
    exact h.elim

end Pm
end Go.Proofs.Dw.Za
end

/-
  CertSizes: premises, as a summary over the world.
-/
section
namespace Go.Proofs.Dw.Za
open Go.Proofs

def ptrs : List Tree → List Tree
  | [] => []
  | x :: r => .ptr x 0 :: ptrs r

theorem ptrs_get : ∀ {es : List Tree} {i : Nat} {y : Tree}, (ptrs es)[i]? = some y → ∃ x, es[i]? = some x ∧ y = .ptr x 0
  | [], i, y, h => by simp [ptrs] at h
  | x :: r, 0, y, h => by simp [ptrs] at h; exact ⟨x, rfl, h.symm⟩
  | x :: r, i + 1, y, h => by
    simp only [ptrs, List.getElem?_cons_succ] at h ⊢
    exact ptrs_get h

theorem ptrs_len : ∀ (es : List Tree), (ptrs es).length = es.length
  | [] => rfl
  | _ :: r => by simp [ptrs, ptrs_len r]

def wide3 (es : List Tree) : Bool := es.all fun x => Nat.beq x.cells.length 3

def C38 (_ : List AV) (_ : Heap) : Bool := true
def S38 (args : List AV) (H : Heap) : Option (AV × Heap) :=
  match args, H with
  | [.t (.ptr (.agg [_, _, .slc es]) 0)], [.wld G] => bif wide3 es && Nat.ble es.length 1000000 then some (.t (.wp G.length 0), [.wld (G ++ [.cells [.slc (ptrs es), .int .i64 0]])]) else none
  | _, _ => none

theorem ptr_inv2 {w : World} {I : Fz} {e : Tree} {j : Nat} {v : Value} (h : RepT w I (.ptr e j) v) : ∃ b o, ∃ val : Nat → Value, v = .pointer (some ⟨b, o + j, none⟩) ∧ I b ∧ (∀ (i : Nat) y, e.cells[i]? = some y → w.cell? ⟨b, o + i, none⟩ = some (val i)) ∧ ∀ (i : Nat) y, e.cells[i]? = some y → RepT w I y (val i) := by
  cases h with
  | ptr _ _ b o val hI hf hc hr => exact ⟨b, o, val, rfl, hI, hc, hr⟩

theorem slc_inv2 {w : World} {I : Fz} {es : List Tree} {v : Value} (h : RepT w I (.slc es) v) : (es = [] ∧ ∃ A c, v = .slice A 0 c) ∨ ∃ b o c k, ∃ val : Nat → Nat → Value, v = .slice (some ⟨b, o, none⟩) es.length c ∧ I b ∧ (∀ (i : Nat) x, es[i]? = some x → x.cells.length = k ∧ x.fl = true) ∧
    (∀ (i j : Nat) x y, es[i]? = some x → x.cells[j]? = some y → w.cell? ⟨b, o + i * k + j, none⟩ = some (val i j)) ∧ ∀ (i j : Nat) x y, es[i]? = some x → x.cells[j]? = some y → RepT w I y (val i j) := by
  cases h with
  | slc0 a c => exact .inl ⟨rfl, a, c, rfl⟩
  | slc _ b o c k val hI hc hk hf hcell hr => exact .inr ⟨b, o, c, k, val, rfl, hI, fun i x hx => ⟨hk i x hx, hf x (List.mem_of_getElem? hx)⟩, hcell, hr⟩

theorem callable38 : callable Tryz.prog 38 = true := by kernel_rfl

/-- What the premises come to. -/
theorem prem_comes {φ : Phi} {I : Fz} {w w' : World} {G : World'} {es : List Tree} {g o' : Nat} (sm : Sim φ I (rdH [.wld G]) w) (hes : es = [] ∨ (I g ∧ ∃ val : Nat → Nat → Value, (∀ (i : Nat) x, es[i]? = some x → x.cells.length = 3 ∧ x.fl = true) ∧
    (∀ (i j : Nat) x y, es[i]? = some x → x.cells[j]? = some y → w.cell? ⟨g, o' + i * 3 + j, none⟩ = some (val i j)) ∧ ∀ (i j : Nat) x y, es[i]? = some x → x.cells[j]? = some y → RepT w I y (val i j)))
    (hinv : Pm.Inv w g o' (List.range es.length) w') : Comes' φ I [.wld G] w (.t (.wp G.length 0)) [.wld (G ++ [.cells [.slc (ptrs es), .int .i64 0]])] (.returned (.pointer (some ⟨w.heap.size, 0, none⟩))) w' := by
  obtain ⟨v, b1, b2, hrow, hbel, hsz⟩ := hinv
  have wl := (sm.wok.wld 0 G rfl).2
  have pG : I.ps G.length = none := by
    cases hq : I.ps G.length with
    | none => rfl
    | some g => have := wl.2 _ _ hq; omega
  have psold : ∀ id g, I.ps id = some g → g < w.heap.size := fun id g h => (sm.wok.psI id g h).2.1
  let I2 : Fz := ⟨fun x => I x ∨ v.ownBlock = some x, fun id => if id = G.length then some w.heap.size else I.ps id⟩
  have le : I.Le I2 := ⟨fun g h => .inl h, fun id g h => by
    show (if id = G.length then some w.heap.size else I.ps id) = some g
    rw [if_neg (fun e => by rw [e, pG] at h; cases h)]; exact h⟩
  have ownlt : ∀ x, v.ownBlock = some x → w.heap.size + 3 ≤ x ∧ x < w'.heap.size ∧ ∃ cur, w'.heap[x]? = some (.cells cur 63 (0, 0)) := fun x hx => by
    rcases hrow.2 with ⟨rfl, _⟩ | ⟨g1, cap, cur, rfl, h1, h2, _⟩
    · cases hx
    · have : g1 = x := by simpa [Value.ownBlock] using hx
      subst this
      exact ⟨h1, (Array.getElem?_eq_some_iff.1 h2).1, cur, h2⟩
  have keep : ∀ x, x < w.heap.size → w'.heap[x]? = w.heap[x]? := fun x hx => hbel.block x hx
  have up : ∀ {x : Tree} {u : Value}, RepT w I x u → RepT w' I2 x u := fun h => h.mono le fun b o hb => cell_of_heap (keep b (sm.old b hb)) o
  have ps2 : ∀ id g, I2.ps id = some g → (id = G.length ∧ g = w.heap.size) ∨ (id ≠ G.length ∧ I.ps id = some g) := fun id g h => by
    have h : (if id = G.length then some w.heap.size else I.ps id) = some g := h
    by_cases e : id = G.length
    · rw [if_pos e] at h; cases h; exact .inl ⟨e, rfl⟩
    · rw [if_neg e] at h; exact .inr ⟨e, h⟩
  have slc : RepT w' I2 (.slc (ptrs es)) v := by
    rcases hrow.2 with ⟨e, h0⟩ | ⟨g1, cap, cur, e, h1, h2, h3, h4, h5, h6⟩
    · have : es = [] := by
        have h0 : (List.range es.length).length = 0 := h0
        simpa using h0
      subst this
      rw [e]; exact .slc0 none 0
    · subst e
      have hl : (List.range es.length).length = (ptrs es).length := by rw [List.length_range, ptrs_len]
      rw [hl] at h3 h6 ⊢
      have get : ∀ (i : Nat) y, (ptrs es)[i]? = some y → ∃ x, es[i]? = some x ∧ y = .ptr x 0 ∧ cur[i]? = some (Pm.addr g o' i) := fun i y hy => by
        obtain ⟨x, hx, rfl⟩ := ptrs_get hy
        have hi : i < es.length := (List.getElem?_eq_some_iff.1 hx).1
        refine ⟨x, hx, rfl, ?_⟩
        have : (cur.toList.take ((ptrs es).length * 1))[i]? = some (Pm.addr g o' i) := by
          rw [h6, List.getElem?_map, List.getElem?_range hi]; rfl
        rw [List.getElem?_take] at this
        split at this
        · simpa using this
        · cases this
      refine RepT.slc (ptrs es) g1 0 cap 1 (fun i _ => Pm.addr g o' i) (.inr rfl) h3 (fun i y hy => ?_) (fun y hy => ?_) (fun i j y z hy hz => ?_) (fun i j y z hy hz => ?_)
      · obtain ⟨x, _, rfl, _⟩ := get i y hy; rfl
      · obtain ⟨i, hi, rfl⟩ := List.mem_iff_getElem.1 hy
        obtain ⟨x, _, e, _⟩ := get i _ (List.getElem?_eq_getElem hi)
        rw [e]; rfl
      · obtain ⟨x, _, rfl, hc⟩ := get i y hy
        match j, hz with
        | 0, hz => simp only [World.cell?, h2]; simpa using hc
        | j + 1, hz => simp [Tree.cells] at hz
      · obtain ⟨x, hx, rfl, hc⟩ := get i y hy
        match j, hz with
        | 0, hz =>
          have hz : Tree.ptr x 0 = z := by simpa [Tree.cells] using hz
          subst hz
          rcases hes with rfl | ⟨hIg, val, k1, k2, k3⟩
          · simp at hx
          · have hr := RepT.ptr (w := w) (I := I) x 0 g (o' + i * 3) (fun j => val i j) hIg (k1 i x hx).2 (fun j y hy => k2 i j x y hx hy) (fun j y hy => k3 i j x y hx hy)
            exact up hr
        | j + 1, hz => simp [Tree.cells] at hz
  have nal : ∀ (G0 : World') (b : Nat), (rdH [HObj.wld G0] b).alive = true → False := fun G0 b hb => by
    match b, hb with
    | 0, hb => cases hb
    | b + 1, hb => simp [rdH, nth, HObj.alive] at hb
  have ob : ∀ {g : Nat} {o : WObj}, g < w.heap.size → ObjOk w I g o → ObjOk w' I2 g o := by
    intro g o hg k2
    cases k2 with
    | dead => exact .dead
    | cells cs arr T h hl hc =>
      refine .cells cs arr T ((keep g hg).trans h) hl fun i x hx => ?_
      obtain ⟨q1, v, q2, q3⟩ := hc i x hx
      exact ⟨q1, v, q2, up q3⟩
    | map es ms n h hl hc => exact .map es ms n ((keep g hg).trans h) hl fun i p m hp hm => ⟨up (hc i p m hp hm).1, up (hc i p m hp hm).2⟩
  have wl2 : WldOk w' I2 (G ++ [.cells [.slc (ptrs es), .int .i64 0]]) := by
    refine ⟨fun id o ho => ?_, fun id g h => ?_⟩
    · rcases Nat.lt_trichotomy id G.length with hlt | heq | hgt
      · rw [List.getElem?_append_left hlt] at ho
        obtain ⟨g, k1, k2⟩ := wl.1 id o ho
        exact ⟨g, le.2 id g k1, ob (psold id g k1) k2⟩
      · subst heq
        rw [List.getElem?_append_right (Nat.le_refl _), Nat.sub_self] at ho
        simp at ho; subst ho
        refine ⟨w.heap.size, if_pos rfl, .cells _ #[v, .int .i64 0] 91 b1 (by simp) fun i x hx => ?_⟩
        match i, hx with
        | 0, hx => simp at hx; subst hx; exact ⟨rfl, v, rfl, slc⟩
        | 1, hx => simp at hx; subst hx; exact ⟨rfl, _, rfl, .int .i64 0⟩
        | i + 2, hx => simp at hx
      · rw [List.getElem?_append_right (by omega)] at ho
        rw [List.getElem?_eq_none (by simp; omega)] at ho; cases ho
    · rw [List.length_append]
      rcases ps2 id g h with ⟨e, _⟩ | ⟨_, h⟩
      · rw [e]; simp
      · have := wl.2 id g h; simp; omega
  have hsz2 : w.heap.size ≤ w'.heap.size := hbel.size
  refine ⟨_, φ, I2, rfl, .t _ _ (.wp _ _ _ (if_pos rfl)), ⟨fun b hb => (nal _ b hb).elim, fun b b' g C C' hb => (nal _ b (HObj.mut_alive hb)).elim, fun g hg => ?_, ⟨fun id g h => ?_, fun id id' g h h' => ?_, fun b g C id hb => (nal _ b (HObj.mut_alive hb)).elim, fun b G0 hb => ?_⟩⟩,
    ⟨fun b hb => ?_, fun b hb => (nal _ b hb).elim, fun g hg => .inl hg, fun g hg => ?_, fun b g C hm => (nal _ b (HObj.mut_alive hm)).elim, fun g hg hm hn => keep g hg, hsz2, hbel.os, hbel.tape, hbel.output, ⟨le.2, fun id g h => ?_, fun _ => ⟨0, G, rfl⟩⟩⟩⟩
  · rcases hg with hg | hg
    · have := sm.old g hg; omega
    · exact (ownlt g hg).2.1
  · rcases ps2 id g h with ⟨_, rfl⟩ | ⟨_, h⟩
    · refine ⟨fun hh => ?_, (Array.getElem?_eq_some_iff.1 b1).1, .inl ⟨_, _, b1⟩⟩
      rcases hh with hh | hh
      · have := sm.old _ hh; omega
      · have := (ownlt _ hh).1; omega
    · obtain ⟨q1, q2, q3⟩ := sm.wok.psI id g h
      refine ⟨fun hh => ?_, Nat.lt_of_lt_of_le q2 hsz2, q3.of (keep g q2)⟩
      rcases hh with hh | hh
      · exact q1 hh
      · have := (ownlt _ hh).1; omega
  · rcases ps2 id g h with ⟨e, rfl⟩ | ⟨_, h⟩ <;> rcases ps2 id' _ h' with ⟨e', e2⟩ | ⟨_, h'⟩
    · rw [e, e']
    · have := psold id' _ h'; omega
    · have := psold id _ h; omega
    · exact sm.wok.psinj id id' g h h'
  · match b, hb with
    | 0, hb => cases hb; exact ⟨rfl, wl2⟩
    | b + 1, hb => simp [rdH, nth] at hb
  · match b, hb with
    | 0, hb => cases hb
    | b + 1, hb => simp [rdH, nth] at hb
  · rcases hg with hg | hg
    · exact .inl hg
    · exact .inr (.inl (by have := (ownlt g hg).1; omega))
  · rcases ps2 id g h with ⟨_, rfl⟩ | ⟨_, h⟩
    · exact .inr ⟨⟨0, G, rfl⟩, Nat.le_refl _⟩
    · exact .inl h

theorem sum38 : SumOk Tryz.prog 38 C38 S38 := by
  intro args H v H' _ h
  unfold S38 at h
  split at h
  · rename_i x1 x2 es G _
    obtain ⟨hb, h⟩ := bif_some h
    cases h
    simp only [Bool.and_eq_true] at hb
    refine ⟨callable38, fun φ w I vals hr sm => ?_⟩
    obtain ⟨vt, rfl⟩ : ∃ a, vals = #[a] := by
      have := hr.1
      match vals, this with
      | ⟨[a]⟩, _ => exact ⟨a, rfl⟩
    have g0 := (hr.2 0 _ _ rfl rfl).tree
    obtain ⟨b, o, val, rfl, hI, hc, hrv⟩ := ptr_inv2 g0
    have c2 := hc 2 _ rfl
    have r2 := hrv 2 _ rfl
    have hlen := Nat.le_of_ble_eq_true hb.2
    have hbl : b < w.heap.size := sm.old b hI
    rcases slc_inv2 r2 with ⟨rfl, A, c, e⟩ | ⟨g, o', c, k, vl, e, hIg, k1, k2, k3⟩
    · rw [e] at c2
      have hp := Pm.premises_in 3 (Nat.le_refl _) b o 0 0 c 0 A (.inl rfl) (by omega) w hbl c2
      refine Calls.mono (callsIn_wide.1 hp) fun e' w' ⟨he, hi⟩ => ?_
      subst he
      exact prem_comes (g := 0) (o' := 0) sm (.inl rfl) hi
    · rw [e] at c2
      have hk : es = [] ∨ k = 3 := by
        cases es with
        | nil => exact .inl rfl
        | cons x r =>
          have h1 := (k1 0 x rfl).1
          have h2 := Nat.eq_of_beq_eq_true (List.all_eq_true.1 hb.1 x (by simp))
          exact .inr (h1.symm.trans h2)
      have hp := Pm.premises_in 3 (Nat.le_refl _) b o g o' c es.length (some ⟨g, o', none⟩) (.inr rfl) hlen w hbl c2
      refine Calls.mono (callsIn_wide.1 hp) fun e' w' ⟨he, hi⟩ => ?_
      subst he
      refine prem_comes (g := g) (o' := o') sm ?_ hi
      rcases hk with hk | rfl
      · exact .inl hk
      · exact .inr ⟨hIg, vl, k1, k2, k3⟩
  · cases h

end Go.Proofs.Dw.Za
end

/-
  CertSizes: the summary of newMachine (141): its definition.
-/
section
namespace Go.Proofs.Dw.Za
open Go.Proofs

def C141 (_ : List AV) (_ : Heap) : Bool := true
def ks : List (Option Nat) :=
  [none, none, some 164, none, none, none, none, some 162, none, none, some 163, some 163, none, none, none, none, none, none, some 167, none, none, some 168, none, none, none, some 166, none, none, some 165, none, none]
def ruleT (m : Tree) : Option Nat → Tree
  | none => .nilfn
  | some k => .fn k [m] []
def rules (m : Tree) : List Tree := ks.map (ruleT m)
def S141 (args : List AV) (H : Heap) : Option (AV × Heap) :=
  match args, H with
  | [.t (.agg [.slc d])], [.wld G] => some (.t (.wp G.length 0), [.wld (G ++ [.cells [.slc d, .slc (rules (.wp G.length 0)), .int .i64 0]])])
  | _, _ => none

end Go.Proofs.Dw.Za
end

/-
  CertSizes: A MACHINE OF ITS OWN becomes an object of the world.
-/
section
namespace Go.Proofs.Dw.Za
open Go.Proofs

/-- The rules as they lie, led to by their own machine. -/
def ruleA (m : AV) : Option Nat → AV
  | none => .t .nilfn
  | some k => .fn k [m] []
def rulesA (m : AV) : List AV := ks.map (ruleA m)

theorem promote {φ : Phi} {I : Fz} {w w' : World} {G : World'} {d : Tree} {o1 : HObj} {e : Ending} (h0 : Sim φ I (rdH [.wld G]) w)
    (h : Comes' φ I [.wld G] w (.href 2 0 0) [.wld G, o1, .mix (.agg [.slc, .slc, .int .i64]) [.agg [.t d, .hsl 3 (some 31), .t (.int .i64 0)]], .mix .any (rulesA (.href 2 0 0))] e w') (hd : d.isSc = true) :
    Comes' φ I [.wld G] w (.t (.wp G.length 0)) [.wld (G ++ [.cells [d, .slc (rules (.wp G.length 0)), .int .i64 0]])] e w' := by
  obtain ⟨val, φ', I', rfl, hv, sm, E⟩ := h
  have wl := (sm.wok.wld 0 G rfl).2
  obtain ⟨g2, C2, hφ2, hp⟩ := hv.href_inv rfl
  rcases sm.blk 2 rfl with ⟨hnil, _⟩ | ⟨g2', C2', e2, hm2, _, row2⟩
  · cases hnil
  rw [hφ2] at e2; cases e2
  rcases sm.blk 3 rfl with ⟨hnil, _⟩ | ⟨g3, C3, hφ3, hm3, _, row3⟩
  · cases hnil
  have fresh : ∀ b g C, (rdH [.wld G, o1, .mix (.agg [.slc, .slc, .int .i64]) [.agg [.t d, .hsl 3 (some 31), .t (.int .i64 0)]], .mix .any (rulesA (.href 2 0 0))] b).mut = true → φ' b = some (g, C) → w.heap.size ≤ g := by
    intro b g C hm hφ
    rcases E.mnew b g C hm hφ with h | ⟨b0, C0, hm0, _⟩
    · exact h
    · exfalso
      match b0, hm0 with
      | 0, hm0 => cases hm0
      | b0 + 1, hm0 => simp [rdH, nth, HObj.mut] at hm0
  have f2 := fresh 2 g2 C2 rfl hφ2
  have f3 := fresh 3 g3 C3 rfl hφ3
  have ne23 : g2 ≠ g3 := fun e => by
    have := sm.inj 2 3 g2 C2 C3 rfl rfl hφ2 (by rw [e]; exact hφ3)
    omega
  have n2 : ¬ I' g2 := hm2 rfl
  have n3 : ¬ I' g3 := hm3 rfl
  obtain ⟨arr2, T2, a1, a2, a3, a4⟩ := row2.lies
  obtain ⟨arr3, T3, b1, b2, b3, b4⟩ := row3.lies
  have p2 : ∀ id, I'.ps id ≠ some g2 := fun id hq => sm.wok.psM 2 g2 C2 id rfl hφ2 hq
  have p3 : ∀ id, I'.ps id ≠ some g3 := fun id hq => sm.wok.psM 3 g3 C3 id rfl hφ3 hq
  have lt2 : g2 < w'.heap.size := (Array.getElem?_eq_some_iff.1 a1).1
  have lt3 : g3 < w'.heap.size := (Array.getElem?_eq_some_iff.1 b1).1
  have pG : I'.ps G.length = none := by
    cases hq : I'.ps G.length with
    | none => rfl
    | some g => have := wl.2 _ _ hq; omega
  let I2 : Fz := ⟨fun g => I' g ∨ g = g3, fun id => if id = G.length then some g2 else I'.ps id⟩
  have le : I'.Le I2 := ⟨fun g h => .inl h, fun id g h => by
    show (if id = G.length then some g2 else I'.ps id) = some g
    rw [if_neg (fun e => by rw [e, pG] at h; cases h)]; exact h⟩
  have up : ∀ {x : Tree} {v : Value}, RepT w' I' x v → RepT w' I2 x v := fun h => h.mono le fun _ _ _ => rfl
  have hw0 := (a4 0 (.agg [.t d, .hsl 3 (some 31), .t (.int .i64 0)]) rfl).2
  obtain ⟨v0, c0, r0⟩ := hw0 0 (.t d) rfl
  obtain ⟨v1, c1, r1⟩ := hw0 1 (.hsl 3 (some 31)) rfl
  obtain ⟨v2, c2, r2⟩ := hw0 2 (.t (.int .i64 0)) rfl
  have hlen : (rulesA (.href 2 0 0)).length = 31 := rfl
  have slc : RepT w' I2 (.slc (rules (.wp G.length 0))) v1 := by
    rcases r1.hsl_inv rfl with ⟨g, C, c, k1, k2, k3, k4, k5⟩ | ⟨_, _, k, _⟩
    · rw [hφ3] at k1; cases k1
      have k2 : v1 = .slice (some ⟨g3, 0, none⟩) 31 c := k2
      rw [k2]
      have el : ∀ (i : Nat) x, (rules (.wp G.length 0))[i]? = some x → ∃ v, arr3[i]? = some v ∧ x.cells = [x] ∧ x.isSc = true ∧ RepT w' I2 x v := by
        intro i x hx
        unfold rules at hx
        rw [List.getElem?_map] at hx
        cases hq : ks[i]? with
        | none => rw [hq] at hx; cases hx
        | some q =>
          rw [hq] at hx
          have hx : ruleT (.wp G.length 0) q = x := by simpa using hx
          have ha : (rulesA (.href 2 0 0))[i]? = some (ruleA (.href 2 0 0) q) := by unfold rulesA; rw [List.getElem?_map, hq]; rfl
          obtain ⟨_, hcell⟩ := b4 i _ ha
          obtain ⟨v, hv1, hv2⟩ := hcell 0 (ruleA (.href 2 0 0) q) (by cases q <;> rfl)
          have hv1' : arr3[i * 1 + 0]? = some v := hv1
          refine ⟨v, by simpa using hv1', by rw [← hx]; cases q <;> rfl, by rw [← hx]; cases q <;> rfl, ?_⟩
          rw [← hx]
          cases q with
          | none => exact up hv2.tree
          | some k =>
            obtain ⟨va, vc, rfl, f1, f2⟩ := hv2.fn_inv
            refine .fn k _ _ va vc (by simpa using f1.1) (by simpa using f2.1) (fun j y u hy hu => ?_) (fun j y u hy hu => by simp at hy)
            match j, hy with
            | 0, hy =>
              simp at hy; subst hy
              have hr := f1.2 0 (.href 2 0 0) u rfl (by simpa using hu)
              obtain ⟨g, C, q1, q2⟩ := hr.href_inv rfl
              rw [hφ2] at q1; cases q1
              rw [q2]
              exact .wp _ _ _ (if_pos rfl)
            | j + 1, hy => simp at hy
      refine RepT.slc (rules (.wp G.length 0)) g3 0 c 1 (fun i _ => arr3.getD i undef) (.inr rfl) k3 (fun i x hx => ?_) (fun x hx => ?_) (fun i j x y hx hy => ?_) (fun i j x y hx hy => ?_)
      · obtain ⟨v, _, e, _, _⟩ := el i x hx; rw [e]; rfl
      · obtain ⟨i, hi, rfl⟩ := List.mem_iff_getElem.1 hx
        obtain ⟨v, _, e, e2, _⟩ := el i _ (List.getElem?_eq_getElem hi)
        unfold Tree.fl
        rw [e]
        simp [e2]
      · obtain ⟨v, e1, e, _, _⟩ := el i x hx
        rw [e] at hy
        match j, hy with
        | 0, hy =>
          have hi : i < arr3.size := (Array.getElem?_eq_some_iff.1 e1).1
          simp [World.cell?, b1, hi]
        | j + 1, hy => simp at hy
      · obtain ⟨v, e1, e, _, e3⟩ := el i x hx
        rw [e] at hy
        match j, hy with
        | 0, hy =>
          simp at hy; subst hy
          have : arr3.getD i undef = v := by rw [Array.getD_eq_getD_getElem?, e1]; rfl
          rw [this]; exact e3
        | j + 1, hy => simp at hy
    · cases k
  have nal : ∀ (G0 : World') (b : Nat), (rdH [HObj.wld G0] b).alive = true → False := fun G0 b hb => by
    match b, hb with
    | 0, hb => cases hb
    | b + 1, hb => simp [rdH, nth, HObj.alive] at hb
  have ps2 : ∀ id g, I2.ps id = some g → (id = G.length ∧ g = g2) ∨ (id ≠ G.length ∧ I'.ps id = some g) := fun id g h => by
    have h : (if id = G.length then some g2 else I'.ps id) = some g := h
    by_cases e : id = G.length
    · rw [if_pos e] at h; cases h; exact .inl ⟨e, rfl⟩
    · rw [if_neg e] at h; exact .inr ⟨e, h⟩
  have ob : ∀ {g : Nat} {o : WObj}, ObjOk w' I' g o → ObjOk w' I2 g o := by
    intro g o k2
    cases k2 with
    | dead => exact .dead
    | cells cs arr T h hl hc =>
      refine .cells cs arr T h hl fun i x hx => ?_
      obtain ⟨q1, v, q2, q3⟩ := hc i x hx
      exact ⟨q1, v, q2, up q3⟩
    | map es ms n h hl hc => exact .map es ms n h hl fun i p m hp hm => ⟨up (hc i p m hp hm).1, up (hc i p m hp hm).2⟩
  have sz : 3 ≤ arr2.size := (Array.getElem?_eq_some_iff.1 (show arr2[2]? = some v2 from c2)).1
  have wl2 : WldOk w' I2 (G ++ [.cells [d, .slc (rules (.wp G.length 0)), .int .i64 0]]) := by
    refine ⟨fun id o ho => ?_, fun id g h => ?_⟩
    · rcases Nat.lt_trichotomy id G.length with hlt | heq | hgt
      · rw [List.getElem?_append_left hlt] at ho
        obtain ⟨g, k1, k2⟩ := wl.1 id o ho
        exact ⟨g, le.2 id g k1, ob k2⟩
      · subst heq
        rw [List.getElem?_append_right (Nat.le_refl _), Nat.sub_self] at ho
        simp at ho; subst ho
        refine ⟨g2, if_pos rfl, .cells _ arr2 T2 a1 (by simpa using sz) fun i x hx => ?_⟩
        match i, hx with
        | 0, hx => simp at hx; subst hx; exact ⟨hd, v0, c0, up r0.tree⟩
        | 1, hx => simp at hx; subst hx; exact ⟨rfl, v1, c1, slc⟩
        | 2, hx => simp at hx; subst hx; exact ⟨rfl, v2, c2, up r2.tree⟩
        | i + 3, hx => simp at hx
      · rw [List.getElem?_append_right (by omega)] at ho
        rw [List.getElem?_eq_none (by simp; omega)] at ho; cases ho
    · rw [List.length_append]
      rcases ps2 id g h with ⟨e, _⟩ | ⟨_, h⟩
      · rw [e]; simp
      · have := wl.2 id g h; simp; omega
  refine ⟨val, φ, I2, rfl, .t _ _ (by rw [hp]; exact .wp _ _ _ (if_pos rfl)), ⟨fun b hb => (nal _ b hb).elim, fun b b' g C C' hb => (nal _ b (HObj.mut_alive hb)).elim, fun g hg => ?_, ⟨fun id g h => ?_, fun id id' g h h' => ?_, fun b g C id hb => (nal _ b (HObj.mut_alive hb)).elim, fun b G0 hb => ?_⟩⟩,
    ⟨fun b hb => ?_, fun b hb => (nal _ b hb).elim, fun g hg => .inl (E.sub g hg), fun g hg => ?_, fun b g C hm => (nal _ b (HObj.mut_alive hm)).elim, fun g hg hm hn => E.frame g hg hm hn, E.size, E.os, E.tape, E.output, ⟨fun id g h => le.2 id g (E.wx.psub id g h), fun id g h => ?_, fun _ => ⟨0, G, rfl⟩⟩⟩⟩
  · rcases hg with hg | hg
    · exact sm.old g hg
    · rw [hg]; exact lt3
  · rcases ps2 id g h with ⟨_, rfl⟩ | ⟨_, h⟩
    · exact ⟨fun hh => hh.elim n2 ne23, lt2, .inl ⟨arr2, T2, a1⟩⟩
    · obtain ⟨q1, q2, q3⟩ := sm.wok.psI id g h
      exact ⟨fun hh => hh.elim q1 fun e => p3 id (by rw [h, e]), q2, q3⟩
  · rcases ps2 id g h with ⟨e, rfl⟩ | ⟨_, h⟩ <;> rcases ps2 id' _ h' with ⟨e', e2⟩ | ⟨_, h'⟩
    · rw [e, e']
    · exact (p2 id' h').elim
    · exact (p2 id (by rw [h, e2])).elim
    · exact sm.wok.psinj id id' g h h'
  · match b, hb with
    | 0, hb => cases hb; exact ⟨rfl, wl2⟩
    | b + 1, hb => simp [rdH, nth] at hb
  · match b, hb with
    | 0, hb => cases hb
    | b + 1, hb => simp [rdH, nth] at hb
  · rcases hg with hg | hg
    · exact E.inew g hg
    · exact .inr (.inl (by rw [hg]; exact f3))
  · rcases ps2 id g h with ⟨_, rfl⟩ | ⟨_, h⟩
    · exact .inr ⟨⟨0, G, rfl⟩, f2⟩
    · exact E.wx.psnew id g h

end Go.Proofs.Dw.Za
end
