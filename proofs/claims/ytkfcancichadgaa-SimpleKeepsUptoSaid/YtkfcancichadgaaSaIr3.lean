/-
  THE RECKONED CODE, part 3: printed by program.
-/
import Derived.Test.YtkfcancichadgaaRows
import Derived.Test.YtkfcancichadgaaAw4
set_option linter.unusedSimpArgs false
set_option linter.unusedVariables false
set_option maxRecDepth 100000
namespace Go.Proofs.Aw.Sa
open Go.Proofs

/-- tenet/tenetref25.binds -/
def ir77 : FInfo := ⟨10,
 (.seq (.reg [⟨(some 1), none, .box (.agg [(.int .i64), (.int .i64), .str, .slc, .slc]) (.s 0)⟩, ⟨(some 2), none, .mov (.c (.t (.int .i64 0)))⟩])
 (.seq (.seq (.reg [⟨(some 3), none, .fa 0 (.s 1)⟩, ⟨(some 4), none, .ld (.int .i64) (.s 3)⟩, ⟨(some 5), none, .bin .eql (.s 4) (.c (.t (.int .i64 2)))⟩, ⟨(some 6), none, .mov (.s 5)⟩, ⟨(some 7), (some (6, true)), .ld (.agg [(.int .i64), (.int .i64), .str, .slc, .slc]) (.s 1)⟩, ⟨(some 8), (some (6, true)), .call false 68 .bool [(.s 7)]⟩, ⟨(some 9), none, .pick (.s 6) (.s 8) (.c (.t (.bool false)))⟩])
 (.cond (.s 9)
 (.seq (.reg [⟨(some 2), none, .mov (.c (.t (.int .i64 1)))⟩])
 .ret)
 .skip))
 (.seq (.reg [⟨(some 2), none, .mov (.c (.t (.int .i64 0)))⟩])
 .ret))),
 [.slot 2]⟩
theorem ok77 : compF Try.prog 77 [] [] = some ir77 := by kernel_rfl

/-- slices.EqualFunc[[]tenet/api.Ty,[]tenet/api.Ty,tenet/api.Ty,tenet/api.Ty] -/
def ir78 : FInfo := ⟨32,
 (.seq (.reg [⟨(some 6), none, .mov (.c (.t (.bool false)))⟩])
 (.seq (.seq (.reg [⟨(some 10), none, .mov (.s 0)⟩, ⟨(some 11), none, .len (.s 10)⟩, ⟨(some 12), none, .mov (.s 1)⟩, ⟨(some 13), none, .len (.s 12)⟩, ⟨(some 14), none, .bin .neq (.s 11) (.s 13)⟩])
 (.cond (.s 14)
 (.seq (.reg [⟨(some 6), none, .mov (.c (.t (.bool false)))⟩])
 .ret)
 .skip))
 (.seq (.seq (.reg [⟨(some 15), none, .mov (.s 0)⟩, ⟨(some 16), none, .len (.s 15)⟩, ⟨(some 17), none, .mov (.c (.t (.int .i64 0)))⟩])
 (.block 0 (.loop [1, 2, 15, 16, 17] (.seq (.reg [⟨(some 18), none, .bin .lss (.s 17) (.s 16)⟩])
 (.seq (.cond (.s 18)
 .skip
 (.exit 0))
 (.seq (.block 1 (.seq (.reg [⟨(some 19), none, .mov (.s 17)⟩, ⟨(some 20), none, .ia (.agg [.str, .slc]) (.s 15) (.s 17)⟩, ⟨(some 21), none, .ld (.agg [.str, .slc]) (.s 20)⟩, ⟨(some 8), none, .new (.agg [.str, .slc]) (.agg [(.t (.str [])), .nilS])⟩, ⟨(some 7), none, .mov (.s 19)⟩, ⟨none, none, .st (.agg [.str, .slc]) (.s 8) (.s 21)⟩])
 (.seq (.reg [⟨(some 22), none, .mov (.s 1)⟩, ⟨(some 23), none, .mov (.s 7)⟩, ⟨(some 24), none, .ia (.agg [.str, .slc]) (.s 22) (.s 23)⟩, ⟨(some 25), none, .ld (.agg [.str, .slc]) (.s 24)⟩, ⟨(some 9), none, .new (.agg [.str, .slc]) (.agg [(.t (.str [])), .nilS])⟩, ⟨none, none, .st (.agg [.str, .slc]) (.s 9) (.s 25)⟩])
 (.seq (.reg [⟨(some 26), none, .mov (.s 2)⟩, ⟨(some 27), none, .ld (.agg [.str, .slc]) (.s 8)⟩, ⟨(some 28), none, .ld (.agg [.str, .slc]) (.s 9)⟩, ⟨(some 29), none, .callv (.s 26) .bool [(.s 27), (.s 28)]⟩, ⟨(some 30), none, .un .not (.s 29)⟩])
 (.cond (.s 30)
 (.seq (.reg [⟨(some 6), none, .mov (.c (.t (.bool false)))⟩])
 .ret)
 .skip)))))
 (.reg [⟨(some 31), none, .bin .add (.s 17) (.c (.t (.int .i64 1)))⟩, ⟨(some 17), none, .mov (.s 31)⟩])))))))
 (.seq (.reg [⟨(some 6), none, .mov (.c (.t (.bool true)))⟩])
 .ret)))),
 [.slot 6]⟩
theorem ok78 : compF Try.prog 78 [[1, 2, 15, 16, 17]] [] = some ir78 := by kernel_rfl

/-- slices.IndexFunc[[]tenet/api.Ty,tenet/api.Ty] -/
def ir79 : FInfo := ⟨19,
 (.seq (.reg [⟨(some 4), none, .mov (.c (.t (.int .i64 0)))⟩])
 (.seq (.seq (.reg [⟨(some 6), none, .mov (.s 0)⟩, ⟨(some 7), none, .len (.s 6)⟩, ⟨(some 8), none, .mov (.c (.t (.int .i64 0)))⟩])
 (.block 0 (.loop [0, 1, 7, 8] (.seq (.reg [⟨(some 9), none, .bin .lss (.s 8) (.s 7)⟩])
 (.seq (.cond (.s 9)
 .skip
 (.exit 0))
 (.seq (.block 1 (.seq (.reg [⟨(some 10), none, .mov (.s 8)⟩, ⟨(some 5), none, .mov (.s 10)⟩])
 (.seq (.reg [⟨(some 11), none, .mov (.s 1)⟩, ⟨(some 12), none, .mov (.s 0)⟩, ⟨(some 13), none, .mov (.s 5)⟩, ⟨(some 14), none, .ia (.agg [.str, .slc]) (.s 12) (.s 13)⟩, ⟨(some 15), none, .ld (.agg [.str, .slc]) (.s 14)⟩, ⟨(some 16), none, .callv (.s 11) .bool [(.s 15)]⟩])
 (.cond (.s 16)
 (.seq (.reg [⟨(some 17), none, .mov (.s 5)⟩, ⟨(some 4), none, .mov (.s 17)⟩])
 .ret)
 .skip))))
 (.reg [⟨(some 18), none, .bin .add (.s 8) (.c (.t (.int .i64 1)))⟩, ⟨(some 8), none, .mov (.s 18)⟩])))))))
 (.seq (.reg [⟨(some 4), none, .mov (.c (.t (.int .i64 (-1))))⟩])
 .ret))),
 [.slot 4]⟩
theorem ok79 : compF Try.prog 79 [[0, 1, 7, 8]] [] = some ir79 := by kernel_rfl

/-- tenet/simple.size -/
def ir80 : FInfo := ⟨31,
 (.seq (.reg [⟨(some 1), none, .box (.agg [.str, .slc]) (.s 0)⟩, ⟨(some 2), none, .mov (.c (.t (.int .i64 0)))⟩, ⟨(some 3), none, .mov (.c (.t (.int .i64 0)))⟩])
 (.seq (.seq (.reg [⟨(some 8), none, .fa 1 (.s 1)⟩, ⟨(some 9), none, .ld .slc (.s 8)⟩, ⟨(some 10), none, .len (.s 9)⟩, ⟨(some 11), none, .mov (.c (.t (.int .i64 0)))⟩])
 (.block 0 (.loop [2, 3, 9, 10, 11] (.seq (.reg [⟨(some 12), none, .bin .lss (.s 11) (.s 10)⟩])
 (.seq (.cond (.s 12)
 .skip
 (.exit 0))
 (.seq (.block 1 (.seq (.reg [⟨(some 13), none, .ia (.agg [.str, .slc]) (.s 9) (.s 11)⟩, ⟨(some 14), none, .ld (.agg [.str, .slc]) (.s 13)⟩, ⟨(some 5), none, .new (.agg [.str, .slc]) (.agg [(.t (.str [])), .nilS])⟩, ⟨none, none, .st (.agg [.str, .slc]) (.s 5) (.s 14)⟩])
 (.seq (.reg [⟨(some 16), none, .ld (.agg [.str, .slc]) (.s 5)⟩, ⟨(some 17), none, .call false 80 (.tup [(.int .i64), (.int .i64)]) [(.s 16)]⟩, ⟨(some 15), none, .mov (.s 17)⟩, ⟨(some 18), none, .ext 0 (.s 15)⟩, ⟨(some 19), none, .ext 1 (.s 15)⟩, ⟨(some 6), none, .mov (.s 18)⟩, ⟨(some 7), none, .mov (.s 19)⟩])
 (.reg [⟨(some 20), none, .mov (.s 2)⟩, ⟨(some 21), none, .mov (.s 6)⟩, ⟨(some 22), none, .bin .add (.s 20) (.s 21)⟩, ⟨(some 23), none, .mov (.s 3)⟩, ⟨(some 24), none, .mov (.s 7)⟩, ⟨(some 25), none, .mx (.s 23) (.s 24)⟩, ⟨(some 2), none, .mov (.s 22)⟩, ⟨(some 3), none, .mov (.s 25)⟩]))))
 (.reg [⟨(some 26), none, .bin .add (.s 11) (.c (.t (.int .i64 1)))⟩, ⟨(some 11), none, .mov (.s 26)⟩])))))))
 (.seq (.reg [⟨(some 27), none, .mov (.s 2)⟩, ⟨(some 28), none, .bin .add (.s 27) (.c (.t (.int .i64 1)))⟩, ⟨(some 29), none, .mov (.s 3)⟩, ⟨(some 30), none, .bin .add (.s 29) (.c (.t (.int .i64 1)))⟩, ⟨(some 2), none, .mov (.s 28)⟩, ⟨(some 3), none, .mov (.s 30)⟩])
 .ret))),
 [.slot 2, .slot 3]⟩
theorem ok80 : compF Try.prog 80 [[2, 3, 9, 10, 11]] [] = some ir80 := by kernel_rfl

/-- tenet/simple.formed -/
def ir81 : FInfo := ⟨32,
 (.seq (.reg [⟨(some 1), none, .box (.agg [.str, .slc]) (.s 0)⟩, ⟨(some 2), none, .mov (.c (.t (.bool false)))⟩])
 (.seq (.seq (.reg [⟨(some 3), none, .fa 0 (.s 1)⟩, ⟨(some 4), none, .ld .str (.s 3)⟩])
 (.block 0 (.seq (.reg [⟨(some 6), none, .bin .eql (.s 4) (.c (.t (.str [78, 97, 116])))⟩, ⟨(some 5), none, .mov (.s 6)⟩])
 (.cond (.s 5)
 (.seq (.reg [⟨(some 7), none, .fa 1 (.s 1)⟩, ⟨(some 8), none, .ld .slc (.s 7)⟩, ⟨(some 9), none, .len (.s 8)⟩, ⟨(some 10), none, .bin .eql (.s 9) (.c (.t (.int .i64 0)))⟩, ⟨(some 2), none, .mov (.s 10)⟩])
 .ret)
 (.seq (.seq (.reg [⟨(some 12), none, .bin .eql (.s 4) (.c (.t (.str [84, 111])))⟩, ⟨(some 11), none, .mov (.s 12)⟩])
 (.cond (.s 11)
 .skip
 (.reg [⟨(some 13), none, .bin .eql (.s 4) (.c (.t (.str [80, 97, 105, 114])))⟩, ⟨(some 11), none, .mov (.s 13)⟩])))
 (.cond (.s 11)
 (.seq (.reg [⟨(some 14), none, .fa 1 (.s 1)⟩, ⟨(some 15), none, .ld .slc (.s 14)⟩, ⟨(some 16), none, .len (.s 15)⟩, ⟨(some 17), none, .bin .eql (.s 16) (.c (.t (.int .i64 2)))⟩, ⟨(some 18), none, .mov (.s 17)⟩, ⟨(some 19), (some (18, true)), .fa 1 (.s 1)⟩, ⟨(some 20), (some (18, true)), .ld .slc (.s 19)⟩, ⟨(some 21), (some (18, true)), .ia (.agg [.str, .slc]) (.s 20) (.c (.t (.int .i64 0)))⟩, ⟨(some 22), (some (18, true)), .ld (.agg [.str, .slc]) (.s 21)⟩, ⟨(some 23), (some (18, true)), .call false 81 .bool [(.s 22)]⟩, ⟨(some 24), none, .pick (.s 18) (.s 23) (.c (.t (.bool false)))⟩, ⟨(some 25), none, .mov (.s 24)⟩, ⟨(some 26), (some (25, true)), .fa 1 (.s 1)⟩, ⟨(some 27), (some (25, true)), .ld .slc (.s 26)⟩, ⟨(some 28), (some (25, true)), .ia (.agg [.str, .slc]) (.s 27) (.c (.t (.int .i64 1)))⟩, ⟨(some 29), (some (25, true)), .ld (.agg [.str, .slc]) (.s 28)⟩, ⟨(some 30), (some (25, true)), .call false 81 .bool [(.s 29)]⟩, ⟨(some 31), none, .pick (.s 25) (.s 30) (.c (.t (.bool false)))⟩, ⟨(some 2), none, .mov (.s 31)⟩])
 .ret)
 .skip))))))
 (.seq (.reg [⟨(some 2), none, .mov (.c (.t (.bool false)))⟩])
 .ret))),
 [.slot 2]⟩
theorem ok81 : compF Try.prog 81 [] [] = some ir81 := by kernel_rfl

/-- tenet/simple.to -/
def ir82 : FInfo := ⟨9,
 (.seq (.reg [⟨(some 2), none, .box (.agg [.str, .slc]) (.s 0)⟩, ⟨(some 3), none, .box (.agg [.str, .slc]) (.s 1)⟩, ⟨(some 4), none, .new (.agg [.str, .slc]) (.agg [(.t (.str [])), .nilS])⟩])
 (.seq (.reg [⟨(some 5), none, .ld (.agg [.str, .slc]) (.s 2)⟩, ⟨(some 6), none, .ld (.agg [.str, .slc]) (.s 3)⟩, ⟨(some 7), none, .bsl (.agg [.str, .slc]) (.agg [(.t (.str [])), .nilS]) 2 [(0, (.s 5)), (1, (.s 6))]⟩, ⟨(some 8), none, .build [(.t (.str [])), .nilS] [(0, .str, (.c (.t (.str [84, 111])))), (1, .slc, (.s 7))]⟩, ⟨none, none, .st (.agg [.str, .slc]) (.s 4) (.s 8)⟩])
 .ret)),
 [.cell 4 (.agg [.str, .slc])]⟩
theorem ok82 : compF Try.prog 82 [] [] = some ir82 := by kernel_rfl

/-- tenet/simple.nat -/
def ir83 : FInfo := ⟨2,
 (.seq (.reg [⟨(some 0), none, .new (.agg [.str, .slc]) (.agg [(.t (.str [])), .nilS])⟩])
 (.seq (.reg [⟨(some 1), none, .build [(.t (.str [])), .nilS] [(0, .str, (.c (.t (.str [78, 97, 116]))))]⟩, ⟨none, none, .st (.agg [.str, .slc]) (.s 0) (.s 1)⟩])
 .ret)),
 [.cell 0 (.agg [.str, .slc])]⟩
theorem ok83 : compF Try.prog 83 [] [] = some ir83 := by kernel_rfl

/-- tenet/tenetref25.TySize -/
def ir84 : FInfo := ⟨34,
 (.seq (.reg [⟨(some 1), none, .box (.agg [.str, .slc]) (.s 0)⟩, ⟨(some 2), none, .mov (.c (.t (.int .i64 0)))⟩, ⟨(some 3), none, .mov (.c (.t (.int .i64 0)))⟩])
 (.seq (.reg [⟨(some 4), none, .mov (.c (.t (.int .i64 1)))⟩, ⟨(some 5), none, .mov (.c (.t (.int .i64 0)))⟩])
 (.seq (.seq (.reg [⟨(some 6), none, .mov (.c (.t (.int .i64 0)))⟩])
 (.block 0 (.loop [1, 4, 5, 6] (.seq (.seq (.reg [⟨(some 9), none, .mov (.s 6)⟩, ⟨(some 10), none, .fa 1 (.s 1)⟩, ⟨(some 11), none, .ld .slc (.s 10)⟩, ⟨(some 12), none, .len (.s 11)⟩, ⟨(some 13), none, .bin .lss (.s 9) (.s 12)⟩])
 (.cond (.s 13)
 .skip
 (.exit 0)))
 (.seq (.block 1 (.seq (.reg [⟨(some 17), none, .fa 1 (.s 1)⟩, ⟨(some 18), none, .ld .slc (.s 17)⟩, ⟨(some 19), none, .mov (.s 6)⟩, ⟨(some 20), none, .ia (.agg [.str, .slc]) (.s 18) (.s 19)⟩, ⟨(some 21), none, .ld (.agg [.str, .slc]) (.s 20)⟩, ⟨(some 22), none, .call false 84 (.tup [(.int .i64), (.int .i64)]) [(.s 21)]⟩, ⟨(some 16), none, .mov (.s 22)⟩, ⟨(some 23), none, .ext 0 (.s 16)⟩, ⟨(some 24), none, .ext 1 (.s 16)⟩, ⟨(some 7), none, .mov (.s 23)⟩, ⟨(some 8), none, .mov (.s 24)⟩])
 (.reg [⟨(some 25), none, .mov (.s 4)⟩, ⟨(some 26), none, .mov (.s 7)⟩, ⟨(some 27), none, .bin .add (.s 25) (.s 26)⟩, ⟨(some 28), none, .mov (.s 5)⟩, ⟨(some 29), none, .mov (.s 8)⟩, ⟨(some 30), none, .mx (.s 28) (.s 29)⟩, ⟨(some 4), none, .mov (.s 27)⟩, ⟨(some 5), none, .mov (.s 30)⟩])))
 (.reg [⟨(some 14), none, .mov (.s 6)⟩, ⟨(some 15), none, .bin .add (.s 14) (.c (.t (.int .i64 1)))⟩, ⟨(some 6), none, .mov (.s 15)⟩]))))))
 (.seq (.reg [⟨(some 31), none, .mov (.s 4)⟩, ⟨(some 32), none, .mov (.s 5)⟩, ⟨(some 33), none, .bin .add (.s 32) (.c (.t (.int .i64 1)))⟩, ⟨(some 2), none, .mov (.s 31)⟩, ⟨(some 3), none, .mov (.s 33)⟩])
 .ret)))),
 [.slot 2, .slot 3]⟩
theorem ok84 : compF Try.prog 84 [[1, 4, 5, 6]] [] = some ir84 := by kernel_rfl

/-- tenet/tenetref25.tyForm -/
def ir85 : FInfo := ⟨32,
 (.seq (.reg [⟨(some 1), none, .box (.agg [.str, .slc]) (.s 0)⟩, ⟨(some 2), none, .mov (.c (.t (.bool false)))⟩])
 (.seq (.seq (.reg [⟨(some 3), none, .fa 0 (.s 1)⟩, ⟨(some 4), none, .ld .str (.s 3)⟩])
 (.block 0 (.seq (.reg [⟨(some 6), none, .bin .eql (.s 4) (.c (.t (.str [78, 97, 116])))⟩, ⟨(some 5), none, .mov (.s 6)⟩])
 (.cond (.s 5)
 (.seq (.reg [⟨(some 7), none, .fa 1 (.s 1)⟩, ⟨(some 8), none, .ld .slc (.s 7)⟩, ⟨(some 9), none, .len (.s 8)⟩, ⟨(some 10), none, .bin .eql (.s 9) (.c (.t (.int .i64 0)))⟩, ⟨(some 2), none, .mov (.s 10)⟩])
 .ret)
 (.seq (.seq (.reg [⟨(some 12), none, .bin .eql (.s 4) (.c (.t (.str [84, 111])))⟩, ⟨(some 11), none, .mov (.s 12)⟩])
 (.cond (.s 11)
 .skip
 (.reg [⟨(some 13), none, .bin .eql (.s 4) (.c (.t (.str [80, 97, 105, 114])))⟩, ⟨(some 11), none, .mov (.s 13)⟩])))
 (.cond (.s 11)
 (.seq (.reg [⟨(some 14), none, .fa 1 (.s 1)⟩, ⟨(some 15), none, .ld .slc (.s 14)⟩, ⟨(some 16), none, .len (.s 15)⟩, ⟨(some 17), none, .bin .eql (.s 16) (.c (.t (.int .i64 2)))⟩, ⟨(some 18), none, .mov (.s 17)⟩, ⟨(some 19), (some (18, true)), .fa 1 (.s 1)⟩, ⟨(some 20), (some (18, true)), .ld .slc (.s 19)⟩, ⟨(some 21), (some (18, true)), .ia (.agg [.str, .slc]) (.s 20) (.c (.t (.int .i64 0)))⟩, ⟨(some 22), (some (18, true)), .ld (.agg [.str, .slc]) (.s 21)⟩, ⟨(some 23), (some (18, true)), .call false 85 .bool [(.s 22)]⟩, ⟨(some 24), none, .pick (.s 18) (.s 23) (.c (.t (.bool false)))⟩, ⟨(some 25), none, .mov (.s 24)⟩, ⟨(some 26), (some (25, true)), .fa 1 (.s 1)⟩, ⟨(some 27), (some (25, true)), .ld .slc (.s 26)⟩, ⟨(some 28), (some (25, true)), .ia (.agg [.str, .slc]) (.s 27) (.c (.t (.int .i64 1)))⟩, ⟨(some 29), (some (25, true)), .ld (.agg [.str, .slc]) (.s 28)⟩, ⟨(some 30), (some (25, true)), .call false 85 .bool [(.s 29)]⟩, ⟨(some 31), none, .pick (.s 25) (.s 30) (.c (.t (.bool false)))⟩, ⟨(some 2), none, .mov (.s 31)⟩])
 .ret)
 .skip))))))
 (.seq (.reg [⟨(some 2), none, .mov (.c (.t (.bool false)))⟩])
 .ret))),
 [.slot 2]⟩
theorem ok85 : compF Try.prog 85 [] [] = some ir85 := by kernel_rfl

/-- slices.IndexFunc[[]tenet/api.Lam,tenet/api.Lam] -/
def ir86 : FInfo := ⟨19,
 (.seq (.reg [⟨(some 4), none, .mov (.c (.t (.int .i64 0)))⟩])
 (.seq (.seq (.reg [⟨(some 6), none, .mov (.s 0)⟩, ⟨(some 7), none, .len (.s 6)⟩, ⟨(some 8), none, .mov (.c (.t (.int .i64 0)))⟩])
 (.block 0 (.loop [0, 1, 7, 8] (.seq (.reg [⟨(some 9), none, .bin .lss (.s 8) (.s 7)⟩])
 (.seq (.cond (.s 9)
 .skip
 (.exit 0))
 (.seq (.block 1 (.seq (.reg [⟨(some 10), none, .mov (.s 8)⟩, ⟨(some 5), none, .mov (.s 10)⟩])
 (.seq (.reg [⟨(some 11), none, .mov (.s 1)⟩, ⟨(some 12), none, .mov (.s 0)⟩, ⟨(some 13), none, .mov (.s 5)⟩, ⟨(some 14), none, .ia (.agg [(.int .i64), (.int .i64), .str, .slc, .slc]) (.s 12) (.s 13)⟩, ⟨(some 15), none, .ld (.agg [(.int .i64), (.int .i64), .str, .slc, .slc]) (.s 14)⟩, ⟨(some 16), none, .callv (.s 11) .bool [(.s 15)]⟩])
 (.cond (.s 16)
 (.seq (.reg [⟨(some 17), none, .mov (.s 5)⟩, ⟨(some 4), none, .mov (.s 17)⟩])
 .ret)
 .skip))))
 (.reg [⟨(some 18), none, .bin .add (.s 8) (.c (.t (.int .i64 1)))⟩, ⟨(some 8), none, .mov (.s 18)⟩])))))))
 (.seq (.reg [⟨(some 4), none, .mov (.c (.t (.int .i64 (-1))))⟩])
 .ret))),
 [.slot 4]⟩
theorem ok86 : compF Try.prog 86 [[0, 1, 7, 8]] [] = some ir86 := by kernel_rfl



end Go.Proofs.Aw.Sa
