/-
  THE RECKONED CODE, part 3: printed by program.
-/
import Derived.Test.YtfkidinbolmkiaaRows
import Derived.Test.YtfkidinbolmkiaaAw4
set_option maxRecDepth 100000
namespace Go.Proofs.Aw.Qa
open Go.Proofs

/-- tenet/quot.whole -/
def ir70 : FInfo := ⟨6,
 (.seq (.reg [⟨(some 2), none, .mov (.c (.t (.bool false)))⟩])
 (.seq (.reg [⟨(some 3), none, .mov (.s 0)⟩, ⟨(some 4), none, .call false 80 .bool [(.s 3), (.f 97)]⟩, ⟨(some 5), none, .un .not (.s 4)⟩, ⟨(some 2), none, .mov (.s 5)⟩])
 .ret)),
 [.slot 2]⟩
theorem ok70 : compF Try.prog 70 [] [] = some ir70 := by kernel_rfl

/-- (tenet/quot.bag[int]).count -/
def ir71 : FInfo := ⟨21,
 (.seq (.reg [⟨(some 4), none, .mov (.c (.t (.int .i64 0)))⟩])
 (.seq (.reg [⟨(some 5), none, .mov (.c (.t (.int .i64 0)))⟩])
 (.seq (.seq (.reg [⟨(some 8), none, .mov (.s 0)⟩, ⟨(some 9), none, .len (.s 8)⟩, ⟨(some 10), none, .mov (.c (.t (.int .i64 0)))⟩])
 (.block 0 (.loop [1, 5, 8, 9, 10] (.seq (.reg [⟨(some 11), none, .bin .lss (.s 10) (.s 9)⟩])
 (.seq (.cond (.s 11)
 .skip
 (.exit 0))
 (.seq (.block 1 (.seq (.reg [⟨(some 12), none, .ia (.int .i64) (.s 8) (.s 10)⟩, ⟨(some 13), none, .ld (.int .i64) (.s 12)⟩, ⟨(some 7), none, .mov (.s 13)⟩])
 (.seq (.reg [⟨(some 14), none, .mov (.s 1)⟩, ⟨(some 15), none, .mov (.s 7)⟩, ⟨(some 16), none, .bin .eql (.s 14) (.s 15)⟩])
 (.cond (.s 16)
 (.reg [⟨(some 17), none, .mov (.s 5)⟩, ⟨(some 18), none, .bin .add (.s 17) (.c (.t (.int .i64 1)))⟩, ⟨(some 5), none, .mov (.s 18)⟩])
 .skip))))
 (.reg [⟨(some 19), none, .bin .add (.s 10) (.c (.t (.int .i64 1)))⟩, ⟨(some 10), none, .mov (.s 19)⟩])))))))
 (.seq (.reg [⟨(some 20), none, .mov (.s 5)⟩, ⟨(some 4), none, .mov (.s 20)⟩])
 .ret)))),
 [.slot 4]⟩
theorem ok71 : compF Try.prog 71 [[1, 5, 8, 9, 10]] [] = some ir71 := by kernel_rfl

/-- (tenet/quot.bag[int]).once -/
def ir72 : FInfo := ⟨5,
 (.seq (.reg [⟨(some 2), none, .mov (.c .nilS)⟩])
 (.seq (.reg [⟨(some 3), none, .mov (.s 0)⟩, ⟨(some 4), none, .call false 98 .slc [(.s 3)]⟩, ⟨(some 2), none, .mov (.s 4)⟩])
 .ret)),
 [.slot 2]⟩
theorem ok72 : compF Try.prog 72 [] [] = some ir72 := by kernel_rfl

/-- slices.DeleteFunc[tenet/quot.bag[int],int] -/
def ir73 : FInfo := ⟨42,
 (.seq (.reg [⟨(some 4), none, .mov (.c .nilS)⟩])
 (.seq (.reg [⟨(some 8), none, .mov (.s 0)⟩, ⟨(some 9), none, .mov (.s 1)⟩, ⟨(some 10), none, .call false 99 (.int .i64) [(.s 8), (.s 9)]⟩, ⟨(some 5), none, .mov (.s 10)⟩])
 (.seq (.seq (.reg [⟨(some 11), none, .mov (.s 5)⟩, ⟨(some 12), none, .bin .eql (.s 11) (.c (.t (.int .i64 (-1))))⟩])
 (.cond (.s 12)
 (.seq (.reg [⟨(some 13), none, .mov (.s 0)⟩, ⟨(some 4), none, .mov (.s 13)⟩])
 .ret)
 .skip))
 (.seq (.seq (.reg [⟨(some 14), none, .mov (.s 5)⟩, ⟨(some 15), none, .bin .add (.s 14) (.c (.t (.int .i64 1)))⟩, ⟨(some 6), none, .mov (.s 15)⟩])
 (.block 0 (.loop [0, 1, 5, 6] (.seq (.seq (.reg [⟨(some 16), none, .mov (.s 6)⟩, ⟨(some 17), none, .mov (.s 0)⟩, ⟨(some 18), none, .len (.s 17)⟩, ⟨(some 19), none, .bin .lss (.s 16) (.s 18)⟩])
 (.cond (.s 19)
 .skip
 (.exit 0)))
 (.seq (.block 1 (.seq (.reg [⟨(some 22), none, .mov (.s 0)⟩, ⟨(some 23), none, .mov (.s 6)⟩, ⟨(some 24), none, .ia (.int .i64) (.s 22) (.s 23)⟩, ⟨(some 25), none, .ld (.int .i64) (.s 24)⟩, ⟨(some 7), none, .mov (.s 25)⟩])
 (.seq (.reg [⟨(some 26), none, .mov (.s 1)⟩, ⟨(some 27), none, .mov (.s 7)⟩, ⟨(some 28), none, .callv (.s 26) .bool [(.s 27)]⟩, ⟨(some 29), none, .un .not (.s 28)⟩])
 (.cond (.s 29)
 (.seq (.reg [⟨(some 30), none, .mov (.s 0)⟩, ⟨(some 31), none, .mov (.s 5)⟩, ⟨(some 32), none, .mov (.s 7)⟩, ⟨(some 33), none, .ia (.int .i64) (.s 30) (.s 31)⟩, ⟨none, none, .st (.int .i64) (.s 33) (.s 32)⟩])
 (.reg [⟨(some 34), none, .mov (.s 5)⟩, ⟨(some 35), none, .bin .add (.s 34) (.c (.t (.int .i64 1)))⟩, ⟨(some 5), none, .mov (.s 35)⟩]))
 .skip))))
 (.reg [⟨(some 20), none, .mov (.s 6)⟩, ⟨(some 21), none, .bin .add (.s 20) (.c (.t (.int .i64 1)))⟩, ⟨(some 6), none, .mov (.s 21)⟩]))))))
 (.seq (.reg [⟨(some 36), none, .mov (.s 0)⟩, ⟨(some 37), none, .mov (.s 5)⟩, ⟨(some 38), none, .sub (.int .i64) (.s 36) (some (.s 37)) none none⟩, ⟨none, none, .clr (.int .i64) (.t (.int .i64 0)) (.s 38)⟩])
 (.seq (.reg [⟨(some 39), none, .mov (.s 0)⟩, ⟨(some 40), none, .mov (.s 5)⟩, ⟨(some 41), none, .sub (.int .i64) (.s 39) none (some (.s 40)) none⟩, ⟨(some 4), none, .mov (.s 41)⟩])
 .ret)))))),
 [.slot 4]⟩
theorem ok73 : compF Try.prog 73 [[0, 1, 5, 6]] [] = some ir73 := by kernel_rfl

/-- tenet/quot.SetMeet$1 -/
def ir74 : FInfo := ⟨8,
 (.seq (.reg [⟨(some 3), none, .mov (.c (.t (.bool false)))⟩])
 (.seq (.reg [⟨(some 4), none, .ld .slc (.s 1)⟩, ⟨(some 5), none, .mov (.s 0)⟩, ⟨(some 6), none, .call false 75 .bool [(.s 4), (.s 5)]⟩, ⟨(some 7), none, .un .not (.s 6)⟩, ⟨(some 3), none, .mov (.s 7)⟩])
 .ret)),
 [.slot 3]⟩
theorem ok74 : compF Try.prog 74 [] [] = some ir74 := by kernel_rfl

/-- slices.Contains[[]int,int] -/
def ir75 : FInfo := ⟨9,
 (.seq (.reg [⟨(some 4), none, .mov (.c (.t (.bool false)))⟩])
 (.seq (.reg [⟨(some 5), none, .mov (.s 0)⟩, ⟨(some 6), none, .mov (.s 1)⟩, ⟨(some 7), none, .call false 100 (.int .i64) [(.s 5), (.s 6)]⟩, ⟨(some 8), none, .bin .geq (.s 7) (.c (.t (.int .i64 0)))⟩, ⟨(some 4), none, .mov (.s 8)⟩])
 .ret)),
 [.slot 4]⟩
theorem ok75 : compF Try.prog 75 [] [] = some ir75 := by kernel_rfl

/-- tenet/tenetref23.made -/
def ir76 : FInfo := ⟨44,
 (.seq (.reg [⟨(some 4), none, .mov (.c .nilS)⟩, ⟨(some 5), none, .mov (.c (.t (.int .i64 0)))⟩])
 (.seq (.reg [⟨(some 6), none, .mov (.c .nilS)⟩])
 (.seq (.seq (.reg [⟨(some 7), none, .mov (.c (.t (.int .i64 0)))⟩])
 (.block 0 (.loop [0, 1, 6, 7] (.seq (.seq (.reg [⟨(some 9), none, .mov (.s 7)⟩, ⟨(some 10), none, .mov (.s 1)⟩, ⟨(some 11), none, .len (.s 10)⟩, ⟨(some 12), none, .bin .lss (.s 9) (.s 11)⟩])
 (.cond (.s 12)
 .skip
 (.exit 0)))
 (.seq (.block 1 (.seq (.seq (.reg [⟨(some 15), none, .mov (.s 1)⟩, ⟨(some 16), none, .mov (.s 7)⟩, ⟨(some 17), none, .ia .slc (.s 15) (.s 16)⟩, ⟨(some 18), none, .ld .slc (.s 17)⟩, ⟨(some 19), none, .call false 77 .bool [(.s 18)]⟩, ⟨(some 20), none, .un .not (.s 19)⟩])
 (.cond (.s 20)
 (.seq (.reg [⟨(some 4), none, .mov (.c .nilS)⟩, ⟨(some 5), none, .mov (.c (.t (.int .i64 4)))⟩])
 .ret)
 .skip))
 (.seq (.reg [⟨(some 8), none, .mov (.c (.t (.int .i64 0)))⟩])
 (.block 2 (.loop [0, 1, 6, 7, 8] (.seq (.seq (.reg [⟨(some 21), none, .mov (.s 8)⟩, ⟨(some 22), none, .mov (.s 1)⟩, ⟨(some 23), none, .mov (.s 7)⟩, ⟨(some 24), none, .ia .slc (.s 22) (.s 23)⟩, ⟨(some 25), none, .ld .slc (.s 24)⟩, ⟨(some 26), none, .len (.s 25)⟩, ⟨(some 27), none, .bin .lss (.s 21) (.s 26)⟩])
 (.cond (.s 27)
 .skip
 (.exit 2)))
 (.seq (.block 3 (.reg [⟨(some 30), none, .mov (.s 6)⟩, ⟨(some 31), none, .mov (.s 1)⟩, ⟨(some 32), none, .mov (.s 7)⟩, ⟨(some 33), none, .ia .slc (.s 31) (.s 32)⟩, ⟨(some 34), none, .ld .slc (.s 33)⟩, ⟨(some 35), none, .mov (.s 8)⟩, ⟨(some 36), none, .ia (.int .i64) (.s 34) (.s 35)⟩, ⟨(some 37), none, .ld (.int .i64) (.s 36)⟩, ⟨(some 38), none, .mov (.s 0)⟩, ⟨(some 39), none, .call false 79 .slc [(.s 30), (.s 37), (.s 38)]⟩, ⟨(some 6), none, .mov (.s 39)⟩]))
 (.reg [⟨(some 28), none, .mov (.s 8)⟩, ⟨(some 29), none, .bin .add (.s 28) (.c (.t (.int .i64 1)))⟩, ⟨(some 8), none, .mov (.s 29)⟩]))))))))
 (.reg [⟨(some 13), none, .mov (.s 7)⟩, ⟨(some 14), none, .bin .add (.s 13) (.c (.t (.int .i64 1)))⟩, ⟨(some 7), none, .mov (.s 14)⟩]))))))
 (.seq (.seq (.reg [⟨(some 40), none, .mov (.s 6)⟩, ⟨(some 41), none, .len (.s 40)⟩, ⟨(some 42), none, .bin .gtr (.s 41) (.c (.t (.int .i64 60)))⟩])
 (.cond (.s 42)
 (.seq (.reg [⟨(some 4), none, .mov (.c .nilS)⟩, ⟨(some 5), none, .mov (.c (.t (.int .i64 2)))⟩])
 .ret)
 .skip))
 (.seq (.reg [⟨(some 43), none, .mov (.s 6)⟩, ⟨(some 4), none, .mov (.s 43)⟩, ⟨(some 5), none, .mov (.c (.t (.int .i64 0)))⟩])
 .ret))))),
 [.slot 4, .slot 5]⟩
theorem ok76 : compF Try.prog 76 [[0, 1, 6, 7], [0, 1, 6, 7, 8]] [] = some ir76 := by kernel_rfl

/-- tenet/tenetref23.listOK -/
def ir77 : FInfo := ⟨25,
 (.seq (.reg [⟨(some 2), none, .mov (.c (.t (.bool false)))⟩])
 (.seq (.seq (.reg [⟨(some 4), none, .mov (.s 0)⟩, ⟨(some 5), none, .len (.s 4)⟩, ⟨(some 6), none, .bin .gtr (.s 5) (.c (.t (.int .i64 60)))⟩])
 (.cond (.s 6)
 (.seq (.reg [⟨(some 2), none, .mov (.c (.t (.bool false)))⟩])
 .ret)
 .skip))
 (.seq (.seq (.reg [⟨(some 3), none, .mov (.c (.t (.int .i64 0)))⟩])
 (.block 0 (.loop [0, 3] (.seq (.seq (.reg [⟨(some 7), none, .mov (.s 3)⟩, ⟨(some 8), none, .mov (.s 0)⟩, ⟨(some 9), none, .len (.s 8)⟩, ⟨(some 10), none, .bin .lss (.s 7) (.s 9)⟩])
 (.cond (.s 10)
 .skip
 (.exit 0)))
 (.seq (.block 1 (.seq (.reg [⟨(some 13), none, .mov (.s 0)⟩, ⟨(some 14), none, .mov (.s 3)⟩, ⟨(some 15), none, .ia (.int .i64) (.s 13) (.s 14)⟩, ⟨(some 16), none, .ld (.int .i64) (.s 15)⟩, ⟨(some 17), none, .bin .lss (.s 16) (.c (.t (.int .i64 (-1099511627776))))⟩, ⟨(some 18), none, .mov (.s 17)⟩, ⟨(some 19), (some (18, false)), .mov (.s 0)⟩, ⟨(some 20), (some (18, false)), .mov (.s 3)⟩, ⟨(some 21), (some (18, false)), .ia (.int .i64) (.s 19) (.s 20)⟩, ⟨(some 22), (some (18, false)), .ld (.int .i64) (.s 21)⟩, ⟨(some 23), (some (18, false)), .bin .gtr (.s 22) (.c (.t (.int .i64 1099511627776)))⟩, ⟨(some 24), none, .pick (.s 18) (.c (.t (.bool true))) (.s 23)⟩])
 (.cond (.s 24)
 (.seq (.reg [⟨(some 2), none, .mov (.c (.t (.bool false)))⟩])
 .ret)
 .skip)))
 (.reg [⟨(some 11), none, .mov (.s 3)⟩, ⟨(some 12), none, .bin .add (.s 11) (.c (.t (.int .i64 1)))⟩, ⟨(some 3), none, .mov (.s 12)⟩]))))))
 (.seq (.reg [⟨(some 2), none, .mov (.c (.t (.bool true)))⟩])
 .ret)))),
 [.slot 2]⟩
theorem ok77 : compF Try.prog 77 [[0, 3]] [] = some ir77 := by kernel_rfl

/-- tenet/tenetref00.HasInt -/
def ir78 : FInfo := ⟨19,
 (.seq (.reg [⟨(some 4), none, .mov (.c (.t (.int .i64 0)))⟩])
 (.seq (.seq (.reg [⟨(some 5), none, .mov (.c (.t (.int .i64 0)))⟩])
 (.block 0 (.loop [0, 1, 5] (.seq (.seq (.reg [⟨(some 6), none, .mov (.s 5)⟩, ⟨(some 7), none, .mov (.s 0)⟩, ⟨(some 8), none, .len (.s 7)⟩, ⟨(some 9), none, .bin .lss (.s 6) (.s 8)⟩])
 (.cond (.s 9)
 .skip
 (.exit 0)))
 (.seq (.block 1 (.seq (.reg [⟨(some 12), none, .mov (.s 0)⟩, ⟨(some 13), none, .mov (.s 5)⟩, ⟨(some 14), none, .ia (.int .i64) (.s 12) (.s 13)⟩, ⟨(some 15), none, .ld (.int .i64) (.s 14)⟩, ⟨(some 16), none, .mov (.s 1)⟩, ⟨(some 17), none, .bin .eql (.s 15) (.s 16)⟩])
 (.cond (.s 17)
 (.seq (.reg [⟨(some 18), none, .mov (.s 5)⟩, ⟨(some 4), none, .mov (.s 18)⟩])
 .ret)
 .skip)))
 (.reg [⟨(some 10), none, .mov (.s 5)⟩, ⟨(some 11), none, .bin .add (.s 10) (.c (.t (.int .i64 1)))⟩, ⟨(some 5), none, .mov (.s 11)⟩]))))))
 (.seq (.reg [⟨(some 4), none, .mov (.c (.t (.int .i64 (-1))))⟩])
 .ret))),
 [.slot 4]⟩
theorem ok78 : compF Try.prog 78 [[0, 1, 5]] [] = some ir78 := by kernel_rfl

/-- tenet/tenetref23.put -/
def ir79 : FInfo := ⟨54,
 (.seq (.reg [⟨(some 6), none, .mov (.c .nilS)⟩])
 (.seq (.reg [⟨(some 7), none, .mov (.c .nilS)⟩])
 (.seq (.reg [⟨(some 8), none, .mov (.c (.t (.bool false)))⟩])
 (.seq (.seq (.reg [⟨(some 9), none, .mov (.c (.t (.int .i64 0)))⟩])
 (.block 0 (.loop [0, 1, 2, 7, 8, 9] (.seq (.seq (.reg [⟨(some 10), none, .mov (.s 9)⟩, ⟨(some 11), none, .mov (.s 0)⟩, ⟨(some 12), none, .len (.s 11)⟩, ⟨(some 13), none, .bin .lss (.s 10) (.s 12)⟩])
 (.cond (.s 13)
 .skip
 (.exit 0)))
 (.seq (.block 1 (.seq (.seq (.reg [⟨(some 16), none, .mov (.s 8)⟩, ⟨(some 17), none, .un .not (.s 16)⟩, ⟨(some 18), none, .mov (.s 17)⟩, ⟨(some 19), (some (18, true)), .mov (.s 1)⟩, ⟨(some 20), (some (18, true)), .mov (.s 0)⟩, ⟨(some 21), (some (18, true)), .mov (.s 9)⟩, ⟨(some 22), (some (18, true)), .ia (.int .i64) (.s 20) (.s 21)⟩, ⟨(some 23), (some (18, true)), .ld (.int .i64) (.s 22)⟩, ⟨(some 24), (some (18, true)), .bin .leq (.s 19) (.s 23)⟩, ⟨(some 25), none, .pick (.s 18) (.s 24) (.c (.t (.bool false)))⟩])
 (.cond (.s 25)
 (.seq (.reg [⟨(some 8), none, .mov (.c (.t (.bool true)))⟩])
 (.seq (.reg [⟨(some 26), none, .mov (.s 2)⟩, ⟨(some 27), none, .mov (.s 26)⟩, ⟨(some 28), (some (27, true)), .mov (.s 1)⟩, ⟨(some 29), (some (27, true)), .mov (.s 0)⟩, ⟨(some 30), (some (27, true)), .mov (.s 9)⟩, ⟨(some 31), (some (27, true)), .ia (.int .i64) (.s 29) (.s 30)⟩, ⟨(some 32), (some (27, true)), .ld (.int .i64) (.s 31)⟩, ⟨(some 33), (some (27, true)), .bin .eql (.s 28) (.s 32)⟩, ⟨(some 34), none, .pick (.s 27) (.s 33) (.c (.t (.bool false)))⟩, ⟨(some 35), none, .un .not (.s 34)⟩])
 (.cond (.s 35)
 (.reg [⟨(some 36), none, .mov (.s 7)⟩, ⟨(some 37), none, .mov (.s 1)⟩, ⟨(some 38), none, .bsl (.int .i64) (.t (.int .i64 0)) 1 [(0, (.s 37))]⟩, ⟨(some 39), none, .app (.int .i64) 8 (.s 36) (.s 38)⟩, ⟨(some 7), none, .mov (.s 39)⟩])
 .skip)))
 .skip))
 (.reg [⟨(some 40), none, .mov (.s 7)⟩, ⟨(some 41), none, .mov (.s 0)⟩, ⟨(some 42), none, .mov (.s 9)⟩, ⟨(some 43), none, .ia (.int .i64) (.s 41) (.s 42)⟩, ⟨(some 44), none, .ld (.int .i64) (.s 43)⟩, ⟨(some 45), none, .bsl (.int .i64) (.t (.int .i64 0)) 1 [(0, (.s 44))]⟩, ⟨(some 46), none, .app (.int .i64) 8 (.s 40) (.s 45)⟩, ⟨(some 7), none, .mov (.s 46)⟩])))
 (.reg [⟨(some 14), none, .mov (.s 9)⟩, ⟨(some 15), none, .bin .add (.s 14) (.c (.t (.int .i64 1)))⟩, ⟨(some 9), none, .mov (.s 15)⟩]))))))
 (.seq (.seq (.reg [⟨(some 47), none, .mov (.s 8)⟩, ⟨(some 48), none, .un .not (.s 47)⟩])
 (.cond (.s 48)
 (.reg [⟨(some 49), none, .mov (.s 7)⟩, ⟨(some 50), none, .mov (.s 1)⟩, ⟨(some 51), none, .bsl (.int .i64) (.t (.int .i64 0)) 1 [(0, (.s 50))]⟩, ⟨(some 52), none, .app (.int .i64) 8 (.s 49) (.s 51)⟩, ⟨(some 7), none, .mov (.s 52)⟩])
 .skip))
 (.seq (.reg [⟨(some 53), none, .mov (.s 7)⟩, ⟨(some 6), none, .mov (.s 53)⟩])
 .ret)))))),
 [.slot 6]⟩
theorem ok79 : compF Try.prog 79 [[0, 1, 2, 7, 8, 9]] [] = some ir79 := by kernel_rfl

/-- slices.ContainsFunc[[]int,int] -/
def ir80 : FInfo := ⟨9,
 (.seq (.reg [⟨(some 4), none, .mov (.c (.t (.bool false)))⟩])
 (.seq (.reg [⟨(some 5), none, .mov (.s 0)⟩, ⟨(some 6), none, .mov (.s 1)⟩, ⟨(some 7), none, .call false 101 (.int .i64) [(.s 5), (.s 6)]⟩, ⟨(some 8), none, .bin .geq (.s 7) (.c (.t (.int .i64 0)))⟩, ⟨(some 4), none, .mov (.s 8)⟩])
 .ret)),
 [.slot 4]⟩
theorem ok80 : compF Try.prog 80 [] [] = some ir80 := by kernel_rfl

/-- tenet/quot.natural$1 -/
def ir81 : FInfo := ⟨9,
 (.seq (.reg [⟨(some 2), none, .mov (.c (.t (.bool false)))⟩])
 (.seq (.reg [⟨(some 3), none, .mov (.s 0)⟩, ⟨(some 4), none, .bin .lss (.s 3) (.c (.t (.int .i64 0)))⟩, ⟨(some 5), none, .mov (.s 4)⟩, ⟨(some 6), (some (5, false)), .mov (.s 0)⟩, ⟨(some 7), (some (5, false)), .bin .gtr (.s 6) (.c (.t (.int .i64 1099511627776)))⟩, ⟨(some 8), none, .pick (.s 5) (.c (.t (.bool true))) (.s 7)⟩, ⟨(some 2), none, .mov (.s 8)⟩])
 .ret)),
 [.slot 2]⟩
theorem ok81 : compF Try.prog 81 [] [] = some ir81 := by kernel_rfl

/-- math/bits.Mul64 -/
def ir82 : FInfo := ⟨51,
 (.seq (.reg [⟨(some 4), none, .mov (.c (.t (.int .u64 0)))⟩, ⟨(some 5), none, .mov (.c (.t (.int .u64 0)))⟩])
 (.seq (.reg [⟨(some 14), none, .mov (.s 0)⟩, ⟨(some 15), none, .bin .and (.s 14) (.c (.t (.int .u64 4294967295)))⟩, ⟨(some 6), none, .mov (.s 15)⟩])
 (.seq (.reg [⟨(some 16), none, .mov (.s 0)⟩, ⟨(some 17), none, .bin .shr (.s 16) (.c (.t (.int .u64 32)))⟩, ⟨(some 7), none, .mov (.s 17)⟩])
 (.seq (.reg [⟨(some 18), none, .mov (.s 1)⟩, ⟨(some 19), none, .bin .and (.s 18) (.c (.t (.int .u64 4294967295)))⟩, ⟨(some 8), none, .mov (.s 19)⟩])
 (.seq (.reg [⟨(some 20), none, .mov (.s 1)⟩, ⟨(some 21), none, .bin .shr (.s 20) (.c (.t (.int .u64 32)))⟩, ⟨(some 9), none, .mov (.s 21)⟩])
 (.seq (.reg [⟨(some 22), none, .mov (.s 6)⟩, ⟨(some 23), none, .mov (.s 8)⟩, ⟨(some 24), none, .bin .mul (.s 22) (.s 23)⟩, ⟨(some 10), none, .mov (.s 24)⟩])
 (.seq (.reg [⟨(some 25), none, .mov (.s 7)⟩, ⟨(some 26), none, .mov (.s 8)⟩, ⟨(some 27), none, .bin .mul (.s 25) (.s 26)⟩, ⟨(some 28), none, .mov (.s 10)⟩, ⟨(some 29), none, .bin .shr (.s 28) (.c (.t (.int .u64 32)))⟩, ⟨(some 30), none, .bin .add (.s 27) (.s 29)⟩, ⟨(some 11), none, .mov (.s 30)⟩])
 (.seq (.reg [⟨(some 31), none, .mov (.s 11)⟩, ⟨(some 32), none, .bin .and (.s 31) (.c (.t (.int .u64 4294967295)))⟩, ⟨(some 12), none, .mov (.s 32)⟩])
 (.seq (.reg [⟨(some 33), none, .mov (.s 11)⟩, ⟨(some 34), none, .bin .shr (.s 33) (.c (.t (.int .u64 32)))⟩, ⟨(some 13), none, .mov (.s 34)⟩])
 (.seq (.reg [⟨(some 35), none, .mov (.s 12)⟩, ⟨(some 36), none, .mov (.s 6)⟩, ⟨(some 37), none, .mov (.s 9)⟩, ⟨(some 38), none, .bin .mul (.s 36) (.s 37)⟩, ⟨(some 39), none, .bin .add (.s 35) (.s 38)⟩, ⟨(some 12), none, .mov (.s 39)⟩])
 (.seq (.reg [⟨(some 40), none, .mov (.s 7)⟩, ⟨(some 41), none, .mov (.s 9)⟩, ⟨(some 42), none, .bin .mul (.s 40) (.s 41)⟩, ⟨(some 43), none, .mov (.s 13)⟩, ⟨(some 44), none, .bin .add (.s 42) (.s 43)⟩, ⟨(some 45), none, .mov (.s 12)⟩, ⟨(some 46), none, .bin .shr (.s 45) (.c (.t (.int .u64 32)))⟩, ⟨(some 47), none, .bin .add (.s 44) (.s 46)⟩, ⟨(some 4), none, .mov (.s 47)⟩])
 (.seq (.reg [⟨(some 48), none, .mov (.s 0)⟩, ⟨(some 49), none, .mov (.s 1)⟩, ⟨(some 50), none, .bin .mul (.s 48) (.s 49)⟩, ⟨(some 5), none, .mov (.s 50)⟩])
 .ret)))))))))))),
 [.slot 4, .slot 5]⟩
theorem ok82 : compF Try.prog 82 [] [] = some ir82 := by kernel_rfl

/-- tenet/quot.abs -/
def ir83 : FInfo := ⟨10,
 (.seq (.reg [⟨(some 2), none, .mov (.c (.t (.int .u64 0)))⟩])
 (.seq (.seq (.reg [⟨(some 3), none, .mov (.s 0)⟩, ⟨(some 4), none, .bin .lss (.s 3) (.c (.t (.int .i64 0)))⟩])
 (.cond (.s 4)
 (.seq (.reg [⟨(some 5), none, .mov (.s 0)⟩, ⟨(some 6), none, .un .neg (.s 5)⟩, ⟨(some 7), none, .conv .u64 (.s 6)⟩, ⟨(some 2), none, .mov (.s 7)⟩])
 .ret)
 .skip))
 (.seq (.reg [⟨(some 8), none, .mov (.s 0)⟩, ⟨(some 9), none, .conv .u64 (.s 8)⟩, ⟨(some 2), none, .mov (.s 9)⟩])
 .ret))),
 [.slot 2]⟩
theorem ok83 : compF Try.prog 83 [] [] = some ir83 := by kernel_rfl

/-- tenet/tenetref23.abs -/
def ir84 : FInfo := ⟨10,
 (.seq (.reg [⟨(some 2), none, .mov (.c (.t (.int .u64 0)))⟩])
 (.seq (.seq (.reg [⟨(some 3), none, .mov (.s 0)⟩, ⟨(some 4), none, .bin .lss (.s 3) (.c (.t (.int .i64 0)))⟩])
 (.cond (.s 4)
 (.seq (.reg [⟨(some 5), none, .mov (.s 0)⟩, ⟨(some 6), none, .un .neg (.s 5)⟩, ⟨(some 7), none, .conv .u64 (.s 6)⟩, ⟨(some 2), none, .mov (.s 7)⟩])
 .ret)
 .skip))
 (.seq (.reg [⟨(some 8), none, .mov (.s 0)⟩, ⟨(some 9), none, .conv .u64 (.s 8)⟩, ⟨(some 2), none, .mov (.s 9)⟩])
 .ret))),
 [.slot 2]⟩
theorem ok84 : compF Try.prog 84 [] [] = some ir84 := by kernel_rfl

/-- tenet/quot.signed -/
def ir85 : FInfo := ⟨17,
 (.seq (.reg [⟨(some 1), none, .box (.agg [(.int .i64), (.int .i64)]) (.s 0)⟩, ⟨(some 2), none, .mov (.c (.t (.int .i64 0)))⟩, ⟨(some 3), none, .mov (.c (.t (.int .i64 0)))⟩])
 (.seq (.seq (.reg [⟨(some 4), none, .fa 1 (.s 1)⟩, ⟨(some 5), none, .ld (.int .i64) (.s 4)⟩, ⟨(some 6), none, .bin .lss (.s 5) (.c (.t (.int .i64 0)))⟩])
 (.cond (.s 6)
 (.seq (.dreg [⟨(some 7), none, .fa 0 (.s 1)⟩, ⟨(some 8), none, .ld (.int .i64) (.s 7)⟩, ⟨(some 9), none, .un .neg (.s 8)⟩, ⟨(some 10), none, .fa 1 (.s 1)⟩, ⟨(some 11), none, .ld (.int .i64) (.s 10)⟩, ⟨(some 12), none, .un .neg (.s 11)⟩, ⟨(some 2), none, .mov (.s 9)⟩, ⟨(some 3), none, .mov (.s 12)⟩] [0, 1, 3, 0, 8, 24, 7, 127])
 .ret)
 .skip))
 (.seq (.dreg [⟨(some 13), none, .fa 0 (.s 1)⟩, ⟨(some 14), none, .ld (.int .i64) (.s 13)⟩, ⟨(some 15), none, .fa 1 (.s 1)⟩, ⟨(some 16), none, .ld (.int .i64) (.s 15)⟩, ⟨(some 2), none, .mov (.s 14)⟩, ⟨(some 3), none, .mov (.s 16)⟩] [0, 1, 0, 4, 3, 31])
 .ret))),
 [.slot 2, .slot 3]⟩
theorem ok85 : compF Try.prog 85 [] [] = some ir85 := by kernel_rfl

/-- tenet/quot.gcd -/
def ir86 : FInfo := ⟨12,
 (.seq (.reg [⟨(some 4), none, .mov (.c (.t (.int .u64 0)))⟩])
 (.seq (.block 0 (.loop [0, 1] (.seq (.seq (.reg [⟨(some 5), none, .mov (.s 1)⟩, ⟨(some 6), none, .bin .neq (.s 5) (.c (.t (.int .u64 0)))⟩])
 (.cond (.s 6)
 .skip
 (.exit 0)))
 (.block 1 (.dreg [⟨(some 7), none, .mov (.s 1)⟩, ⟨(some 8), none, .mov (.s 0)⟩, ⟨(some 9), none, .mov (.s 1)⟩, ⟨(some 10), none, .bin .rem (.s 8) (.s 9)⟩, ⟨(some 0), none, .mov (.s 7)⟩, ⟨(some 1), none, .mov (.s 10)⟩] [0, 0, 0, 6, 3, 31])))))
 (.seq (.reg [⟨(some 11), none, .mov (.s 0)⟩, ⟨(some 4), none, .mov (.s 11)⟩])
 .ret))),
 [.slot 4]⟩
theorem ok86 : compF Try.prog 86 [[0, 1]] [] = some ir86 := by kernel_rfl

/-- (tenet/quot.wide).rest -/
def ir87 : FInfo := ⟨14,
 (.seq (.reg [⟨(some 2), none, .box (.agg [.bool, (.int .u64), (.int .u64)]) (.s 0)⟩, ⟨(some 3), none, .box (.agg [.bool, (.int .u64), (.int .u64)]) (.s 1)⟩, ⟨(some 4), none, .new (.agg [.bool, (.int .u64), (.int .u64)]) (.t (.agg [(.bool false), (.int .u64 0), (.int .u64 0)]))⟩])
 (.seq (.reg [⟨(some 8), none, .ld (.agg [.bool, (.int .u64), (.int .u64)]) (.s 2)⟩, ⟨(some 9), none, .ld (.agg [.bool, (.int .u64), (.int .u64)]) (.s 3)⟩, ⟨(some 10), none, .call false 102 (.tup [(.agg [.bool, (.int .u64), (.int .u64)]), (.agg [.bool, (.int .u64), (.int .u64)])]) [(.s 8), (.s 9)]⟩, ⟨(some 7), none, .mov (.s 10)⟩, ⟨(some 11), none, .ext 0 (.s 7)⟩, ⟨(some 12), none, .ext 1 (.s 7)⟩, ⟨(some 5), none, .new (.agg [.bool, (.int .u64), (.int .u64)]) (.t (.agg [(.bool false), (.int .u64 0), (.int .u64 0)]))⟩, ⟨(some 6), none, .new (.agg [.bool, (.int .u64), (.int .u64)]) (.t (.agg [(.bool false), (.int .u64 0), (.int .u64 0)]))⟩, ⟨none, none, .st (.agg [.bool, (.int .u64), (.int .u64)]) (.s 5) (.s 11)⟩, ⟨none, none, .st (.agg [.bool, (.int .u64), (.int .u64)]) (.s 6) (.s 12)⟩])
 (.seq (.reg [⟨(some 13), none, .ld (.agg [.bool, (.int .u64), (.int .u64)]) (.s 6)⟩, ⟨none, none, .st (.agg [.bool, (.int .u64), (.int .u64)]) (.s 4) (.s 13)⟩])
 .ret))),
 [.cell 4 (.agg [.bool, (.int .u64), (.int .u64)])]⟩
theorem ok87 : compF Try.prog 87 [] [] = some ir87 := by kernel_rfl

/-- (tenet/quot.wide).quotient -/
def ir88 : FInfo := ⟨25,
 (.seq (.reg [⟨(some 2), none, .box (.agg [.bool, (.int .u64), (.int .u64)]) (.s 0)⟩, ⟨(some 3), none, .box (.agg [.bool, (.int .u64), (.int .u64)]) (.s 1)⟩, ⟨(some 4), none, .new (.agg [.bool, (.int .u64), (.int .u64)]) (.t (.agg [(.bool false), (.int .u64 0), (.int .u64 0)]))⟩])
 (.seq (.reg [⟨(some 8), none, .ld (.agg [.bool, (.int .u64), (.int .u64)]) (.s 2)⟩, ⟨(some 9), none, .ld (.agg [.bool, (.int .u64), (.int .u64)]) (.s 3)⟩, ⟨(some 10), none, .call false 102 (.tup [(.agg [.bool, (.int .u64), (.int .u64)]), (.agg [.bool, (.int .u64), (.int .u64)])]) [(.s 8), (.s 9)]⟩, ⟨(some 7), none, .mov (.s 10)⟩, ⟨(some 11), none, .ext 0 (.s 7)⟩, ⟨(some 12), none, .ext 1 (.s 7)⟩, ⟨(some 5), none, .new (.agg [.bool, (.int .u64), (.int .u64)]) (.t (.agg [(.bool false), (.int .u64 0), (.int .u64 0)]))⟩, ⟨(some 6), none, .new (.agg [.bool, (.int .u64), (.int .u64)]) (.t (.agg [(.bool false), (.int .u64 0), (.int .u64 0)]))⟩, ⟨none, none, .st (.agg [.bool, (.int .u64), (.int .u64)]) (.s 5) (.s 11)⟩, ⟨none, none, .st (.agg [.bool, (.int .u64), (.int .u64)]) (.s 6) (.s 12)⟩])
 (.seq (.reg [⟨(some 13), none, .fa 0 (.s 2)⟩, ⟨(some 14), none, .ld .bool (.s 13)⟩, ⟨(some 15), none, .mov (.s 14)⟩, ⟨(some 16), (some (15, true)), .fa 1 (.s 5)⟩, ⟨(some 17), (some (15, true)), .ld (.int .u64) (.s 16)⟩, ⟨(some 18), (some (15, true)), .fa 2 (.s 5)⟩, ⟨(some 19), (some (15, true)), .ld (.int .u64) (.s 18)⟩, ⟨(some 20), (some (15, true)), .bin .or (.s 17) (.s 19)⟩, ⟨(some 21), (some (15, true)), .bin .neq (.s 20) (.c (.t (.int .u64 0)))⟩, ⟨(some 22), none, .pick (.s 15) (.s 21) (.c (.t (.bool false)))⟩, ⟨(some 23), none, .fa 0 (.s 5)⟩, ⟨none, none, .st .bool (.s 23) (.s 22)⟩])
 (.seq (.reg [⟨(some 24), none, .ld (.agg [.bool, (.int .u64), (.int .u64)]) (.s 5)⟩, ⟨none, none, .st (.agg [.bool, (.int .u64), (.int .u64)]) (.s 4) (.s 24)⟩])
 .ret)))),
 [.cell 4 (.agg [.bool, (.int .u64), (.int .u64)])]⟩
theorem ok88 : compF Try.prog 88 [] [] = some ir88 := by kernel_rfl

/-- (tenet/quot.wide).compare -/
def ir90 : FInfo := ⟨17,
 (.seq (.reg [⟨(some 2), none, .box (.agg [.bool, (.int .u64), (.int .u64)]) (.s 0)⟩, ⟨(some 3), none, .box (.agg [.bool, (.int .u64), (.int .u64)]) (.s 1)⟩, ⟨(some 4), none, .mov (.c (.t (.int .i64 0)))⟩])
 (.seq (.dreg [⟨(some 5), none, .fa 1 (.s 2)⟩, ⟨(some 6), none, .ld (.int .u64) (.s 5)⟩, ⟨(some 7), none, .fa 1 (.s 3)⟩, ⟨(some 8), none, .ld (.int .u64) (.s 7)⟩, ⟨(some 9), none, .call false 104 (.int .i64) [(.s 6), (.s 8)]⟩, ⟨(some 10), none, .fa 2 (.s 2)⟩, ⟨(some 11), none, .ld (.int .u64) (.s 10)⟩, ⟨(some 12), none, .fa 2 (.s 3)⟩, ⟨(some 13), none, .ld (.int .u64) (.s 12)⟩, ⟨(some 14), none, .call false 104 (.int .i64) [(.s 11), (.s 13)]⟩, ⟨(some 15), none, .bsl (.int .i64) (.t (.int .i64 0)) 2 [(0, (.s 9)), (1, (.s 14))]⟩, ⟨(some 16), none, .call false 103 (.int .i64) [(.s 15)]⟩, ⟨(some 4), none, .mov (.s 16)⟩] [0, 1, 0, 4, 15, 0, 32, 0, 128, 511, 1023, 2047, 4095])
 .ret)),
 [.slot 4]⟩
theorem ok90 : compF Try.prog 90 [] [] = some ir90 := by kernel_rfl

/-- (tenet/tenetref23.wide).compare -/
def ir92 : FInfo := ⟨25,
 (.seq (.reg [⟨(some 2), none, .box (.agg [.bool, (.int .u64), (.int .u64)]) (.s 0)⟩, ⟨(some 3), none, .box (.agg [.bool, (.int .u64), (.int .u64)]) (.s 1)⟩, ⟨(some 4), none, .mov (.c (.t (.int .i64 0)))⟩])
 (.seq (.seq (.reg [⟨(some 5), none, .fa 1 (.s 2)⟩, ⟨(some 6), none, .ld (.int .u64) (.s 5)⟩, ⟨(some 7), none, .fa 1 (.s 3)⟩, ⟨(some 8), none, .ld (.int .u64) (.s 7)⟩, ⟨(some 9), none, .bin .neq (.s 6) (.s 8)⟩])
 (.cond (.s 9)
 (.seq (.seq (.reg [⟨(some 10), none, .fa 1 (.s 2)⟩, ⟨(some 11), none, .ld (.int .u64) (.s 10)⟩, ⟨(some 12), none, .fa 1 (.s 3)⟩, ⟨(some 13), none, .ld (.int .u64) (.s 12)⟩, ⟨(some 14), none, .bin .lss (.s 11) (.s 13)⟩])
 (.cond (.s 14)
 (.seq (.reg [⟨(some 4), none, .mov (.c (.t (.int .i64 (-1))))⟩])
 .ret)
 .skip))
 (.seq (.reg [⟨(some 4), none, .mov (.c (.t (.int .i64 1)))⟩])
 .ret))
 .skip))
 (.seq (.seq (.reg [⟨(some 15), none, .fa 2 (.s 2)⟩, ⟨(some 16), none, .ld (.int .u64) (.s 15)⟩, ⟨(some 17), none, .fa 2 (.s 3)⟩, ⟨(some 18), none, .ld (.int .u64) (.s 17)⟩, ⟨(some 19), none, .bin .neq (.s 16) (.s 18)⟩])
 (.cond (.s 19)
 (.seq (.seq (.reg [⟨(some 20), none, .fa 2 (.s 2)⟩, ⟨(some 21), none, .ld (.int .u64) (.s 20)⟩, ⟨(some 22), none, .fa 2 (.s 3)⟩, ⟨(some 23), none, .ld (.int .u64) (.s 22)⟩, ⟨(some 24), none, .bin .lss (.s 21) (.s 23)⟩])
 (.cond (.s 24)
 (.seq (.reg [⟨(some 4), none, .mov (.c (.t (.int .i64 (-1))))⟩])
 .ret)
 .skip))
 (.seq (.reg [⟨(some 4), none, .mov (.c (.t (.int .i64 1)))⟩])
 .ret))
 .skip))
 (.seq (.reg [⟨(some 4), none, .mov (.c (.t (.int .i64 0)))⟩])
 .ret)))),
 [.slot 4]⟩
theorem ok92 : compF Try.prog 92 [] [] = some ir92 := by kernel_rfl

/-- (tenet/tenetref23.wide).divide -/
def ir93 : FInfo := ⟨40,
 (.seq (.reg [⟨(some 2), none, .box (.agg [.bool, (.int .u64), (.int .u64)]) (.s 0)⟩, ⟨(some 4), none, .new (.agg [.bool, (.int .u64), (.int .u64)]) (.t (.agg [(.bool false), (.int .u64 0), (.int .u64 0)]))⟩, ⟨(some 5), none, .mov (.c (.t (.int .u64 0)))⟩])
 (.seq (.dreg [⟨(some 10), none, .fa 1 (.s 2)⟩, ⟨(some 11), none, .ld (.int .u64) (.s 10)⟩, ⟨(some 12), none, .mov (.s 1)⟩, ⟨(some 13), none, .bin .quo (.s 11) (.s 12)⟩, ⟨(some 14), none, .fa 1 (.s 2)⟩, ⟨(some 15), none, .ld (.int .u64) (.s 14)⟩, ⟨(some 16), none, .mov (.s 1)⟩, ⟨(some 17), none, .bin .rem (.s 15) (.s 16)⟩, ⟨(some 6), none, .mov (.s 13)⟩, ⟨(some 7), none, .mov (.s 17)⟩] [0, 1, 0, 7, 0, 16, 0, 112, 15, 511])
 (.seq (.reg [⟨(some 19), none, .mov (.s 7)⟩, ⟨(some 20), none, .fa 2 (.s 2)⟩, ⟨(some 21), none, .ld (.int .u64) (.s 20)⟩, ⟨(some 22), none, .mov (.s 1)⟩, ⟨(some 23), none, .call false 105 (.tup [(.int .u64), (.int .u64)]) [(.s 19), (.s 21), (.s 22)]⟩, ⟨(some 18), none, .mov (.s 23)⟩, ⟨(some 24), none, .ext 0 (.s 18)⟩, ⟨(some 25), none, .ext 1 (.s 18)⟩, ⟨(some 8), none, .mov (.s 24)⟩, ⟨(some 9), none, .mov (.s 25)⟩])
 (.seq (.reg [⟨(some 26), none, .fa 0 (.s 2)⟩, ⟨(some 27), none, .ld .bool (.s 26)⟩, ⟨(some 28), none, .mov (.s 27)⟩, ⟨(some 29), (some (28, true)), .mov (.s 6)⟩, ⟨(some 30), (some (28, true)), .bin .neq (.s 29) (.c (.t (.int .u64 0)))⟩, ⟨(some 31), (some (28, true)), .mov (.s 30)⟩, ⟨(some 32), (some (31, false)), .mov (.s 8)⟩, ⟨(some 33), (some (31, false)), .bin .neq (.s 32) (.c (.t (.int .u64 0)))⟩, ⟨(some 34), (some (28, true)), .pick (.s 31) (.c (.t (.bool true))) (.s 33)⟩, ⟨(some 35), none, .pick (.s 28) (.s 34) (.c (.t (.bool false)))⟩, ⟨(some 36), none, .mov (.s 6)⟩, ⟨(some 37), none, .mov (.s 8)⟩, ⟨(some 38), none, .build [(.t (.bool false)), (.t (.int .u64 0)), (.t (.int .u64 0))] [(0, .bool, (.s 35)), (1, (.int .u64), (.s 36)), (2, (.int .u64), (.s 37))]⟩, ⟨(some 39), none, .mov (.s 9)⟩, ⟨none, none, .st (.agg [.bool, (.int .u64), (.int .u64)]) (.s 4) (.s 38)⟩, ⟨(some 5), none, .mov (.s 39)⟩])
 .ret)))),
 [.cell 4 (.agg [.bool, (.int .u64), (.int .u64)]), .slot 5]⟩
theorem ok93 : compF Try.prog 93 [] [] = some ir93 := by kernel_rfl

/-- slices.Sort[tenet/quot.bag[int],int] -/
def ir95 : FInfo := ⟨11,
 (.seq (.reg [⟨(some 3), none, .mov (.s 0)⟩, ⟨(some 4), none, .len (.s 3)⟩, ⟨(some 2), none, .mov (.s 4)⟩])
 (.reg [⟨(some 5), none, .mov (.s 0)⟩, ⟨(some 6), none, .mov (.s 2)⟩, ⟨(some 7), none, .mov (.s 2)⟩, ⟨(some 8), none, .conv .u64 (.s 7)⟩, ⟨(some 9), none, .call false 107 (.int .i64) [(.s 8)]⟩, ⟨(some 10), none, .call false 106 (.tup []) [(.s 5), (.c (.t (.int .i64 0))), (.s 6), (.s 9)]⟩])),
 []⟩
theorem ok95 : compF Try.prog 95 [] [] = some ir95 := by kernel_rfl

/-- slices.Grow[[]int,int] -/
def ir96 : FInfo := ⟨27,
 (.seq (.reg [⟨(some 4), none, .mov (.c .nilS)⟩])
 (.seq (.seq (.reg [⟨(some 5), none, .mov (.s 1)⟩, ⟨(some 6), none, .bin .lss (.s 5) (.c (.t (.int .i64 0)))⟩])
 (.cond (.s 6)
 (.reg [⟨(some 7), none, .fail⟩, ⟨none, none, .fail⟩])
 .skip))
 (.seq (.seq (.reg [⟨(some 8), none, .mov (.s 1)⟩, ⟨(some 9), none, .mov (.s 0)⟩, ⟨(some 10), none, .cap (.s 9)⟩, ⟨(some 11), none, .mov (.s 0)⟩, ⟨(some 12), none, .len (.s 11)⟩, ⟨(some 13), none, .bin .sub (.s 10) (.s 12)⟩, ⟨(some 14), none, .bin .sub (.s 8) (.s 13)⟩, ⟨(some 1), none, .mov (.s 14)⟩])
 (.seq (.reg [⟨(some 15), none, .mov (.s 1)⟩, ⟨(some 16), none, .bin .gtr (.s 15) (.c (.t (.int .i64 0)))⟩])
 (.cond (.s 16)
 (.reg [⟨(some 17), none, .mov (.s 0)⟩, ⟨(some 18), none, .mov (.s 0)⟩, ⟨(some 19), none, .cap (.s 18)⟩, ⟨(some 20), none, .sub (.int .i64) (.s 17) none (some (.s 19)) none⟩, ⟨(some 21), none, .mov (.s 1)⟩, ⟨(some 22), none, .appz (.int .i64) 8 (.t (.int .i64 0)) (.s 20) (.s 21)⟩, ⟨(some 23), none, .mov (.s 0)⟩, ⟨(some 24), none, .len (.s 23)⟩, ⟨(some 25), none, .sub (.int .i64) (.s 22) none (some (.s 24)) none⟩, ⟨(some 0), none, .mov (.s 25)⟩])
 .skip)))
 (.seq (.reg [⟨(some 26), none, .mov (.s 0)⟩, ⟨(some 4), none, .mov (.s 26)⟩])
 .ret)))),
 [.slot 4]⟩
theorem ok96 : compF Try.prog 96 [] [] = some ir96 := by kernel_rfl

/-- tenet/quot.whole$1 -/
def ir97 : FInfo := ⟨9,
 (.seq (.reg [⟨(some 2), none, .mov (.c (.t (.bool false)))⟩])
 (.seq (.reg [⟨(some 3), none, .mov (.s 0)⟩, ⟨(some 4), none, .bin .lss (.s 3) (.c (.t (.int .i64 (-1099511627776))))⟩, ⟨(some 5), none, .mov (.s 4)⟩, ⟨(some 6), (some (5, false)), .mov (.s 0)⟩, ⟨(some 7), (some (5, false)), .bin .gtr (.s 6) (.c (.t (.int .i64 1099511627776)))⟩, ⟨(some 8), none, .pick (.s 5) (.c (.t (.bool true))) (.s 7)⟩, ⟨(some 2), none, .mov (.s 8)⟩])
 .ret)),
 [.slot 2]⟩
theorem ok97 : compF Try.prog 97 [] [] = some ir97 := by kernel_rfl

/-- slices.Compact[tenet/quot.bag[int],int] -/
def ir98 : FInfo := ⟨61,
 (.seq (.reg [⟨(some 2), none, .mov (.c .nilS)⟩])
 (.seq (.seq (.reg [⟨(some 6), none, .mov (.s 0)⟩, ⟨(some 7), none, .len (.s 6)⟩, ⟨(some 8), none, .bin .lss (.s 7) (.c (.t (.int .i64 2)))⟩])
 (.cond (.s 8)
 (.seq (.reg [⟨(some 9), none, .mov (.s 0)⟩, ⟨(some 2), none, .mov (.s 9)⟩])
 .ret)
 .skip))
 (.seq (.seq (.reg [⟨(some 3), none, .mov (.c (.t (.int .i64 1)))⟩])
 (.block 0 (.loop [0, 3] (.seq (.seq (.reg [⟨(some 10), none, .mov (.s 3)⟩, ⟨(some 11), none, .mov (.s 0)⟩, ⟨(some 12), none, .len (.s 11)⟩, ⟨(some 13), none, .bin .lss (.s 10) (.s 12)⟩])
 (.cond (.s 13)
 .skip
 (.exit 0)))
 (.seq (.block 1 (.seq (.dreg [⟨(some 16), none, .mov (.s 0)⟩, ⟨(some 17), none, .mov (.s 3)⟩, ⟨(some 18), none, .ia (.int .i64) (.s 16) (.s 17)⟩, ⟨(some 19), none, .ld (.int .i64) (.s 18)⟩, ⟨(some 20), none, .mov (.s 0)⟩, ⟨(some 21), none, .mov (.s 3)⟩, ⟨(some 22), none, .bin .sub (.s 21) (.c (.t (.int .i64 1)))⟩, ⟨(some 23), none, .ia (.int .i64) (.s 20) (.s 22)⟩, ⟨(some 24), none, .ld (.int .i64) (.s 23)⟩, ⟨(some 25), none, .bin .eql (.s 19) (.s 24)⟩] [0, 0, 3, 7, 0, 0, 32, 112, 240, 511])
 (.cond (.s 25)
 (.seq (.reg [⟨(some 26), none, .mov (.s 0)⟩, ⟨(some 27), none, .mov (.s 3)⟩, ⟨(some 28), none, .sub (.int .i64) (.s 26) (some (.s 27)) none none⟩, ⟨(some 4), none, .mov (.s 28)⟩])
 (.seq (.seq (.reg [⟨(some 5), none, .mov (.c (.t (.int .i64 1)))⟩])
 (.block 2 (.loop [0, 3, 4, 5] (.seq (.seq (.reg [⟨(some 29), none, .mov (.s 5)⟩, ⟨(some 30), none, .mov (.s 4)⟩, ⟨(some 31), none, .len (.s 30)⟩, ⟨(some 32), none, .bin .lss (.s 29) (.s 31)⟩])
 (.cond (.s 32)
 .skip
 (.exit 2)))
 (.seq (.block 3 (.seq (.dreg [⟨(some 35), none, .mov (.s 4)⟩, ⟨(some 36), none, .mov (.s 5)⟩, ⟨(some 37), none, .ia (.int .i64) (.s 35) (.s 36)⟩, ⟨(some 38), none, .ld (.int .i64) (.s 37)⟩, ⟨(some 39), none, .mov (.s 4)⟩, ⟨(some 40), none, .mov (.s 5)⟩, ⟨(some 41), none, .bin .sub (.s 40) (.c (.t (.int .i64 1)))⟩, ⟨(some 42), none, .ia (.int .i64) (.s 39) (.s 41)⟩, ⟨(some 43), none, .ld (.int .i64) (.s 42)⟩, ⟨(some 44), none, .bin .neq (.s 38) (.s 43)⟩] [0, 0, 3, 7, 0, 0, 32, 112, 240, 511])
 (.cond (.s 44)
 (.seq (.reg [⟨(some 45), none, .mov (.s 0)⟩, ⟨(some 46), none, .mov (.s 3)⟩, ⟨(some 47), none, .mov (.s 4)⟩, ⟨(some 48), none, .mov (.s 5)⟩, ⟨(some 49), none, .ia (.int .i64) (.s 47) (.s 48)⟩, ⟨(some 50), none, .ld (.int .i64) (.s 49)⟩, ⟨(some 51), none, .ia (.int .i64) (.s 45) (.s 46)⟩, ⟨none, none, .st (.int .i64) (.s 51) (.s 50)⟩])
 (.reg [⟨(some 52), none, .mov (.s 3)⟩, ⟨(some 53), none, .bin .add (.s 52) (.c (.t (.int .i64 1)))⟩, ⟨(some 3), none, .mov (.s 53)⟩]))
 .skip)))
 (.reg [⟨(some 33), none, .mov (.s 5)⟩, ⟨(some 34), none, .bin .add (.s 33) (.c (.t (.int .i64 1)))⟩, ⟨(some 5), none, .mov (.s 34)⟩]))))))
 (.seq (.reg [⟨(some 54), none, .mov (.s 0)⟩, ⟨(some 55), none, .mov (.s 3)⟩, ⟨(some 56), none, .sub (.int .i64) (.s 54) (some (.s 55)) none none⟩, ⟨none, none, .clr (.int .i64) (.t (.int .i64 0)) (.s 56)⟩])
 (.seq (.reg [⟨(some 57), none, .mov (.s 0)⟩, ⟨(some 58), none, .mov (.s 3)⟩, ⟨(some 59), none, .sub (.int .i64) (.s 57) none (some (.s 58)) none⟩, ⟨(some 2), none, .mov (.s 59)⟩])
 .ret))))
 .skip)))
 (.reg [⟨(some 14), none, .mov (.s 3)⟩, ⟨(some 15), none, .bin .add (.s 14) (.c (.t (.int .i64 1)))⟩, ⟨(some 3), none, .mov (.s 15)⟩]))))))
 (.seq (.reg [⟨(some 60), none, .mov (.s 0)⟩, ⟨(some 2), none, .mov (.s 60)⟩])
 .ret)))),
 [.slot 2]⟩
theorem ok98 : compF Try.prog 98 [[0, 3], [0, 3, 4, 5]] [] = some ir98 := by kernel_rfl

/-- slices.IndexFunc[tenet/quot.bag[int],int] -/
def ir99 : FInfo := ⟨19,
 (.seq (.reg [⟨(some 4), none, .mov (.c (.t (.int .i64 0)))⟩])
 (.seq (.seq (.reg [⟨(some 6), none, .mov (.s 0)⟩, ⟨(some 7), none, .len (.s 6)⟩, ⟨(some 8), none, .mov (.c (.t (.int .i64 0)))⟩])
 (.block 0 (.loop [0, 1, 7, 8] (.seq (.reg [⟨(some 9), none, .bin .lss (.s 8) (.s 7)⟩])
 (.seq (.cond (.s 9)
 .skip
 (.exit 0))
 (.seq (.block 1 (.seq (.reg [⟨(some 10), none, .mov (.s 8)⟩, ⟨(some 5), none, .mov (.s 10)⟩])
 (.seq (.reg [⟨(some 11), none, .mov (.s 1)⟩, ⟨(some 12), none, .mov (.s 0)⟩, ⟨(some 13), none, .mov (.s 5)⟩, ⟨(some 14), none, .ia (.int .i64) (.s 12) (.s 13)⟩, ⟨(some 15), none, .ld (.int .i64) (.s 14)⟩, ⟨(some 16), none, .callv (.s 11) .bool [(.s 15)]⟩])
 (.cond (.s 16)
 (.seq (.reg [⟨(some 17), none, .mov (.s 5)⟩, ⟨(some 4), none, .mov (.s 17)⟩])
 .ret)
 .skip))))
 (.reg [⟨(some 18), none, .bin .add (.s 8) (.c (.t (.int .i64 1)))⟩, ⟨(some 8), none, .mov (.s 18)⟩])))))))
 (.seq (.reg [⟨(some 4), none, .mov (.c (.t (.int .i64 (-1))))⟩])
 .ret))),
 [.slot 4]⟩
theorem ok99 : compF Try.prog 99 [[0, 1, 7, 8]] [] = some ir99 := by kernel_rfl

/-- slices.Index[[]int,int] -/
def ir100 : FInfo := ⟨19,
 (.seq (.reg [⟨(some 4), none, .mov (.c (.t (.int .i64 0)))⟩])
 (.seq (.seq (.reg [⟨(some 6), none, .mov (.s 0)⟩, ⟨(some 7), none, .len (.s 6)⟩, ⟨(some 8), none, .mov (.c (.t (.int .i64 0)))⟩])
 (.block 0 (.loop [0, 1, 7, 8] (.seq (.reg [⟨(some 9), none, .bin .lss (.s 8) (.s 7)⟩])
 (.seq (.cond (.s 9)
 .skip
 (.exit 0))
 (.seq (.block 1 (.seq (.reg [⟨(some 10), none, .mov (.s 8)⟩, ⟨(some 5), none, .mov (.s 10)⟩])
 (.seq (.reg [⟨(some 11), none, .mov (.s 1)⟩, ⟨(some 12), none, .mov (.s 0)⟩, ⟨(some 13), none, .mov (.s 5)⟩, ⟨(some 14), none, .ia (.int .i64) (.s 12) (.s 13)⟩, ⟨(some 15), none, .ld (.int .i64) (.s 14)⟩, ⟨(some 16), none, .bin .eql (.s 11) (.s 15)⟩])
 (.cond (.s 16)
 (.seq (.reg [⟨(some 17), none, .mov (.s 5)⟩, ⟨(some 4), none, .mov (.s 17)⟩])
 .ret)
 .skip))))
 (.reg [⟨(some 18), none, .bin .add (.s 8) (.c (.t (.int .i64 1)))⟩, ⟨(some 8), none, .mov (.s 18)⟩])))))))
 (.seq (.reg [⟨(some 4), none, .mov (.c (.t (.int .i64 (-1))))⟩])
 .ret))),
 [.slot 4]⟩
theorem ok100 : compF Try.prog 100 [[0, 1, 7, 8]] [] = some ir100 := by kernel_rfl

/-- slices.IndexFunc[[]int,int] -/
def ir101 : FInfo := ⟨19,
 (.seq (.reg [⟨(some 4), none, .mov (.c (.t (.int .i64 0)))⟩])
 (.seq (.seq (.reg [⟨(some 6), none, .mov (.s 0)⟩, ⟨(some 7), none, .len (.s 6)⟩, ⟨(some 8), none, .mov (.c (.t (.int .i64 0)))⟩])
 (.block 0 (.loop [0, 1, 7, 8] (.seq (.reg [⟨(some 9), none, .bin .lss (.s 8) (.s 7)⟩])
 (.seq (.cond (.s 9)
 .skip
 (.exit 0))
 (.seq (.block 1 (.seq (.reg [⟨(some 10), none, .mov (.s 8)⟩, ⟨(some 5), none, .mov (.s 10)⟩])
 (.seq (.reg [⟨(some 11), none, .mov (.s 1)⟩, ⟨(some 12), none, .mov (.s 0)⟩, ⟨(some 13), none, .mov (.s 5)⟩, ⟨(some 14), none, .ia (.int .i64) (.s 12) (.s 13)⟩, ⟨(some 15), none, .ld (.int .i64) (.s 14)⟩, ⟨(some 16), none, .callv (.s 11) .bool [(.s 15)]⟩])
 (.cond (.s 16)
 (.seq (.reg [⟨(some 17), none, .mov (.s 5)⟩, ⟨(some 4), none, .mov (.s 17)⟩])
 .ret)
 .skip))))
 (.reg [⟨(some 18), none, .bin .add (.s 8) (.c (.t (.int .i64 1)))⟩, ⟨(some 8), none, .mov (.s 18)⟩])))))))
 (.seq (.reg [⟨(some 4), none, .mov (.c (.t (.int .i64 (-1))))⟩])
 .ret))),
 [.slot 4]⟩
theorem ok101 : compF Try.prog 101 [[0, 1, 7, 8]] [] = some ir101 := by kernel_rfl

/-- (tenet/quot.wide).divide -/
def ir102 : FInfo := ⟨87,
 (.seq (.reg [⟨(some 2), none, .box (.agg [.bool, (.int .u64), (.int .u64)]) (.s 0)⟩, ⟨(some 3), none, .box (.agg [.bool, (.int .u64), (.int .u64)]) (.s 1)⟩, ⟨(some 4), none, .new (.agg [.bool, (.int .u64), (.int .u64)]) (.t (.agg [(.bool false), (.int .u64 0), (.int .u64 0)]))⟩, ⟨(some 5), none, .new (.agg [.bool, (.int .u64), (.int .u64)]) (.t (.agg [(.bool false), (.int .u64 0), (.int .u64 0)]))⟩])
 (.seq (.seq (.reg [⟨(some 10), none, .fa 1 (.s 3)⟩, ⟨(some 11), none, .ld (.int .u64) (.s 10)⟩, ⟨(some 12), none, .bin .eql (.s 11) (.c (.t (.int .u64 0)))⟩])
 (.cond (.s 12)
 (.seq (.reg [⟨(some 13), none, .ld (.agg [.bool, (.int .u64), (.int .u64)]) (.s 2)⟩, ⟨(some 14), none, .fa 2 (.s 3)⟩, ⟨(some 15), none, .ld (.int .u64) (.s 14)⟩, ⟨(some 16), none, .call false 108 (.agg [.bool, (.int .u64), (.int .u64)]) [(.s 13), (.s 15)]⟩, ⟨(some 6), none, .new (.agg [.bool, (.int .u64), (.int .u64)]) (.t (.agg [(.bool false), (.int .u64 0), (.int .u64 0)]))⟩, ⟨none, none, .st (.agg [.bool, (.int .u64), (.int .u64)]) (.s 6) (.s 16)⟩])
 (.seq (.dreg [⟨(some 17), none, .fa 1 (.s 6)⟩, ⟨(some 18), none, .ld (.int .u64) (.s 17)⟩, ⟨(some 19), none, .fa 2 (.s 6)⟩, ⟨(some 20), none, .ld (.int .u64) (.s 19)⟩, ⟨(some 21), none, .build [(.t (.bool false)), (.t (.int .u64 0)), (.t (.int .u64 0))] [(1, (.int .u64), (.s 18)), (2, (.int .u64), (.s 20))]⟩, ⟨(some 22), none, .ld (.agg [.bool, (.int .u64), (.int .u64)]) (.s 2)⟩, ⟨(some 23), none, .fa 2 (.s 3)⟩, ⟨(some 24), none, .ld (.int .u64) (.s 23)⟩, ⟨(some 25), none, .call false 109 (.int .u64) [(.s 22), (.s 24)]⟩, ⟨(some 26), none, .build [(.t (.bool false)), (.t (.int .u64 0)), (.t (.int .u64 0))] [(2, (.int .u64), (.s 25))]⟩, ⟨none, none, .st (.agg [.bool, (.int .u64), (.int .u64)]) (.s 4) (.s 21)⟩, ⟨none, none, .st (.agg [.bool, (.int .u64), (.int .u64)]) (.s 5) (.s 26)⟩] [0, 1, 0, 4, 15, 0, 0, 64, 224, 480, 511, 2047])
 .ret))
 .skip))
 (.seq (.reg [⟨(some 7), none, .new (.agg [.bool, (.int .u64), (.int .u64)]) (.t (.agg [(.bool false), (.int .u64 0), (.int .u64 0)]))⟩, ⟨(some 8), none, .new (.agg [.bool, (.int .u64), (.int .u64)]) (.t (.agg [(.bool false), (.int .u64 0), (.int .u64 0)]))⟩])
 (.seq (.seq (.reg [⟨(some 27), none, .mov (.c (.t (.int .i64 0)))⟩])
 (.block 0 (.loop [2, 3, 4, 5, 7, 8, 27] (.seq (.reg [⟨(some 28), none, .bin .lss (.s 27) (.c (.t (.int .i64 128)))⟩])
 (.seq (.cond (.s 28)
 .skip
 (.exit 0))
 (.seq (.block 1 (.seq (.reg [⟨(some 29), none, .fa 1 (.s 2)⟩, ⟨(some 30), none, .ld (.int .u64) (.s 29)⟩, ⟨(some 31), none, .bin .shr (.s 30) (.c (.t (.int .u64 63)))⟩, ⟨(some 9), none, .mov (.s 31)⟩])
 (.seq (.reg [⟨(some 32), none, .fa 1 (.s 2)⟩, ⟨(some 33), none, .ld (.int .u64) (.s 32)⟩, ⟨(some 34), none, .bin .shl (.s 33) (.c (.t (.int .u64 1)))⟩, ⟨(some 35), none, .fa 2 (.s 2)⟩, ⟨(some 36), none, .ld (.int .u64) (.s 35)⟩, ⟨(some 37), none, .bin .shr (.s 36) (.c (.t (.int .u64 63)))⟩, ⟨(some 38), none, .bin .or (.s 34) (.s 37)⟩, ⟨(some 39), none, .fa 2 (.s 2)⟩, ⟨(some 40), none, .ld (.int .u64) (.s 39)⟩, ⟨(some 41), none, .bin .shl (.s 40) (.c (.t (.int .u64 1)))⟩, ⟨(some 42), none, .fa 1 (.s 2)⟩, ⟨none, none, .st (.int .u64) (.s 42) (.s 38)⟩, ⟨(some 43), none, .fa 2 (.s 2)⟩, ⟨none, none, .st (.int .u64) (.s 43) (.s 41)⟩])
 (.seq (.reg [⟨(some 44), none, .fa 1 (.s 8)⟩, ⟨(some 45), none, .ld (.int .u64) (.s 44)⟩, ⟨(some 46), none, .bin .shl (.s 45) (.c (.t (.int .u64 1)))⟩, ⟨(some 47), none, .fa 2 (.s 8)⟩, ⟨(some 48), none, .ld (.int .u64) (.s 47)⟩, ⟨(some 49), none, .bin .shr (.s 48) (.c (.t (.int .u64 63)))⟩, ⟨(some 50), none, .bin .or (.s 46) (.s 49)⟩, ⟨(some 51), none, .fa 2 (.s 8)⟩, ⟨(some 52), none, .ld (.int .u64) (.s 51)⟩, ⟨(some 53), none, .bin .shl (.s 52) (.c (.t (.int .u64 1)))⟩, ⟨(some 54), none, .mov (.s 9)⟩, ⟨(some 55), none, .bin .or (.s 53) (.s 54)⟩, ⟨(some 56), none, .fa 1 (.s 8)⟩, ⟨none, none, .st (.int .u64) (.s 56) (.s 50)⟩, ⟨(some 57), none, .fa 2 (.s 8)⟩, ⟨none, none, .st (.int .u64) (.s 57) (.s 55)⟩])
 (.seq (.reg [⟨(some 58), none, .fa 1 (.s 7)⟩, ⟨(some 59), none, .ld (.int .u64) (.s 58)⟩, ⟨(some 60), none, .bin .shl (.s 59) (.c (.t (.int .u64 1)))⟩, ⟨(some 61), none, .fa 2 (.s 7)⟩, ⟨(some 62), none, .ld (.int .u64) (.s 61)⟩, ⟨(some 63), none, .bin .shr (.s 62) (.c (.t (.int .u64 63)))⟩, ⟨(some 64), none, .bin .or (.s 60) (.s 63)⟩, ⟨(some 65), none, .fa 2 (.s 7)⟩, ⟨(some 66), none, .ld (.int .u64) (.s 65)⟩, ⟨(some 67), none, .bin .shl (.s 66) (.c (.t (.int .u64 1)))⟩, ⟨(some 68), none, .fa 1 (.s 7)⟩, ⟨none, none, .st (.int .u64) (.s 68) (.s 64)⟩, ⟨(some 69), none, .fa 2 (.s 7)⟩, ⟨none, none, .st (.int .u64) (.s 69) (.s 67)⟩])
 (.seq (.reg [⟨(some 70), none, .ld (.agg [.bool, (.int .u64), (.int .u64)]) (.s 8)⟩, ⟨(some 71), none, .ld (.agg [.bool, (.int .u64), (.int .u64)]) (.s 3)⟩, ⟨(some 72), none, .call false 90 (.int .i64) [(.s 70), (.s 71)]⟩, ⟨(some 73), none, .bin .geq (.s 72) (.c (.t (.int .i64 0)))⟩])
 (.cond (.s 73)
 (.seq (.reg [⟨(some 74), none, .fa 0 (.s 3)⟩, ⟨none, none, .st .bool (.s 74) (.c (.t (.bool true)))⟩])
 (.seq (.reg [⟨(some 75), none, .fa 0 (.s 8)⟩, ⟨none, none, .st .bool (.s 75) (.c (.t (.bool false)))⟩])
 (.seq (.reg [⟨(some 76), none, .ld (.agg [.bool, (.int .u64), (.int .u64)]) (.s 8)⟩, ⟨(some 77), none, .ld (.agg [.bool, (.int .u64), (.int .u64)]) (.s 3)⟩, ⟨(some 78), none, .call false 62 (.agg [.bool, (.int .u64), (.int .u64)]) [(.s 76), (.s 77)]⟩, ⟨none, none, .st (.agg [.bool, (.int .u64), (.int .u64)]) (.s 8) (.s 78)⟩])
 (.seq (.reg [⟨(some 79), none, .fa 0 (.s 3)⟩, ⟨none, none, .st .bool (.s 79) (.c (.t (.bool false)))⟩])
 (.reg [⟨(some 80), none, .fa 2 (.s 7)⟩, ⟨(some 81), none, .ld (.int .u64) (.s 80)⟩, ⟨(some 82), none, .bin .or (.s 81) (.c (.t (.int .u64 1)))⟩, ⟨(some 83), none, .fa 2 (.s 7)⟩, ⟨none, none, .st (.int .u64) (.s 83) (.s 82)⟩])))))
 .skip)))))))
 (.reg [⟨(some 84), none, .bin .add (.s 27) (.c (.t (.int .i64 1)))⟩, ⟨(some 27), none, .mov (.s 84)⟩])))))))
 (.seq (.dreg [⟨(some 85), none, .ld (.agg [.bool, (.int .u64), (.int .u64)]) (.s 7)⟩, ⟨(some 86), none, .ld (.agg [.bool, (.int .u64), (.int .u64)]) (.s 8)⟩, ⟨none, none, .st (.agg [.bool, (.int .u64), (.int .u64)]) (.s 4) (.s 85)⟩, ⟨none, none, .st (.agg [.bool, (.int .u64), (.int .u64)]) (.s 5) (.s 86)⟩] [0, 0, 1, 7])
 .ret))))),
 [.cell 4 (.agg [.bool, (.int .u64), (.int .u64)]), .cell 5 (.agg [.bool, (.int .u64), (.int .u64)])]⟩
theorem ok102 : compF Try.prog 102 [[2, 3, 4, 5, 7, 8, 27]] [] = some ir102 := by kernel_rfl

/-- cmp.Or[int] -/
def ir103 : FInfo := ⟨18,
 (.seq (.reg [⟨(some 2), none, .mov (.c (.t (.int .i64 0)))⟩])
 (.seq (.reg [⟨(some 3), none, .mov (.c (.t (.int .i64 0)))⟩])
 (.seq (.seq (.reg [⟨(some 6), none, .mov (.s 0)⟩, ⟨(some 7), none, .len (.s 6)⟩, ⟨(some 8), none, .mov (.c (.t (.int .i64 0)))⟩])
 (.block 0 (.loop [3, 6, 7, 8] (.seq (.reg [⟨(some 9), none, .bin .lss (.s 8) (.s 7)⟩])
 (.seq (.cond (.s 9)
 .skip
 (.exit 0))
 (.seq (.block 1 (.seq (.reg [⟨(some 10), none, .ia (.int .i64) (.s 6) (.s 8)⟩, ⟨(some 11), none, .ld (.int .i64) (.s 10)⟩, ⟨(some 5), none, .mov (.s 11)⟩])
 (.seq (.reg [⟨(some 12), none, .mov (.s 5)⟩, ⟨(some 13), none, .mov (.s 3)⟩, ⟨(some 14), none, .bin .neq (.s 12) (.s 13)⟩])
 (.cond (.s 14)
 (.seq (.reg [⟨(some 15), none, .mov (.s 5)⟩, ⟨(some 2), none, .mov (.s 15)⟩])
 .ret)
 .skip))))
 (.reg [⟨(some 16), none, .bin .add (.s 8) (.c (.t (.int .i64 1)))⟩, ⟨(some 8), none, .mov (.s 16)⟩])))))))
 (.seq (.reg [⟨(some 17), none, .mov (.s 3)⟩, ⟨(some 2), none, .mov (.s 17)⟩])
 .ret)))),
 [.slot 2]⟩
theorem ok103 : compF Try.prog 103 [[3, 6, 7, 8]] [] = some ir103 := by kernel_rfl

/-- cmp.Compare[uint64] -/
def ir104 : FInfo := ⟨20,
 (.seq (.reg [⟨(some 4), none, .mov (.c (.t (.int .i64 0)))⟩])
 (.seq (.reg [⟨(some 7), none, .mov (.s 0)⟩, ⟨(some 8), none, .call false 110 .bool [(.s 7)]⟩, ⟨(some 5), none, .mov (.s 8)⟩])
 (.seq (.reg [⟨(some 9), none, .mov (.s 1)⟩, ⟨(some 10), none, .call false 110 .bool [(.s 9)]⟩, ⟨(some 6), none, .mov (.s 10)⟩])
 (.seq (.seq (.reg [⟨(some 11), none, .mov (.s 5)⟩])
 (.cond (.s 11)
 (.seq (.seq (.reg [⟨(some 12), none, .mov (.s 6)⟩])
 (.cond (.s 12)
 (.seq (.reg [⟨(some 4), none, .mov (.c (.t (.int .i64 0)))⟩])
 .ret)
 .skip))
 (.seq (.reg [⟨(some 4), none, .mov (.c (.t (.int .i64 (-1))))⟩])
 .ret))
 .skip))
 (.seq (.seq (.reg [⟨(some 13), none, .mov (.s 6)⟩])
 (.cond (.s 13)
 (.seq (.reg [⟨(some 4), none, .mov (.c (.t (.int .i64 1)))⟩])
 .ret)
 .skip))
 (.seq (.seq (.reg [⟨(some 14), none, .mov (.s 0)⟩, ⟨(some 15), none, .mov (.s 1)⟩, ⟨(some 16), none, .bin .lss (.s 14) (.s 15)⟩])
 (.cond (.s 16)
 (.seq (.reg [⟨(some 4), none, .mov (.c (.t (.int .i64 (-1))))⟩])
 .ret)
 .skip))
 (.seq (.seq (.reg [⟨(some 17), none, .mov (.s 0)⟩, ⟨(some 18), none, .mov (.s 1)⟩, ⟨(some 19), none, .bin .gtr (.s 17) (.s 18)⟩])
 (.cond (.s 19)
 (.seq (.reg [⟨(some 4), none, .mov (.c (.t (.int .i64 1)))⟩])
 .ret)
 .skip))
 (.seq (.reg [⟨(some 4), none, .mov (.c (.t (.int .i64 0)))⟩])
 .ret)))))))),
 [.slot 4]⟩
theorem ok104 : compF Try.prog 104 [] [] = some ir104 := by kernel_rfl

/-- math/bits.Div64 -/
def ir105 : FInfo := ⟨135,
 (.seq (.reg [⟨(some 6), none, .mov (.c (.t (.int .u64 0)))⟩, ⟨(some 7), none, .mov (.c (.t (.int .u64 0)))⟩])
 (.seq (.seq (.reg [⟨(some 19), none, .mov (.s 2)⟩, ⟨(some 20), none, .bin .eql (.s 19) (.c (.t (.int .u64 0)))⟩])
 (.cond (.s 20)
 (.reg [⟨(some 21), none, .fail⟩, ⟨none, none, .fail⟩])
 .skip))
 (.seq (.seq (.reg [⟨(some 22), none, .mov (.s 2)⟩, ⟨(some 23), none, .mov (.s 0)⟩, ⟨(some 24), none, .bin .leq (.s 22) (.s 23)⟩])
 (.cond (.s 24)
 (.reg [⟨(some 25), none, .fail⟩, ⟨none, none, .fail⟩])
 .skip))
 (.seq (.seq (.reg [⟨(some 26), none, .mov (.s 0)⟩, ⟨(some 27), none, .bin .eql (.s 26) (.c (.t (.int .u64 0)))⟩])
 (.cond (.s 27)
 (.seq (.dreg [⟨(some 28), none, .mov (.s 1)⟩, ⟨(some 29), none, .mov (.s 2)⟩, ⟨(some 30), none, .bin .quo (.s 28) (.s 29)⟩, ⟨(some 31), none, .mov (.s 1)⟩, ⟨(some 32), none, .mov (.s 2)⟩, ⟨(some 33), none, .bin .rem (.s 31) (.s 32)⟩, ⟨(some 6), none, .mov (.s 30)⟩, ⟨(some 7), none, .mov (.s 33)⟩] [0, 0, 3, 0, 0, 24, 7, 127])
 .ret)
 .skip))
 (.seq (.reg [⟨(some 34), none, .mov (.s 2)⟩, ⟨(some 35), none, .call false 111 (.int .i64) [(.s 34)]⟩, ⟨(some 36), none, .conv .u64 (.s 35)⟩, ⟨(some 8), none, .mov (.s 36)⟩])
 (.seq (.reg [⟨(some 37), none, .mov (.s 2)⟩, ⟨(some 38), none, .mov (.s 8)⟩, ⟨(some 39), none, .bin .shl (.s 37) (.s 38)⟩, ⟨(some 2), none, .mov (.s 39)⟩])
 (.seq (.reg [⟨(some 40), none, .mov (.s 2)⟩, ⟨(some 41), none, .bin .shr (.s 40) (.c (.t (.int .u64 32)))⟩, ⟨(some 9), none, .mov (.s 41)⟩])
 (.seq (.reg [⟨(some 42), none, .mov (.s 2)⟩, ⟨(some 43), none, .bin .and (.s 42) (.c (.t (.int .u64 4294967295)))⟩, ⟨(some 10), none, .mov (.s 43)⟩])
 (.seq (.reg [⟨(some 44), none, .mov (.s 0)⟩, ⟨(some 45), none, .mov (.s 8)⟩, ⟨(some 46), none, .bin .shl (.s 44) (.s 45)⟩, ⟨(some 47), none, .mov (.s 1)⟩, ⟨(some 48), none, .mov (.s 8)⟩, ⟨(some 49), none, .bin .sub (.c (.t (.int .u64 64))) (.s 48)⟩, ⟨(some 50), none, .bin .shr (.s 47) (.s 49)⟩, ⟨(some 51), none, .bin .or (.s 46) (.s 50)⟩, ⟨(some 11), none, .mov (.s 51)⟩])
 (.seq (.reg [⟨(some 52), none, .mov (.s 1)⟩, ⟨(some 53), none, .mov (.s 8)⟩, ⟨(some 54), none, .bin .shl (.s 52) (.s 53)⟩, ⟨(some 12), none, .mov (.s 54)⟩])
 (.seq (.reg [⟨(some 55), none, .mov (.s 12)⟩, ⟨(some 56), none, .bin .shr (.s 55) (.c (.t (.int .u64 32)))⟩, ⟨(some 13), none, .mov (.s 56)⟩])
 (.seq (.reg [⟨(some 57), none, .mov (.s 12)⟩, ⟨(some 58), none, .bin .and (.s 57) (.c (.t (.int .u64 4294967295)))⟩, ⟨(some 14), none, .mov (.s 58)⟩])
 (.seq (.reg [⟨(some 59), none, .mov (.s 11)⟩, ⟨(some 60), none, .mov (.s 9)⟩, ⟨(some 61), none, .bin .quo (.s 59) (.s 60)⟩, ⟨(some 15), none, .mov (.s 61)⟩])
 (.seq (.reg [⟨(some 62), none, .mov (.s 11)⟩, ⟨(some 63), none, .mov (.s 15)⟩, ⟨(some 64), none, .mov (.s 9)⟩, ⟨(some 65), none, .bin .mul (.s 63) (.s 64)⟩, ⟨(some 66), none, .bin .sub (.s 62) (.s 65)⟩, ⟨(some 16), none, .mov (.s 66)⟩])
 (.seq (.block 0 (.loop [2, 8, 9, 10, 11, 13, 14, 15, 16] (.seq (.seq (.reg [⟨(some 67), none, .mov (.s 15)⟩, ⟨(some 68), none, .bin .geq (.s 67) (.c (.t (.int .u64 4294967296)))⟩, ⟨(some 69), none, .mov (.s 68)⟩, ⟨(some 70), (some (69, false)), .mov (.s 15)⟩, ⟨(some 71), (some (69, false)), .mov (.s 10)⟩, ⟨(some 72), (some (69, false)), .bin .mul (.s 70) (.s 71)⟩, ⟨(some 73), (some (69, false)), .mov (.s 16)⟩, ⟨(some 74), (some (69, false)), .bin .mul (.c (.t (.int .u64 4294967296))) (.s 73)⟩, ⟨(some 75), (some (69, false)), .mov (.s 13)⟩, ⟨(some 76), (some (69, false)), .bin .add (.s 74) (.s 75)⟩, ⟨(some 77), (some (69, false)), .bin .gtr (.s 72) (.s 76)⟩, ⟨(some 78), none, .pick (.s 69) (.c (.t (.bool true))) (.s 77)⟩])
 (.cond (.s 78)
 .skip
 (.exit 0)))
 (.block 1 (.seq (.reg [⟨(some 79), none, .mov (.s 15)⟩, ⟨(some 80), none, .bin .sub (.s 79) (.c (.t (.int .u64 1)))⟩, ⟨(some 15), none, .mov (.s 80)⟩])
 (.seq (.reg [⟨(some 81), none, .mov (.s 16)⟩, ⟨(some 82), none, .mov (.s 9)⟩, ⟨(some 83), none, .bin .add (.s 81) (.s 82)⟩, ⟨(some 16), none, .mov (.s 83)⟩])
 (.seq (.reg [⟨(some 84), none, .mov (.s 16)⟩, ⟨(some 85), none, .bin .geq (.s 84) (.c (.t (.int .u64 4294967296)))⟩])
 (.cond (.s 85)
 (.exit 0)
 .skip))))))))
 (.seq (.reg [⟨(some 86), none, .mov (.s 11)⟩, ⟨(some 87), none, .bin .mul (.s 86) (.c (.t (.int .u64 4294967296)))⟩, ⟨(some 88), none, .mov (.s 13)⟩, ⟨(some 89), none, .bin .add (.s 87) (.s 88)⟩, ⟨(some 90), none, .mov (.s 15)⟩, ⟨(some 91), none, .mov (.s 2)⟩, ⟨(some 92), none, .bin .mul (.s 90) (.s 91)⟩, ⟨(some 93), none, .bin .sub (.s 89) (.s 92)⟩, ⟨(some 17), none, .mov (.s 93)⟩])
 (.seq (.reg [⟨(some 94), none, .mov (.s 17)⟩, ⟨(some 95), none, .mov (.s 9)⟩, ⟨(some 96), none, .bin .quo (.s 94) (.s 95)⟩, ⟨(some 18), none, .mov (.s 96)⟩])
 (.seq (.reg [⟨(some 97), none, .mov (.s 17)⟩, ⟨(some 98), none, .mov (.s 18)⟩, ⟨(some 99), none, .mov (.s 9)⟩, ⟨(some 100), none, .bin .mul (.s 98) (.s 99)⟩, ⟨(some 101), none, .bin .sub (.s 97) (.s 100)⟩, ⟨(some 16), none, .mov (.s 101)⟩])
 (.seq (.block 2 (.loop [2, 8, 9, 10, 14, 15, 16, 17, 18] (.seq (.seq (.reg [⟨(some 102), none, .mov (.s 18)⟩, ⟨(some 103), none, .bin .geq (.s 102) (.c (.t (.int .u64 4294967296)))⟩, ⟨(some 104), none, .mov (.s 103)⟩, ⟨(some 105), (some (104, false)), .mov (.s 18)⟩, ⟨(some 106), (some (104, false)), .mov (.s 10)⟩, ⟨(some 107), (some (104, false)), .bin .mul (.s 105) (.s 106)⟩, ⟨(some 108), (some (104, false)), .mov (.s 16)⟩, ⟨(some 109), (some (104, false)), .bin .mul (.c (.t (.int .u64 4294967296))) (.s 108)⟩, ⟨(some 110), (some (104, false)), .mov (.s 14)⟩, ⟨(some 111), (some (104, false)), .bin .add (.s 109) (.s 110)⟩, ⟨(some 112), (some (104, false)), .bin .gtr (.s 107) (.s 111)⟩, ⟨(some 113), none, .pick (.s 104) (.c (.t (.bool true))) (.s 112)⟩])
 (.cond (.s 113)
 .skip
 (.exit 2)))
 (.block 3 (.seq (.reg [⟨(some 114), none, .mov (.s 18)⟩, ⟨(some 115), none, .bin .sub (.s 114) (.c (.t (.int .u64 1)))⟩, ⟨(some 18), none, .mov (.s 115)⟩])
 (.seq (.reg [⟨(some 116), none, .mov (.s 16)⟩, ⟨(some 117), none, .mov (.s 9)⟩, ⟨(some 118), none, .bin .add (.s 116) (.s 117)⟩, ⟨(some 16), none, .mov (.s 118)⟩])
 (.seq (.reg [⟨(some 119), none, .mov (.s 16)⟩, ⟨(some 120), none, .bin .geq (.s 119) (.c (.t (.int .u64 4294967296)))⟩])
 (.cond (.s 120)
 (.exit 2)
 .skip))))))))
 (.seq (.reg [⟨(some 121), none, .mov (.s 15)⟩, ⟨(some 122), none, .bin .mul (.s 121) (.c (.t (.int .u64 4294967296)))⟩, ⟨(some 123), none, .mov (.s 18)⟩, ⟨(some 124), none, .bin .add (.s 122) (.s 123)⟩, ⟨(some 125), none, .mov (.s 17)⟩, ⟨(some 126), none, .bin .mul (.s 125) (.c (.t (.int .u64 4294967296)))⟩, ⟨(some 127), none, .mov (.s 14)⟩, ⟨(some 128), none, .bin .add (.s 126) (.s 127)⟩, ⟨(some 129), none, .mov (.s 18)⟩, ⟨(some 130), none, .mov (.s 2)⟩, ⟨(some 131), none, .bin .mul (.s 129) (.s 130)⟩, ⟨(some 132), none, .bin .sub (.s 128) (.s 131)⟩, ⟨(some 133), none, .mov (.s 8)⟩, ⟨(some 134), none, .bin .shr (.s 132) (.s 133)⟩, ⟨(some 6), none, .mov (.s 124)⟩, ⟨(some 7), none, .mov (.s 134)⟩])
 .ret)))))))))))))))))))),
 [.slot 6, .slot 7]⟩
theorem ok105 : compF Try.prog 105 [[2, 8, 9, 10, 11, 13, 14, 15, 16], [2, 8, 9, 10, 14, 15, 16, 17, 18]] [] = some ir105 := by kernel_rfl

/-- slices.pdqsortOrdered[int] -/
def ir106 : FInfo := ⟨134,
 (.seq (.reg [⟨(some 8), none, .mov (.c (.t (.bool true)))⟩])
 (.seq (.reg [⟨(some 9), none, .mov (.c (.t (.bool true)))⟩])
 (.block 0 (.loop [0, 1, 2, 3, 8, 9] (.block 1 (.seq (.reg [⟨(some 19), none, .mov (.s 2)⟩, ⟨(some 20), none, .mov (.s 1)⟩, ⟨(some 21), none, .bin .sub (.s 19) (.s 20)⟩, ⟨(some 10), none, .mov (.s 21)⟩])
 (.seq (.seq (.reg [⟨(some 22), none, .mov (.s 10)⟩, ⟨(some 23), none, .bin .leq (.s 22) (.c (.t (.int .i64 12)))⟩])
 (.cond (.s 23)
 (.seq (.reg [⟨(some 24), none, .mov (.s 0)⟩, ⟨(some 25), none, .mov (.s 1)⟩, ⟨(some 26), none, .mov (.s 2)⟩, ⟨(some 27), none, .call false 112 (.tup []) [(.s 24), (.s 25), (.s 26)]⟩])
 .ret)
 .skip))
 (.seq (.seq (.reg [⟨(some 28), none, .mov (.s 3)⟩, ⟨(some 29), none, .bin .eql (.s 28) (.c (.t (.int .i64 0)))⟩])
 (.cond (.s 29)
 (.seq (.reg [⟨(some 30), none, .mov (.s 0)⟩, ⟨(some 31), none, .mov (.s 1)⟩, ⟨(some 32), none, .mov (.s 2)⟩, ⟨(some 33), none, .call false 113 (.tup []) [(.s 30), (.s 31), (.s 32)]⟩])
 .ret)
 .skip))
 (.seq (.seq (.reg [⟨(some 34), none, .mov (.s 8)⟩, ⟨(some 35), none, .un .not (.s 34)⟩])
 (.cond (.s 35)
 (.seq (.reg [⟨(some 36), none, .mov (.s 0)⟩, ⟨(some 37), none, .mov (.s 1)⟩, ⟨(some 38), none, .mov (.s 2)⟩, ⟨(some 39), none, .call false 114 (.tup []) [(.s 36), (.s 37), (.s 38)]⟩])
 (.reg [⟨(some 40), none, .mov (.s 3)⟩, ⟨(some 41), none, .bin .sub (.s 40) (.c (.t (.int .i64 1)))⟩, ⟨(some 3), none, .mov (.s 41)⟩]))
 .skip))
 (.seq (.reg [⟨(some 43), none, .mov (.s 0)⟩, ⟨(some 44), none, .mov (.s 1)⟩, ⟨(some 45), none, .mov (.s 2)⟩, ⟨(some 46), none, .call false 115 (.tup [(.int .i64), (.int .i64)]) [(.s 43), (.s 44), (.s 45)]⟩, ⟨(some 42), none, .mov (.s 46)⟩, ⟨(some 47), none, .ext 0 (.s 42)⟩, ⟨(some 48), none, .ext 1 (.s 42)⟩, ⟨(some 11), none, .mov (.s 47)⟩, ⟨(some 12), none, .mov (.s 48)⟩])
 (.seq (.seq (.reg [⟨(some 49), none, .mov (.s 12)⟩, ⟨(some 50), none, .bin .eql (.s 49) (.c (.t (.int .i64 2)))⟩])
 (.cond (.s 50)
 (.seq (.reg [⟨(some 51), none, .mov (.s 0)⟩, ⟨(some 52), none, .mov (.s 1)⟩, ⟨(some 53), none, .mov (.s 2)⟩, ⟨(some 54), none, .call false 116 (.tup []) [(.s 51), (.s 52), (.s 53)]⟩])
 (.seq (.reg [⟨(some 55), none, .mov (.s 2)⟩, ⟨(some 56), none, .bin .sub (.s 55) (.c (.t (.int .i64 1)))⟩, ⟨(some 57), none, .mov (.s 11)⟩, ⟨(some 58), none, .mov (.s 1)⟩, ⟨(some 59), none, .bin .sub (.s 57) (.s 58)⟩, ⟨(some 60), none, .bin .sub (.s 56) (.s 59)⟩, ⟨(some 11), none, .mov (.s 60)⟩])
 (.reg [⟨(some 12), none, .mov (.c (.t (.int .i64 1)))⟩])))
 .skip))
 (.seq (.seq (.reg [⟨(some 61), none, .mov (.s 8)⟩, ⟨(some 62), none, .mov (.s 61)⟩, ⟨(some 63), (some (62, true)), .mov (.s 9)⟩, ⟨(some 64), none, .pick (.s 62) (.s 63) (.c (.t (.bool false)))⟩, ⟨(some 65), none, .mov (.s 64)⟩, ⟨(some 66), (some (65, true)), .mov (.s 12)⟩, ⟨(some 67), (some (65, true)), .bin .eql (.s 66) (.c (.t (.int .i64 1)))⟩, ⟨(some 68), none, .pick (.s 65) (.s 67) (.c (.t (.bool false)))⟩])
 (.cond (.s 68)
 (.seq (.reg [⟨(some 69), none, .mov (.s 0)⟩, ⟨(some 70), none, .mov (.s 1)⟩, ⟨(some 71), none, .mov (.s 2)⟩, ⟨(some 72), none, .call false 117 .bool [(.s 69), (.s 70), (.s 71)]⟩])
 (.cond (.s 72)
 .ret
 .skip))
 .skip))
 (.seq (.seq (.dreg [⟨(some 73), none, .mov (.s 1)⟩, ⟨(some 74), none, .bin .gtr (.s 73) (.c (.t (.int .i64 0)))⟩, ⟨(some 75), none, .mov (.s 74)⟩, ⟨(some 76), (some (75, true)), .mov (.s 0)⟩, ⟨(some 77), (some (75, true)), .mov (.s 1)⟩, ⟨(some 78), (some (75, true)), .bin .sub (.s 77) (.c (.t (.int .i64 1)))⟩, ⟨(some 79), (some (75, true)), .ia (.int .i64) (.s 76) (.s 78)⟩, ⟨(some 80), (some (75, true)), .ld (.int .i64) (.s 79)⟩, ⟨(some 81), (some (75, true)), .mov (.s 0)⟩, ⟨(some 82), (some (75, true)), .mov (.s 11)⟩, ⟨(some 83), (some (75, true)), .ia (.int .i64) (.s 81) (.s 82)⟩, ⟨(some 84), (some (75, true)), .ld (.int .i64) (.s 83)⟩, ⟨(some 85), (some (75, true)), .call false 118 .bool [(.s 80), (.s 84)]⟩, ⟨(some 86), (some (75, true)), .un .not (.s 85)⟩, ⟨(some 87), none, .pick (.s 75) (.s 86) (.c (.t (.bool false)))⟩] [0, 1, 3, 7, 7, 23, 63, 127, 7, 7, 775, 1799, 4095, 8191, 16383])
 (.cond (.s 87)
 (.seq (.reg [⟨(some 88), none, .mov (.s 0)⟩, ⟨(some 89), none, .mov (.s 1)⟩, ⟨(some 90), none, .mov (.s 2)⟩, ⟨(some 91), none, .mov (.s 11)⟩, ⟨(some 92), none, .call false 119 (.int .i64) [(.s 88), (.s 89), (.s 90), (.s 91)]⟩, ⟨(some 13), none, .mov (.s 92)⟩])
 (.seq (.reg [⟨(some 93), none, .mov (.s 13)⟩, ⟨(some 1), none, .mov (.s 93)⟩])
 (.exit 1)))
 .skip))
 (.seq (.reg [⟨(some 95), none, .mov (.s 0)⟩, ⟨(some 96), none, .mov (.s 1)⟩, ⟨(some 97), none, .mov (.s 2)⟩, ⟨(some 98), none, .mov (.s 11)⟩, ⟨(some 99), none, .call false 120 (.tup [(.int .i64), .bool]) [(.s 95), (.s 96), (.s 97), (.s 98)]⟩, ⟨(some 94), none, .mov (.s 99)⟩, ⟨(some 100), none, .ext 0 (.s 94)⟩, ⟨(some 101), none, .ext 1 (.s 94)⟩, ⟨(some 14), none, .mov (.s 100)⟩, ⟨(some 15), none, .mov (.s 101)⟩])
 (.seq (.reg [⟨(some 102), none, .mov (.s 15)⟩, ⟨(some 9), none, .mov (.s 102)⟩])
 (.seq (.reg [⟨(some 103), none, .mov (.s 14)⟩, ⟨(some 104), none, .mov (.s 1)⟩, ⟨(some 105), none, .bin .sub (.s 103) (.s 104)⟩, ⟨(some 106), none, .mov (.s 2)⟩, ⟨(some 107), none, .mov (.s 14)⟩, ⟨(some 108), none, .bin .sub (.s 106) (.s 107)⟩, ⟨(some 16), none, .mov (.s 105)⟩, ⟨(some 17), none, .mov (.s 108)⟩])
 (.seq (.reg [⟨(some 109), none, .mov (.s 10)⟩, ⟨(some 110), none, .bin .quo (.s 109) (.c (.t (.int .i64 8)))⟩, ⟨(some 18), none, .mov (.s 110)⟩])
 (.seq (.reg [⟨(some 111), none, .mov (.s 16)⟩, ⟨(some 112), none, .mov (.s 17)⟩, ⟨(some 113), none, .bin .lss (.s 111) (.s 112)⟩])
 (.cond (.s 113)
 (.seq (.reg [⟨(some 114), none, .mov (.s 16)⟩, ⟨(some 115), none, .mov (.s 18)⟩, ⟨(some 116), none, .bin .geq (.s 114) (.s 115)⟩, ⟨(some 8), none, .mov (.s 116)⟩])
 (.seq (.reg [⟨(some 117), none, .mov (.s 0)⟩, ⟨(some 118), none, .mov (.s 1)⟩, ⟨(some 119), none, .mov (.s 14)⟩, ⟨(some 120), none, .mov (.s 3)⟩, ⟨(some 121), none, .call false 106 (.tup []) [(.s 117), (.s 118), (.s 119), (.s 120)]⟩])
 (.reg [⟨(some 122), none, .mov (.s 14)⟩, ⟨(some 123), none, .bin .add (.s 122) (.c (.t (.int .i64 1)))⟩, ⟨(some 1), none, .mov (.s 123)⟩])))
 (.seq (.reg [⟨(some 124), none, .mov (.s 17)⟩, ⟨(some 125), none, .mov (.s 18)⟩, ⟨(some 126), none, .bin .geq (.s 124) (.s 125)⟩, ⟨(some 8), none, .mov (.s 126)⟩])
 (.seq (.reg [⟨(some 127), none, .mov (.s 0)⟩, ⟨(some 128), none, .mov (.s 14)⟩, ⟨(some 129), none, .bin .add (.s 128) (.c (.t (.int .i64 1)))⟩, ⟨(some 130), none, .mov (.s 2)⟩, ⟨(some 131), none, .mov (.s 3)⟩, ⟨(some 132), none, .call false 106 (.tup []) [(.s 127), (.s 129), (.s 130), (.s 131)]⟩])
 (.reg [⟨(some 133), none, .mov (.s 14)⟩, ⟨(some 2), none, .mov (.s 133)⟩])))))))))))))))))))))),
 []⟩
theorem ok106 : compF Try.prog 106 [[0, 1, 2, 3, 8, 9]] [] = some ir106 := by kernel_rfl

/-- math/bits.Len -/
def ir107 : FInfo := ⟨8,
 (.seq (.reg [⟨(some 2), none, .mov (.c (.t (.int .i64 0)))⟩])
 (.seq (.cond (.c (.t (.bool false)))
 (.seq (.reg [⟨(some 3), none, .mov (.s 0)⟩, ⟨(some 4), none, .conv .u32 (.s 3)⟩, ⟨(some 5), none, .call false 121 (.int .i64) [(.s 4)]⟩, ⟨(some 2), none, .mov (.s 5)⟩])
 .ret)
 .skip)
 (.seq (.reg [⟨(some 6), none, .mov (.s 0)⟩, ⟨(some 7), none, .call false 122 (.int .i64) [(.s 6)]⟩, ⟨(some 2), none, .mov (.s 7)⟩])
 .ret))),
 [.slot 2]⟩
theorem ok107 : compF Try.prog 107 [] [] = some ir107 := by kernel_rfl

/-- (tenet/quot.wide).over -/
def ir108 : FInfo := ⟨30,
 (.seq (.reg [⟨(some 2), none, .box (.agg [.bool, (.int .u64), (.int .u64)]) (.s 0)⟩, ⟨(some 4), none, .new (.agg [.bool, (.int .u64), (.int .u64)]) (.t (.agg [(.bool false), (.int .u64 0), (.int .u64 0)]))⟩])
 (.seq (.dreg [⟨(some 9), none, .fa 1 (.s 2)⟩, ⟨(some 10), none, .ld (.int .u64) (.s 9)⟩, ⟨(some 11), none, .mov (.s 1)⟩, ⟨(some 12), none, .bin .quo (.s 10) (.s 11)⟩, ⟨(some 13), none, .fa 1 (.s 2)⟩, ⟨(some 14), none, .ld (.int .u64) (.s 13)⟩, ⟨(some 15), none, .mov (.s 1)⟩, ⟨(some 16), none, .bin .rem (.s 14) (.s 15)⟩, ⟨(some 5), none, .mov (.s 12)⟩, ⟨(some 6), none, .mov (.s 16)⟩] [0, 1, 0, 7, 0, 16, 0, 112, 15, 511])
 (.seq (.reg [⟨(some 18), none, .mov (.s 6)⟩, ⟨(some 19), none, .fa 2 (.s 2)⟩, ⟨(some 20), none, .ld (.int .u64) (.s 19)⟩, ⟨(some 21), none, .mov (.s 1)⟩, ⟨(some 22), none, .call false 105 (.tup [(.int .u64), (.int .u64)]) [(.s 18), (.s 20), (.s 21)]⟩, ⟨(some 17), none, .mov (.s 22)⟩, ⟨(some 23), none, .ext 0 (.s 17)⟩, ⟨(some 24), none, .ext 1 (.s 17)⟩, ⟨(some 7), none, .mov (.s 23)⟩, ⟨(some 8), none, .mov (.s 24)⟩])
 (.seq (.reg [⟨(some 25), none, .fa 0 (.s 2)⟩, ⟨(some 26), none, .ld .bool (.s 25)⟩, ⟨(some 27), none, .mov (.s 5)⟩, ⟨(some 28), none, .mov (.s 7)⟩, ⟨(some 29), none, .build [(.t (.bool false)), (.t (.int .u64 0)), (.t (.int .u64 0))] [(0, .bool, (.s 26)), (1, (.int .u64), (.s 27)), (2, (.int .u64), (.s 28))]⟩, ⟨none, none, .st (.agg [.bool, (.int .u64), (.int .u64)]) (.s 4) (.s 29)⟩])
 .ret)))),
 [.cell 4 (.agg [.bool, (.int .u64), (.int .u64)])]⟩
theorem ok108 : compF Try.prog 108 [] [] = some ir108 := by kernel_rfl

/-- (tenet/quot.wide).mod -/
def ir109 : FInfo := ⟨11,
 (.seq (.reg [⟨(some 2), none, .box (.agg [.bool, (.int .u64), (.int .u64)]) (.s 0)⟩, ⟨(some 4), none, .mov (.c (.t (.int .u64 0)))⟩])
 (.seq (.reg [⟨(some 5), none, .fa 1 (.s 2)⟩, ⟨(some 6), none, .ld (.int .u64) (.s 5)⟩, ⟨(some 7), none, .fa 2 (.s 2)⟩, ⟨(some 8), none, .ld (.int .u64) (.s 7)⟩, ⟨(some 9), none, .mov (.s 1)⟩, ⟨(some 10), none, .call false 123 (.int .u64) [(.s 6), (.s 8), (.s 9)]⟩, ⟨(some 4), none, .mov (.s 10)⟩])
 .ret)),
 [.slot 4]⟩
theorem ok109 : compF Try.prog 109 [] [] = some ir109 := by kernel_rfl

/-- cmp.isNaN[uint64] -/
def ir110 : FInfo := ⟨6,
 (.seq (.reg [⟨(some 2), none, .mov (.c (.t (.bool false)))⟩])
 (.seq (.reg [⟨(some 3), none, .mov (.s 0)⟩, ⟨(some 4), none, .mov (.s 0)⟩, ⟨(some 5), none, .bin .neq (.s 3) (.s 4)⟩, ⟨(some 2), none, .mov (.s 5)⟩])
 .ret)),
 [.slot 2]⟩
theorem ok110 : compF Try.prog 110 [] [] = some ir110 := by kernel_rfl

/-- math/bits.LeadingZeros64 -/
def ir111 : FInfo := ⟨6,
 (.seq (.reg [⟨(some 2), none, .mov (.c (.t (.int .i64 0)))⟩])
 (.seq (.reg [⟨(some 3), none, .mov (.s 0)⟩, ⟨(some 4), none, .call false 122 (.int .i64) [(.s 3)]⟩, ⟨(some 5), none, .bin .sub (.c (.t (.int .i64 64))) (.s 4)⟩, ⟨(some 2), none, .mov (.s 5)⟩])
 .ret)),
 [.slot 2]⟩
theorem ok111 : compF Try.prog 111 [] [] = some ir111 := by kernel_rfl

/-- slices.insertionSortOrdered[int] -/
def ir112 : FInfo := ⟨49,
 (.seq (.reg [⟨(some 8), none, .mov (.s 1)⟩, ⟨(some 9), none, .bin .add (.s 8) (.c (.t (.int .i64 1)))⟩, ⟨(some 6), none, .mov (.s 9)⟩])
 (.block 0 (.loop [0, 1, 2, 6] (.seq (.seq (.reg [⟨(some 10), none, .mov (.s 6)⟩, ⟨(some 11), none, .mov (.s 2)⟩, ⟨(some 12), none, .bin .lss (.s 10) (.s 11)⟩])
 (.cond (.s 12)
 .skip
 (.exit 0)))
 (.seq (.block 1 (.seq (.reg [⟨(some 15), none, .mov (.s 6)⟩, ⟨(some 7), none, .mov (.s 15)⟩])
 (.block 2 (.loop [0, 1, 2, 6, 7] (.seq (.seq (.dreg [⟨(some 16), none, .mov (.s 7)⟩, ⟨(some 17), none, .mov (.s 1)⟩, ⟨(some 18), none, .bin .gtr (.s 16) (.s 17)⟩, ⟨(some 19), none, .mov (.s 18)⟩, ⟨(some 20), (some (19, true)), .mov (.s 0)⟩, ⟨(some 21), (some (19, true)), .mov (.s 7)⟩, ⟨(some 22), (some (19, true)), .ia (.int .i64) (.s 20) (.s 21)⟩, ⟨(some 23), (some (19, true)), .ld (.int .i64) (.s 22)⟩, ⟨(some 24), (some (19, true)), .mov (.s 0)⟩, ⟨(some 25), (some (19, true)), .mov (.s 7)⟩, ⟨(some 26), (some (19, true)), .bin .sub (.s 25) (.c (.t (.int .i64 1)))⟩, ⟨(some 27), (some (19, true)), .ia (.int .i64) (.s 24) (.s 26)⟩, ⟨(some 28), (some (19, true)), .ld (.int .i64) (.s 27)⟩, ⟨(some 29), (some (19, true)), .call false 118 .bool [(.s 23), (.s 28)]⟩, ⟨(some 30), none, .pick (.s 19) (.s 29) (.c (.t (.bool false)))⟩] [0, 0, 3, 7, 15, 15, 63, 127, 15, 15, 527, 1807, 3855, 8191, 16383])
 (.cond (.s 30)
 .skip
 (.exit 2)))
 (.seq (.block 3 (.dreg [⟨(some 33), none, .mov (.s 0)⟩, ⟨(some 34), none, .mov (.s 7)⟩, ⟨(some 35), none, .mov (.s 0)⟩, ⟨(some 36), none, .mov (.s 7)⟩, ⟨(some 37), none, .bin .sub (.s 36) (.c (.t (.int .i64 1)))⟩, ⟨(some 38), none, .mov (.s 0)⟩, ⟨(some 39), none, .mov (.s 7)⟩, ⟨(some 40), none, .bin .sub (.s 39) (.c (.t (.int .i64 1)))⟩, ⟨(some 41), none, .ia (.int .i64) (.s 38) (.s 40)⟩, ⟨(some 42), none, .ld (.int .i64) (.s 41)⟩, ⟨(some 43), none, .mov (.s 0)⟩, ⟨(some 44), none, .mov (.s 7)⟩, ⟨(some 45), none, .ia (.int .i64) (.s 43) (.s 44)⟩, ⟨(some 46), none, .ld (.int .i64) (.s 45)⟩, ⟨(some 47), none, .ia (.int .i64) (.s 33) (.s 34)⟩, ⟨none, none, .st (.int .i64) (.s 47) (.s 42)⟩, ⟨(some 48), none, .ia (.int .i64) (.s 35) (.s 37)⟩, ⟨none, none, .st (.int .i64) (.s 48) (.s 46)⟩] [0, 0, 0, 0, 8, 0, 0, 64, 224, 480, 0, 0, 3072, 7168, 16355, 32739, 65535, 131071]))
 (.reg [⟨(some 31), none, .mov (.s 7)⟩, ⟨(some 32), none, .bin .sub (.s 31) (.c (.t (.int .i64 1)))⟩, ⟨(some 7), none, .mov (.s 32)⟩])))))))
 (.reg [⟨(some 13), none, .mov (.s 6)⟩, ⟨(some 14), none, .bin .add (.s 13) (.c (.t (.int .i64 1)))⟩, ⟨(some 6), none, .mov (.s 14)⟩])))))),
 []⟩
theorem ok112 : compF Try.prog 112 [[0, 1, 2, 6], [0, 1, 2, 6, 7]] [] = some ir112 := by kernel_rfl

/-- slices.heapSortOrdered[int] -/
def ir113 : FInfo := ⟨56,
 (.seq (.reg [⟨(some 11), none, .mov (.s 1)⟩, ⟨(some 6), none, .mov (.s 11)⟩])
 (.seq (.reg [⟨(some 7), none, .mov (.c (.t (.int .i64 0)))⟩])
 (.seq (.reg [⟨(some 12), none, .mov (.s 2)⟩, ⟨(some 13), none, .mov (.s 1)⟩, ⟨(some 14), none, .bin .sub (.s 12) (.s 13)⟩, ⟨(some 8), none, .mov (.s 14)⟩])
 (.seq (.seq (.reg [⟨(some 15), none, .mov (.s 8)⟩, ⟨(some 16), none, .bin .sub (.s 15) (.c (.t (.int .i64 1)))⟩, ⟨(some 17), none, .bin .quo (.s 16) (.c (.t (.int .i64 2)))⟩, ⟨(some 9), none, .mov (.s 17)⟩])
 (.block 0 (.loop [0, 6, 7, 8, 9] (.seq (.seq (.reg [⟨(some 18), none, .mov (.s 9)⟩, ⟨(some 19), none, .bin .geq (.s 18) (.c (.t (.int .i64 0)))⟩])
 (.cond (.s 19)
 .skip
 (.exit 0)))
 (.seq (.block 1 (.reg [⟨(some 22), none, .mov (.s 0)⟩, ⟨(some 23), none, .mov (.s 9)⟩, ⟨(some 24), none, .mov (.s 8)⟩, ⟨(some 25), none, .mov (.s 6)⟩, ⟨(some 26), none, .call false 124 (.tup []) [(.s 22), (.s 23), (.s 24), (.s 25)]⟩]))
 (.reg [⟨(some 20), none, .mov (.s 9)⟩, ⟨(some 21), none, .bin .sub (.s 20) (.c (.t (.int .i64 1)))⟩, ⟨(some 9), none, .mov (.s 21)⟩]))))))
 (.seq (.reg [⟨(some 27), none, .mov (.s 8)⟩, ⟨(some 28), none, .bin .sub (.s 27) (.c (.t (.int .i64 1)))⟩, ⟨(some 10), none, .mov (.s 28)⟩])
 (.block 2 (.loop [0, 6, 7, 10] (.seq (.seq (.reg [⟨(some 29), none, .mov (.s 10)⟩, ⟨(some 30), none, .bin .geq (.s 29) (.c (.t (.int .i64 0)))⟩])
 (.cond (.s 30)
 .skip
 (.exit 2)))
 (.seq (.block 3 (.seq (.dreg [⟨(some 33), none, .mov (.s 0)⟩, ⟨(some 34), none, .mov (.s 6)⟩, ⟨(some 35), none, .mov (.s 0)⟩, ⟨(some 36), none, .mov (.s 6)⟩, ⟨(some 37), none, .mov (.s 10)⟩, ⟨(some 38), none, .bin .add (.s 36) (.s 37)⟩, ⟨(some 39), none, .mov (.s 0)⟩, ⟨(some 40), none, .mov (.s 6)⟩, ⟨(some 41), none, .mov (.s 10)⟩, ⟨(some 42), none, .bin .add (.s 40) (.s 41)⟩, ⟨(some 43), none, .ia (.int .i64) (.s 39) (.s 42)⟩, ⟨(some 44), none, .ld (.int .i64) (.s 43)⟩, ⟨(some 45), none, .mov (.s 0)⟩, ⟨(some 46), none, .mov (.s 6)⟩, ⟨(some 47), none, .ia (.int .i64) (.s 45) (.s 46)⟩, ⟨(some 48), none, .ld (.int .i64) (.s 47)⟩, ⟨(some 49), none, .ia (.int .i64) (.s 33) (.s 34)⟩, ⟨none, none, .st (.int .i64) (.s 49) (.s 44)⟩, ⟨(some 50), none, .ia (.int .i64) (.s 35) (.s 38)⟩, ⟨none, none, .st (.int .i64) (.s 50) (.s 48)⟩] [0, 0, 0, 0, 0, 24, 0, 0, 0, 384, 960, 1984, 0, 0, 12288, 28672, 65475, 131011, 262143, 524287])
 (.reg [⟨(some 51), none, .mov (.s 0)⟩, ⟨(some 52), none, .mov (.s 7)⟩, ⟨(some 53), none, .mov (.s 10)⟩, ⟨(some 54), none, .mov (.s 6)⟩, ⟨(some 55), none, .call false 124 (.tup []) [(.s 51), (.s 52), (.s 53), (.s 54)]⟩])))
 (.reg [⟨(some 31), none, .mov (.s 10)⟩, ⟨(some 32), none, .bin .sub (.s 31) (.c (.t (.int .i64 1)))⟩, ⟨(some 10), none, .mov (.s 32)⟩])))))))))),
 []⟩
theorem ok113 : compF Try.prog 113 [[0, 6, 7, 8, 9], [0, 6, 7, 10]] [] = some ir113 := by kernel_rfl

/-- slices.breakPatternsOrdered[int] -/
def ir114 : FInfo := ⟨65,
 (.seq (.reg [⟨(some 11), none, .mov (.s 2)⟩, ⟨(some 12), none, .mov (.s 1)⟩, ⟨(some 13), none, .bin .sub (.s 11) (.s 12)⟩, ⟨(some 6), none, .mov (.s 13)⟩])
 (.seq (.reg [⟨(some 14), none, .mov (.s 6)⟩, ⟨(some 15), none, .bin .geq (.s 14) (.c (.t (.int .i64 8)))⟩])
 (.cond (.s 15)
 (.seq (.reg [⟨(some 16), none, .mov (.s 6)⟩, ⟨(some 17), none, .conv .u64 (.s 16)⟩, ⟨(some 7), none, .new (.int .u64) (.t (.int .u64 0))⟩, ⟨none, none, .st (.int .u64) (.s 7) (.s 17)⟩])
 (.seq (.reg [⟨(some 18), none, .mov (.s 6)⟩, ⟨(some 19), none, .call false 125 (.int .u64) [(.s 18)]⟩, ⟨(some 8), none, .mov (.s 19)⟩])
 (.seq (.reg [⟨(some 20), none, .mov (.s 1)⟩, ⟨(some 21), none, .mov (.s 6)⟩, ⟨(some 22), none, .bin .quo (.s 21) (.c (.t (.int .i64 4)))⟩, ⟨(some 23), none, .bin .mul (.s 22) (.c (.t (.int .i64 2)))⟩, ⟨(some 24), none, .bin .add (.s 20) (.s 23)⟩, ⟨(some 25), none, .bin .sub (.s 24) (.c (.t (.int .i64 1)))⟩, ⟨(some 9), none, .mov (.s 25)⟩])
 (.block 0 (.loop [0, 1, 6, 7, 8, 9] (.seq (.seq (.reg [⟨(some 26), none, .mov (.s 9)⟩, ⟨(some 27), none, .mov (.s 1)⟩, ⟨(some 28), none, .mov (.s 6)⟩, ⟨(some 29), none, .bin .quo (.s 28) (.c (.t (.int .i64 4)))⟩, ⟨(some 30), none, .bin .mul (.s 29) (.c (.t (.int .i64 2)))⟩, ⟨(some 31), none, .bin .add (.s 27) (.s 30)⟩, ⟨(some 32), none, .bin .add (.s 31) (.c (.t (.int .i64 1)))⟩, ⟨(some 33), none, .bin .leq (.s 26) (.s 32)⟩])
 (.cond (.s 33)
 .skip
 (.exit 0)))
 (.seq (.block 1 (.seq (.reg [⟨(some 36), none, .call false 126 (.int .u64) [(.s 7)]⟩, ⟨(some 37), none, .mov (.s 8)⟩, ⟨(some 38), none, .bin .sub (.s 37) (.c (.t (.int .u64 1)))⟩, ⟨(some 39), none, .bin .and (.s 36) (.s 38)⟩, ⟨(some 40), none, .conv .i64 (.s 39)⟩, ⟨(some 10), none, .mov (.s 40)⟩])
 (.seq (.seq (.reg [⟨(some 41), none, .mov (.s 10)⟩, ⟨(some 42), none, .mov (.s 6)⟩, ⟨(some 43), none, .bin .geq (.s 41) (.s 42)⟩])
 (.cond (.s 43)
 (.reg [⟨(some 44), none, .mov (.s 10)⟩, ⟨(some 45), none, .mov (.s 6)⟩, ⟨(some 46), none, .bin .sub (.s 44) (.s 45)⟩, ⟨(some 10), none, .mov (.s 46)⟩])
 .skip))
 (.dreg [⟨(some 47), none, .mov (.s 0)⟩, ⟨(some 48), none, .mov (.s 9)⟩, ⟨(some 49), none, .mov (.s 0)⟩, ⟨(some 50), none, .mov (.s 1)⟩, ⟨(some 51), none, .mov (.s 10)⟩, ⟨(some 52), none, .bin .add (.s 50) (.s 51)⟩, ⟨(some 53), none, .mov (.s 0)⟩, ⟨(some 54), none, .mov (.s 1)⟩, ⟨(some 55), none, .mov (.s 10)⟩, ⟨(some 56), none, .bin .add (.s 54) (.s 55)⟩, ⟨(some 57), none, .ia (.int .i64) (.s 53) (.s 56)⟩, ⟨(some 58), none, .ld (.int .i64) (.s 57)⟩, ⟨(some 59), none, .mov (.s 0)⟩, ⟨(some 60), none, .mov (.s 9)⟩, ⟨(some 61), none, .ia (.int .i64) (.s 59) (.s 60)⟩, ⟨(some 62), none, .ld (.int .i64) (.s 61)⟩, ⟨(some 63), none, .ia (.int .i64) (.s 47) (.s 48)⟩, ⟨none, none, .st (.int .i64) (.s 63) (.s 58)⟩, ⟨(some 64), none, .ia (.int .i64) (.s 49) (.s 52)⟩, ⟨none, none, .st (.int .i64) (.s 64) (.s 62)⟩] [0, 0, 0, 0, 0, 24, 0, 0, 0, 384, 960, 1984, 0, 0, 12288, 28672, 65475, 131011, 262143, 524287]))))
 (.reg [⟨(some 34), none, .mov (.s 9)⟩, ⟨(some 35), none, .bin .add (.s 34) (.c (.t (.int .i64 1)))⟩, ⟨(some 9), none, .mov (.s 35)⟩]))))))))
 .skip))),
 []⟩
theorem ok114 : compF Try.prog 114 [[0, 1, 6, 7, 8, 9]] [] = some ir114 := by kernel_rfl

/-- slices.choosePivotOrdered[int] -/
def ir115 : FInfo := ⟨57,
 (.seq (.reg [⟨(some 6), none, .mov (.c (.t (.int .i64 0)))⟩, ⟨(some 7), none, .mov (.c (.t (.int .i64 0)))⟩])
 (.seq (.reg [⟨(some 13), none, .mov (.s 2)⟩, ⟨(some 14), none, .mov (.s 1)⟩, ⟨(some 15), none, .bin .sub (.s 13) (.s 14)⟩, ⟨(some 8), none, .mov (.s 15)⟩])
 (.seq (.reg [⟨(some 9), none, .new (.int .i64) (.t (.int .i64 0))⟩])
 (.seq (.reg [⟨(some 16), none, .mov (.s 1)⟩, ⟨(some 17), none, .mov (.s 8)⟩, ⟨(some 18), none, .bin .quo (.s 17) (.c (.t (.int .i64 4)))⟩, ⟨(some 19), none, .bin .mul (.s 18) (.c (.t (.int .i64 1)))⟩, ⟨(some 20), none, .bin .add (.s 16) (.s 19)⟩, ⟨(some 10), none, .mov (.s 20)⟩])
 (.seq (.reg [⟨(some 21), none, .mov (.s 1)⟩, ⟨(some 22), none, .mov (.s 8)⟩, ⟨(some 23), none, .bin .quo (.s 22) (.c (.t (.int .i64 4)))⟩, ⟨(some 24), none, .bin .mul (.s 23) (.c (.t (.int .i64 2)))⟩, ⟨(some 25), none, .bin .add (.s 21) (.s 24)⟩, ⟨(some 11), none, .mov (.s 25)⟩])
 (.seq (.reg [⟨(some 26), none, .mov (.s 1)⟩, ⟨(some 27), none, .mov (.s 8)⟩, ⟨(some 28), none, .bin .quo (.s 27) (.c (.t (.int .i64 4)))⟩, ⟨(some 29), none, .bin .mul (.s 28) (.c (.t (.int .i64 3)))⟩, ⟨(some 30), none, .bin .add (.s 26) (.s 29)⟩, ⟨(some 12), none, .mov (.s 30)⟩])
 (.seq (.seq (.reg [⟨(some 31), none, .mov (.s 8)⟩, ⟨(some 32), none, .bin .geq (.s 31) (.c (.t (.int .i64 8)))⟩])
 (.cond (.s 32)
 (.seq (.seq (.reg [⟨(some 33), none, .mov (.s 8)⟩, ⟨(some 34), none, .bin .geq (.s 33) (.c (.t (.int .i64 50)))⟩])
 (.cond (.s 34)
 (.seq (.reg [⟨(some 35), none, .mov (.s 0)⟩, ⟨(some 36), none, .mov (.s 10)⟩, ⟨(some 37), none, .call false 127 (.int .i64) [(.s 35), (.s 36), (.s 9)]⟩, ⟨(some 10), none, .mov (.s 37)⟩])
 (.seq (.reg [⟨(some 38), none, .mov (.s 0)⟩, ⟨(some 39), none, .mov (.s 11)⟩, ⟨(some 40), none, .call false 127 (.int .i64) [(.s 38), (.s 39), (.s 9)]⟩, ⟨(some 11), none, .mov (.s 40)⟩])
 (.reg [⟨(some 41), none, .mov (.s 0)⟩, ⟨(some 42), none, .mov (.s 12)⟩, ⟨(some 43), none, .call false 127 (.int .i64) [(.s 41), (.s 42), (.s 9)]⟩, ⟨(some 12), none, .mov (.s 43)⟩])))
 .skip))
 (.reg [⟨(some 44), none, .mov (.s 0)⟩, ⟨(some 45), none, .mov (.s 10)⟩, ⟨(some 46), none, .mov (.s 11)⟩, ⟨(some 47), none, .mov (.s 12)⟩, ⟨(some 48), none, .call false 128 (.int .i64) [(.s 44), (.s 45), (.s 46), (.s 47), (.s 9)]⟩, ⟨(some 11), none, .mov (.s 48)⟩]))
 .skip))
 (.seq (.reg [⟨(some 49), none, .ld (.int .i64) (.s 9)⟩])
 (.block 0 (.seq (.reg [⟨(some 52), none, .bin .eql (.s 49) (.c (.t (.int .i64 0)))⟩, ⟨(some 51), none, .mov (.s 52)⟩])
 (.cond (.s 51)
 (.seq (.reg [⟨(some 53), none, .mov (.s 11)⟩, ⟨(some 6), none, .mov (.s 53)⟩, ⟨(some 7), none, .mov (.c (.t (.int .i64 1)))⟩])
 .ret)
 (.seq (.reg [⟨(some 55), none, .bin .eql (.s 49) (.c (.t (.int .i64 12)))⟩, ⟨(some 54), none, .mov (.s 55)⟩])
 (.cond (.s 54)
 (.seq (.reg [⟨(some 56), none, .mov (.s 11)⟩, ⟨(some 6), none, .mov (.s 56)⟩, ⟨(some 7), none, .mov (.c (.t (.int .i64 2)))⟩])
 .ret)
 (.seq (.reg [⟨(some 50), none, .mov (.s 11)⟩, ⟨(some 6), none, .mov (.s 50)⟩, ⟨(some 7), none, .mov (.c (.t (.int .i64 0)))⟩])
 .ret)))))))))))))),
 [.slot 6, .slot 7]⟩
theorem ok115 : compF Try.prog 115 [] [] = some ir115 := by kernel_rfl

/-- slices.reverseRangeOrdered[int] -/
def ir116 : FInfo := ⟨32,
 (.seq (.reg [⟨(some 8), none, .mov (.s 1)⟩, ⟨(some 6), none, .mov (.s 8)⟩])
 (.seq (.reg [⟨(some 9), none, .mov (.s 2)⟩, ⟨(some 10), none, .bin .sub (.s 9) (.c (.t (.int .i64 1)))⟩, ⟨(some 7), none, .mov (.s 10)⟩])
 (.block 0 (.loop [0, 6, 7] (.seq (.seq (.reg [⟨(some 11), none, .mov (.s 6)⟩, ⟨(some 12), none, .mov (.s 7)⟩, ⟨(some 13), none, .bin .lss (.s 11) (.s 12)⟩])
 (.cond (.s 13)
 .skip
 (.exit 0)))
 (.block 1 (.seq (.dreg [⟨(some 14), none, .mov (.s 0)⟩, ⟨(some 15), none, .mov (.s 6)⟩, ⟨(some 16), none, .mov (.s 0)⟩, ⟨(some 17), none, .mov (.s 7)⟩, ⟨(some 18), none, .mov (.s 0)⟩, ⟨(some 19), none, .mov (.s 7)⟩, ⟨(some 20), none, .ia (.int .i64) (.s 18) (.s 19)⟩, ⟨(some 21), none, .ld (.int .i64) (.s 20)⟩, ⟨(some 22), none, .mov (.s 0)⟩, ⟨(some 23), none, .mov (.s 6)⟩, ⟨(some 24), none, .ia (.int .i64) (.s 22) (.s 23)⟩, ⟨(some 25), none, .ld (.int .i64) (.s 24)⟩, ⟨(some 26), none, .ia (.int .i64) (.s 14) (.s 15)⟩, ⟨none, none, .st (.int .i64) (.s 26) (.s 21)⟩, ⟨(some 27), none, .ia (.int .i64) (.s 16) (.s 17)⟩, ⟨none, none, .st (.int .i64) (.s 27) (.s 25)⟩] [0, 0, 0, 0, 0, 0, 48, 112, 0, 0, 768, 1792, 4083, 8179, 16383, 32767])
 (.seq (.reg [⟨(some 28), none, .mov (.s 6)⟩, ⟨(some 29), none, .bin .add (.s 28) (.c (.t (.int .i64 1)))⟩, ⟨(some 6), none, .mov (.s 29)⟩])
 (.reg [⟨(some 30), none, .mov (.s 7)⟩, ⟨(some 31), none, .bin .sub (.s 30) (.c (.t (.int .i64 1)))⟩, ⟨(some 7), none, .mov (.s 31)⟩]))))))))),
 []⟩
theorem ok116 : compF Try.prog 116 [[0, 6, 7]] [] = some ir116 := by kernel_rfl

/-- slices.partialInsertionSortOrdered[int] -/
def ir117 : FInfo := ⟨133,
 (.seq (.reg [⟨(some 6), none, .mov (.c (.t (.bool false)))⟩])
 (.seq (.reg [⟨(some 11), none, .mov (.s 1)⟩, ⟨(some 12), none, .bin .add (.s 11) (.c (.t (.int .i64 1)))⟩, ⟨(some 7), none, .mov (.s 12)⟩])
 (.seq (.seq (.reg [⟨(some 8), none, .mov (.c (.t (.int .i64 0)))⟩])
 (.block 0 (.loop [0, 1, 2, 7, 8] (.seq (.seq (.reg [⟨(some 13), none, .mov (.s 8)⟩, ⟨(some 14), none, .bin .lss (.s 13) (.c (.t (.int .i64 5)))⟩])
 (.cond (.s 14)
 .skip
 (.exit 0)))
 (.seq (.block 1 (.seq (.block 2 (.loop [0, 1, 2, 7, 8] (.seq (.seq (.dreg [⟨(some 17), none, .mov (.s 7)⟩, ⟨(some 18), none, .mov (.s 2)⟩, ⟨(some 19), none, .bin .lss (.s 17) (.s 18)⟩, ⟨(some 20), none, .mov (.s 19)⟩, ⟨(some 21), (some (20, true)), .mov (.s 0)⟩, ⟨(some 22), (some (20, true)), .mov (.s 7)⟩, ⟨(some 23), (some (20, true)), .ia (.int .i64) (.s 21) (.s 22)⟩, ⟨(some 24), (some (20, true)), .ld (.int .i64) (.s 23)⟩, ⟨(some 25), (some (20, true)), .mov (.s 0)⟩, ⟨(some 26), (some (20, true)), .mov (.s 7)⟩, ⟨(some 27), (some (20, true)), .bin .sub (.s 26) (.c (.t (.int .i64 1)))⟩, ⟨(some 28), (some (20, true)), .ia (.int .i64) (.s 25) (.s 27)⟩, ⟨(some 29), (some (20, true)), .ld (.int .i64) (.s 28)⟩, ⟨(some 30), (some (20, true)), .call false 118 .bool [(.s 24), (.s 29)]⟩, ⟨(some 31), (some (20, true)), .un .not (.s 30)⟩, ⟨(some 32), none, .pick (.s 20) (.s 31) (.c (.t (.bool false)))⟩] [0, 0, 3, 7, 15, 15, 63, 127, 15, 15, 527, 1807, 3855, 8191, 16383, 32767])
 (.cond (.s 32)
 .skip
 (.exit 2)))
 (.block 3 (.reg [⟨(some 33), none, .mov (.s 7)⟩, ⟨(some 34), none, .bin .add (.s 33) (.c (.t (.int .i64 1)))⟩, ⟨(some 7), none, .mov (.s 34)⟩])))))
 (.seq (.seq (.reg [⟨(some 35), none, .mov (.s 7)⟩, ⟨(some 36), none, .mov (.s 2)⟩, ⟨(some 37), none, .bin .eql (.s 35) (.s 36)⟩])
 (.cond (.s 37)
 (.seq (.reg [⟨(some 6), none, .mov (.c (.t (.bool true)))⟩])
 .ret)
 .skip))
 (.seq (.seq (.reg [⟨(some 38), none, .mov (.s 2)⟩, ⟨(some 39), none, .mov (.s 1)⟩, ⟨(some 40), none, .bin .sub (.s 38) (.s 39)⟩, ⟨(some 41), none, .bin .lss (.s 40) (.c (.t (.int .i64 50)))⟩])
 (.cond (.s 41)
 (.seq (.reg [⟨(some 6), none, .mov (.c (.t (.bool false)))⟩])
 .ret)
 .skip))
 (.seq (.dreg [⟨(some 42), none, .mov (.s 0)⟩, ⟨(some 43), none, .mov (.s 7)⟩, ⟨(some 44), none, .mov (.s 0)⟩, ⟨(some 45), none, .mov (.s 7)⟩, ⟨(some 46), none, .bin .sub (.s 45) (.c (.t (.int .i64 1)))⟩, ⟨(some 47), none, .mov (.s 0)⟩, ⟨(some 48), none, .mov (.s 7)⟩, ⟨(some 49), none, .bin .sub (.s 48) (.c (.t (.int .i64 1)))⟩, ⟨(some 50), none, .ia (.int .i64) (.s 47) (.s 49)⟩, ⟨(some 51), none, .ld (.int .i64) (.s 50)⟩, ⟨(some 52), none, .mov (.s 0)⟩, ⟨(some 53), none, .mov (.s 7)⟩, ⟨(some 54), none, .ia (.int .i64) (.s 52) (.s 53)⟩, ⟨(some 55), none, .ld (.int .i64) (.s 54)⟩, ⟨(some 56), none, .ia (.int .i64) (.s 42) (.s 43)⟩, ⟨none, none, .st (.int .i64) (.s 56) (.s 51)⟩, ⟨(some 57), none, .ia (.int .i64) (.s 44) (.s 46)⟩, ⟨none, none, .st (.int .i64) (.s 57) (.s 55)⟩] [0, 0, 0, 0, 8, 0, 0, 64, 224, 480, 0, 0, 3072, 7168, 16355, 32739, 65535, 131071])
 (.seq (.seq (.reg [⟨(some 58), none, .mov (.s 7)⟩, ⟨(some 59), none, .mov (.s 1)⟩, ⟨(some 60), none, .bin .sub (.s 58) (.s 59)⟩, ⟨(some 61), none, .bin .geq (.s 60) (.c (.t (.int .i64 2)))⟩])
 (.cond (.s 61)
 (.seq (.reg [⟨(some 62), none, .mov (.s 7)⟩, ⟨(some 63), none, .bin .sub (.s 62) (.c (.t (.int .i64 1)))⟩, ⟨(some 9), none, .mov (.s 63)⟩])
 (.block 4 (.loop [0, 1, 2, 7, 8, 9] (.seq (.seq (.reg [⟨(some 64), none, .mov (.s 9)⟩, ⟨(some 65), none, .bin .geq (.s 64) (.c (.t (.int .i64 1)))⟩])
 (.cond (.s 65)
 .skip
 (.exit 4)))
 (.seq (.block 5 (.seq (.seq (.dreg [⟨(some 68), none, .mov (.s 0)⟩, ⟨(some 69), none, .mov (.s 9)⟩, ⟨(some 70), none, .ia (.int .i64) (.s 68) (.s 69)⟩, ⟨(some 71), none, .ld (.int .i64) (.s 70)⟩, ⟨(some 72), none, .mov (.s 0)⟩, ⟨(some 73), none, .mov (.s 9)⟩, ⟨(some 74), none, .bin .sub (.s 73) (.c (.t (.int .i64 1)))⟩, ⟨(some 75), none, .ia (.int .i64) (.s 72) (.s 74)⟩, ⟨(some 76), none, .ld (.int .i64) (.s 75)⟩, ⟨(some 77), none, .call false 118 .bool [(.s 71), (.s 76)]⟩, ⟨(some 78), none, .un .not (.s 77)⟩] [0, 0, 3, 7, 0, 0, 32, 112, 240, 511, 1023])
 (.cond (.s 78)
 (.exit 4)
 .skip))
 (.dreg [⟨(some 79), none, .mov (.s 0)⟩, ⟨(some 80), none, .mov (.s 9)⟩, ⟨(some 81), none, .mov (.s 0)⟩, ⟨(some 82), none, .mov (.s 9)⟩, ⟨(some 83), none, .bin .sub (.s 82) (.c (.t (.int .i64 1)))⟩, ⟨(some 84), none, .mov (.s 0)⟩, ⟨(some 85), none, .mov (.s 9)⟩, ⟨(some 86), none, .bin .sub (.s 85) (.c (.t (.int .i64 1)))⟩, ⟨(some 87), none, .ia (.int .i64) (.s 84) (.s 86)⟩, ⟨(some 88), none, .ld (.int .i64) (.s 87)⟩, ⟨(some 89), none, .mov (.s 0)⟩, ⟨(some 90), none, .mov (.s 9)⟩, ⟨(some 91), none, .ia (.int .i64) (.s 89) (.s 90)⟩, ⟨(some 92), none, .ld (.int .i64) (.s 91)⟩, ⟨(some 93), none, .ia (.int .i64) (.s 79) (.s 80)⟩, ⟨none, none, .st (.int .i64) (.s 93) (.s 88)⟩, ⟨(some 94), none, .ia (.int .i64) (.s 81) (.s 83)⟩, ⟨none, none, .st (.int .i64) (.s 94) (.s 92)⟩] [0, 0, 0, 0, 8, 0, 0, 64, 224, 480, 0, 0, 3072, 7168, 16355, 32739, 65535, 131071])))
 (.reg [⟨(some 66), none, .mov (.s 9)⟩, ⟨(some 67), none, .bin .sub (.s 66) (.c (.t (.int .i64 1)))⟩, ⟨(some 9), none, .mov (.s 67)⟩]))))))
 .skip))
 (.seq (.reg [⟨(some 95), none, .mov (.s 2)⟩, ⟨(some 96), none, .mov (.s 7)⟩, ⟨(some 97), none, .bin .sub (.s 95) (.s 96)⟩, ⟨(some 98), none, .bin .geq (.s 97) (.c (.t (.int .i64 2)))⟩])
 (.cond (.s 98)
 (.seq (.reg [⟨(some 99), none, .mov (.s 7)⟩, ⟨(some 100), none, .bin .add (.s 99) (.c (.t (.int .i64 1)))⟩, ⟨(some 10), none, .mov (.s 100)⟩])
 (.block 6 (.loop [0, 1, 2, 7, 8, 10] (.seq (.seq (.reg [⟨(some 101), none, .mov (.s 10)⟩, ⟨(some 102), none, .mov (.s 2)⟩, ⟨(some 103), none, .bin .lss (.s 101) (.s 102)⟩])
 (.cond (.s 103)
 .skip
 (.exit 6)))
 (.seq (.block 7 (.seq (.seq (.dreg [⟨(some 106), none, .mov (.s 0)⟩, ⟨(some 107), none, .mov (.s 10)⟩, ⟨(some 108), none, .ia (.int .i64) (.s 106) (.s 107)⟩, ⟨(some 109), none, .ld (.int .i64) (.s 108)⟩, ⟨(some 110), none, .mov (.s 0)⟩, ⟨(some 111), none, .mov (.s 10)⟩, ⟨(some 112), none, .bin .sub (.s 111) (.c (.t (.int .i64 1)))⟩, ⟨(some 113), none, .ia (.int .i64) (.s 110) (.s 112)⟩, ⟨(some 114), none, .ld (.int .i64) (.s 113)⟩, ⟨(some 115), none, .call false 118 .bool [(.s 109), (.s 114)]⟩, ⟨(some 116), none, .un .not (.s 115)⟩] [0, 0, 3, 7, 0, 0, 32, 112, 240, 511, 1023])
 (.cond (.s 116)
 (.exit 6)
 .skip))
 (.dreg [⟨(some 117), none, .mov (.s 0)⟩, ⟨(some 118), none, .mov (.s 10)⟩, ⟨(some 119), none, .mov (.s 0)⟩, ⟨(some 120), none, .mov (.s 10)⟩, ⟨(some 121), none, .bin .sub (.s 120) (.c (.t (.int .i64 1)))⟩, ⟨(some 122), none, .mov (.s 0)⟩, ⟨(some 123), none, .mov (.s 10)⟩, ⟨(some 124), none, .bin .sub (.s 123) (.c (.t (.int .i64 1)))⟩, ⟨(some 125), none, .ia (.int .i64) (.s 122) (.s 124)⟩, ⟨(some 126), none, .ld (.int .i64) (.s 125)⟩, ⟨(some 127), none, .mov (.s 0)⟩, ⟨(some 128), none, .mov (.s 10)⟩, ⟨(some 129), none, .ia (.int .i64) (.s 127) (.s 128)⟩, ⟨(some 130), none, .ld (.int .i64) (.s 129)⟩, ⟨(some 131), none, .ia (.int .i64) (.s 117) (.s 118)⟩, ⟨none, none, .st (.int .i64) (.s 131) (.s 126)⟩, ⟨(some 132), none, .ia (.int .i64) (.s 119) (.s 121)⟩, ⟨none, none, .st (.int .i64) (.s 132) (.s 130)⟩] [0, 0, 0, 0, 8, 0, 0, 64, 224, 480, 0, 0, 3072, 7168, 16355, 32739, 65535, 131071])))
 (.reg [⟨(some 104), none, .mov (.s 10)⟩, ⟨(some 105), none, .bin .add (.s 104) (.c (.t (.int .i64 1)))⟩, ⟨(some 10), none, .mov (.s 105)⟩]))))))
 .skip))))))))
 (.reg [⟨(some 15), none, .mov (.s 8)⟩, ⟨(some 16), none, .bin .add (.s 15) (.c (.t (.int .i64 1)))⟩, ⟨(some 8), none, .mov (.s 16)⟩]))))))
 (.seq (.reg [⟨(some 6), none, .mov (.c (.t (.bool false)))⟩])
 .ret)))),
 [.slot 6]⟩
theorem ok117 : compF Try.prog 117 [[0, 1, 2, 7, 8], [0, 1, 2, 7, 8], [0, 1, 2, 7, 8, 9], [0, 1, 2, 7, 8, 10]] [] = some ir117 := by kernel_rfl

/-- cmp.Less[int] -/
def ir118 : FInfo := ⟨17,
 (.seq (.reg [⟨(some 4), none, .mov (.c (.t (.bool false)))⟩])
 (.seq (.reg [⟨(some 5), none, .mov (.s 0)⟩, ⟨(some 6), none, .call false 129 .bool [(.s 5)]⟩, ⟨(some 7), none, .mov (.s 6)⟩, ⟨(some 8), (some (7, true)), .mov (.s 1)⟩, ⟨(some 9), (some (7, true)), .call false 129 .bool [(.s 8)]⟩, ⟨(some 10), (some (7, true)), .un .not (.s 9)⟩, ⟨(some 11), none, .pick (.s 7) (.s 10) (.c (.t (.bool false)))⟩, ⟨(some 12), none, .mov (.s 11)⟩, ⟨(some 13), (some (12, false)), .mov (.s 0)⟩, ⟨(some 14), (some (12, false)), .mov (.s 1)⟩, ⟨(some 15), (some (12, false)), .bin .lss (.s 13) (.s 14)⟩, ⟨(some 16), none, .pick (.s 12) (.c (.t (.bool true))) (.s 15)⟩, ⟨(some 4), none, .mov (.s 16)⟩])
 .ret)),
 [.slot 4]⟩
theorem ok118 : compF Try.prog 118 [] [] = some ir118 := by kernel_rfl

/-- slices.partitionEqualOrdered[int] -/
def ir119 : FInfo := ⟨84,
 (.seq (.reg [⟨(some 8), none, .mov (.c (.t (.int .i64 0)))⟩])
 (.seq (.dreg [⟨(some 11), none, .mov (.s 0)⟩, ⟨(some 12), none, .mov (.s 1)⟩, ⟨(some 13), none, .mov (.s 0)⟩, ⟨(some 14), none, .mov (.s 3)⟩, ⟨(some 15), none, .mov (.s 0)⟩, ⟨(some 16), none, .mov (.s 3)⟩, ⟨(some 17), none, .ia (.int .i64) (.s 15) (.s 16)⟩, ⟨(some 18), none, .ld (.int .i64) (.s 17)⟩, ⟨(some 19), none, .mov (.s 0)⟩, ⟨(some 20), none, .mov (.s 1)⟩, ⟨(some 21), none, .ia (.int .i64) (.s 19) (.s 20)⟩, ⟨(some 22), none, .ld (.int .i64) (.s 21)⟩, ⟨(some 23), none, .ia (.int .i64) (.s 11) (.s 12)⟩, ⟨none, none, .st (.int .i64) (.s 23) (.s 18)⟩, ⟨(some 24), none, .ia (.int .i64) (.s 13) (.s 14)⟩, ⟨none, none, .st (.int .i64) (.s 24) (.s 22)⟩] [0, 0, 0, 0, 0, 0, 48, 112, 0, 0, 768, 1792, 4083, 8179, 16383, 32767])
 (.seq (.reg [⟨(some 25), none, .mov (.s 1)⟩, ⟨(some 26), none, .bin .add (.s 25) (.c (.t (.int .i64 1)))⟩, ⟨(some 27), none, .mov (.s 2)⟩, ⟨(some 28), none, .bin .sub (.s 27) (.c (.t (.int .i64 1)))⟩, ⟨(some 9), none, .mov (.s 26)⟩, ⟨(some 10), none, .mov (.s 28)⟩])
 (.seq (.block 0 (.loop [0, 1, 9, 10] (.block 1 (.seq (.block 2 (.loop [0, 1, 9, 10] (.seq (.seq (.dreg [⟨(some 29), none, .mov (.s 9)⟩, ⟨(some 30), none, .mov (.s 10)⟩, ⟨(some 31), none, .bin .leq (.s 29) (.s 30)⟩, ⟨(some 32), none, .mov (.s 31)⟩, ⟨(some 33), (some (32, true)), .mov (.s 0)⟩, ⟨(some 34), (some (32, true)), .mov (.s 1)⟩, ⟨(some 35), (some (32, true)), .ia (.int .i64) (.s 33) (.s 34)⟩, ⟨(some 36), (some (32, true)), .ld (.int .i64) (.s 35)⟩, ⟨(some 37), (some (32, true)), .mov (.s 0)⟩, ⟨(some 38), (some (32, true)), .mov (.s 9)⟩, ⟨(some 39), (some (32, true)), .ia (.int .i64) (.s 37) (.s 38)⟩, ⟨(some 40), (some (32, true)), .ld (.int .i64) (.s 39)⟩, ⟨(some 41), (some (32, true)), .call false 118 .bool [(.s 36), (.s 40)]⟩, ⟨(some 42), (some (32, true)), .un .not (.s 41)⟩, ⟨(some 43), none, .pick (.s 32) (.s 42) (.c (.t (.bool false)))⟩] [0, 0, 3, 7, 15, 15, 63, 127, 15, 15, 783, 1807, 4095, 8191, 16383])
 (.cond (.s 43)
 .skip
 (.exit 2)))
 (.block 3 (.reg [⟨(some 44), none, .mov (.s 9)⟩, ⟨(some 45), none, .bin .add (.s 44) (.c (.t (.int .i64 1)))⟩, ⟨(some 9), none, .mov (.s 45)⟩])))))
 (.seq (.block 4 (.loop [0, 1, 9, 10] (.seq (.seq (.dreg [⟨(some 46), none, .mov (.s 9)⟩, ⟨(some 47), none, .mov (.s 10)⟩, ⟨(some 48), none, .bin .leq (.s 46) (.s 47)⟩, ⟨(some 49), none, .mov (.s 48)⟩, ⟨(some 50), (some (49, true)), .mov (.s 0)⟩, ⟨(some 51), (some (49, true)), .mov (.s 1)⟩, ⟨(some 52), (some (49, true)), .ia (.int .i64) (.s 50) (.s 51)⟩, ⟨(some 53), (some (49, true)), .ld (.int .i64) (.s 52)⟩, ⟨(some 54), (some (49, true)), .mov (.s 0)⟩, ⟨(some 55), (some (49, true)), .mov (.s 10)⟩, ⟨(some 56), (some (49, true)), .ia (.int .i64) (.s 54) (.s 55)⟩, ⟨(some 57), (some (49, true)), .ld (.int .i64) (.s 56)⟩, ⟨(some 58), (some (49, true)), .call false 118 .bool [(.s 53), (.s 57)]⟩, ⟨(some 59), none, .pick (.s 49) (.s 58) (.c (.t (.bool false)))⟩] [0, 0, 3, 7, 15, 15, 63, 127, 15, 15, 783, 1807, 4095, 8191])
 (.cond (.s 59)
 .skip
 (.exit 4)))
 (.block 5 (.reg [⟨(some 60), none, .mov (.s 10)⟩, ⟨(some 61), none, .bin .sub (.s 60) (.c (.t (.int .i64 1)))⟩, ⟨(some 10), none, .mov (.s 61)⟩])))))
 (.seq (.seq (.reg [⟨(some 62), none, .mov (.s 9)⟩, ⟨(some 63), none, .mov (.s 10)⟩, ⟨(some 64), none, .bin .gtr (.s 62) (.s 63)⟩])
 (.cond (.s 64)
 (.exit 0)
 .skip))
 (.seq (.dreg [⟨(some 65), none, .mov (.s 0)⟩, ⟨(some 66), none, .mov (.s 9)⟩, ⟨(some 67), none, .mov (.s 0)⟩, ⟨(some 68), none, .mov (.s 10)⟩, ⟨(some 69), none, .mov (.s 0)⟩, ⟨(some 70), none, .mov (.s 10)⟩, ⟨(some 71), none, .ia (.int .i64) (.s 69) (.s 70)⟩, ⟨(some 72), none, .ld (.int .i64) (.s 71)⟩, ⟨(some 73), none, .mov (.s 0)⟩, ⟨(some 74), none, .mov (.s 9)⟩, ⟨(some 75), none, .ia (.int .i64) (.s 73) (.s 74)⟩, ⟨(some 76), none, .ld (.int .i64) (.s 75)⟩, ⟨(some 77), none, .ia (.int .i64) (.s 65) (.s 66)⟩, ⟨none, none, .st (.int .i64) (.s 77) (.s 72)⟩, ⟨(some 78), none, .ia (.int .i64) (.s 67) (.s 68)⟩, ⟨none, none, .st (.int .i64) (.s 78) (.s 76)⟩] [0, 0, 0, 0, 0, 0, 48, 112, 0, 0, 768, 1792, 4083, 8179, 16383, 32767])
 (.seq (.reg [⟨(some 79), none, .mov (.s 9)⟩, ⟨(some 80), none, .bin .add (.s 79) (.c (.t (.int .i64 1)))⟩, ⟨(some 9), none, .mov (.s 80)⟩])
 (.reg [⟨(some 81), none, .mov (.s 10)⟩, ⟨(some 82), none, .bin .sub (.s 81) (.c (.t (.int .i64 1)))⟩, ⟨(some 10), none, .mov (.s 82)⟩])))))))))
 (.seq (.reg [⟨(some 83), none, .mov (.s 9)⟩, ⟨(some 8), none, .mov (.s 83)⟩])
 .ret))))),
 [.slot 8]⟩
theorem ok119 : compF Try.prog 119 [[0, 1, 9, 10], [0, 1, 9, 10], [0, 1, 9, 10]] [] = some ir119 := by kernel_rfl

/-- slices.partitionOrdered[int] -/
def ir120 : FInfo := ⟨168,
 (.seq (.reg [⟨(some 8), none, .mov (.c (.t (.int .i64 0)))⟩, ⟨(some 9), none, .mov (.c (.t (.bool false)))⟩])
 (.seq (.dreg [⟨(some 12), none, .mov (.s 0)⟩, ⟨(some 13), none, .mov (.s 1)⟩, ⟨(some 14), none, .mov (.s 0)⟩, ⟨(some 15), none, .mov (.s 3)⟩, ⟨(some 16), none, .mov (.s 0)⟩, ⟨(some 17), none, .mov (.s 3)⟩, ⟨(some 18), none, .ia (.int .i64) (.s 16) (.s 17)⟩, ⟨(some 19), none, .ld (.int .i64) (.s 18)⟩, ⟨(some 20), none, .mov (.s 0)⟩, ⟨(some 21), none, .mov (.s 1)⟩, ⟨(some 22), none, .ia (.int .i64) (.s 20) (.s 21)⟩, ⟨(some 23), none, .ld (.int .i64) (.s 22)⟩, ⟨(some 24), none, .ia (.int .i64) (.s 12) (.s 13)⟩, ⟨none, none, .st (.int .i64) (.s 24) (.s 19)⟩, ⟨(some 25), none, .ia (.int .i64) (.s 14) (.s 15)⟩, ⟨none, none, .st (.int .i64) (.s 25) (.s 23)⟩] [0, 0, 0, 0, 0, 0, 48, 112, 0, 0, 768, 1792, 4083, 8179, 16383, 32767])
 (.seq (.reg [⟨(some 26), none, .mov (.s 1)⟩, ⟨(some 27), none, .bin .add (.s 26) (.c (.t (.int .i64 1)))⟩, ⟨(some 28), none, .mov (.s 2)⟩, ⟨(some 29), none, .bin .sub (.s 28) (.c (.t (.int .i64 1)))⟩, ⟨(some 10), none, .mov (.s 27)⟩, ⟨(some 11), none, .mov (.s 29)⟩])
 (.seq (.block 0 (.loop [0, 1, 10, 11] (.seq (.seq (.dreg [⟨(some 30), none, .mov (.s 10)⟩, ⟨(some 31), none, .mov (.s 11)⟩, ⟨(some 32), none, .bin .leq (.s 30) (.s 31)⟩, ⟨(some 33), none, .mov (.s 32)⟩, ⟨(some 34), (some (33, true)), .mov (.s 0)⟩, ⟨(some 35), (some (33, true)), .mov (.s 10)⟩, ⟨(some 36), (some (33, true)), .ia (.int .i64) (.s 34) (.s 35)⟩, ⟨(some 37), (some (33, true)), .ld (.int .i64) (.s 36)⟩, ⟨(some 38), (some (33, true)), .mov (.s 0)⟩, ⟨(some 39), (some (33, true)), .mov (.s 1)⟩, ⟨(some 40), (some (33, true)), .ia (.int .i64) (.s 38) (.s 39)⟩, ⟨(some 41), (some (33, true)), .ld (.int .i64) (.s 40)⟩, ⟨(some 42), (some (33, true)), .call false 118 .bool [(.s 37), (.s 41)]⟩, ⟨(some 43), none, .pick (.s 33) (.s 42) (.c (.t (.bool false)))⟩] [0, 0, 3, 7, 15, 15, 63, 127, 15, 15, 783, 1807, 4095, 8191])
 (.cond (.s 43)
 .skip
 (.exit 0)))
 (.block 1 (.reg [⟨(some 44), none, .mov (.s 10)⟩, ⟨(some 45), none, .bin .add (.s 44) (.c (.t (.int .i64 1)))⟩, ⟨(some 10), none, .mov (.s 45)⟩])))))
 (.seq (.block 2 (.loop [0, 1, 10, 11] (.seq (.seq (.dreg [⟨(some 46), none, .mov (.s 10)⟩, ⟨(some 47), none, .mov (.s 11)⟩, ⟨(some 48), none, .bin .leq (.s 46) (.s 47)⟩, ⟨(some 49), none, .mov (.s 48)⟩, ⟨(some 50), (some (49, true)), .mov (.s 0)⟩, ⟨(some 51), (some (49, true)), .mov (.s 11)⟩, ⟨(some 52), (some (49, true)), .ia (.int .i64) (.s 50) (.s 51)⟩, ⟨(some 53), (some (49, true)), .ld (.int .i64) (.s 52)⟩, ⟨(some 54), (some (49, true)), .mov (.s 0)⟩, ⟨(some 55), (some (49, true)), .mov (.s 1)⟩, ⟨(some 56), (some (49, true)), .ia (.int .i64) (.s 54) (.s 55)⟩, ⟨(some 57), (some (49, true)), .ld (.int .i64) (.s 56)⟩, ⟨(some 58), (some (49, true)), .call false 118 .bool [(.s 53), (.s 57)]⟩, ⟨(some 59), (some (49, true)), .un .not (.s 58)⟩, ⟨(some 60), none, .pick (.s 49) (.s 59) (.c (.t (.bool false)))⟩] [0, 0, 3, 7, 15, 15, 63, 127, 15, 15, 783, 1807, 4095, 8191, 16383])
 (.cond (.s 60)
 .skip
 (.exit 2)))
 (.block 3 (.reg [⟨(some 61), none, .mov (.s 11)⟩, ⟨(some 62), none, .bin .sub (.s 61) (.c (.t (.int .i64 1)))⟩, ⟨(some 11), none, .mov (.s 62)⟩])))))
 (.seq (.seq (.reg [⟨(some 63), none, .mov (.s 10)⟩, ⟨(some 64), none, .mov (.s 11)⟩, ⟨(some 65), none, .bin .gtr (.s 63) (.s 64)⟩])
 (.cond (.s 65)
 (.seq (.dreg [⟨(some 66), none, .mov (.s 0)⟩, ⟨(some 67), none, .mov (.s 11)⟩, ⟨(some 68), none, .mov (.s 0)⟩, ⟨(some 69), none, .mov (.s 1)⟩, ⟨(some 70), none, .mov (.s 0)⟩, ⟨(some 71), none, .mov (.s 1)⟩, ⟨(some 72), none, .ia (.int .i64) (.s 70) (.s 71)⟩, ⟨(some 73), none, .ld (.int .i64) (.s 72)⟩, ⟨(some 74), none, .mov (.s 0)⟩, ⟨(some 75), none, .mov (.s 11)⟩, ⟨(some 76), none, .ia (.int .i64) (.s 74) (.s 75)⟩, ⟨(some 77), none, .ld (.int .i64) (.s 76)⟩, ⟨(some 78), none, .ia (.int .i64) (.s 66) (.s 67)⟩, ⟨none, none, .st (.int .i64) (.s 78) (.s 73)⟩, ⟨(some 79), none, .ia (.int .i64) (.s 68) (.s 69)⟩, ⟨none, none, .st (.int .i64) (.s 79) (.s 77)⟩] [0, 0, 0, 0, 0, 0, 48, 112, 0, 0, 768, 1792, 4083, 8179, 16383, 32767])
 (.seq (.reg [⟨(some 80), none, .mov (.s 11)⟩, ⟨(some 8), none, .mov (.s 80)⟩, ⟨(some 9), none, .mov (.c (.t (.bool true)))⟩])
 .ret))
 .skip))
 (.seq (.dreg [⟨(some 81), none, .mov (.s 0)⟩, ⟨(some 82), none, .mov (.s 10)⟩, ⟨(some 83), none, .mov (.s 0)⟩, ⟨(some 84), none, .mov (.s 11)⟩, ⟨(some 85), none, .mov (.s 0)⟩, ⟨(some 86), none, .mov (.s 11)⟩, ⟨(some 87), none, .ia (.int .i64) (.s 85) (.s 86)⟩, ⟨(some 88), none, .ld (.int .i64) (.s 87)⟩, ⟨(some 89), none, .mov (.s 0)⟩, ⟨(some 90), none, .mov (.s 10)⟩, ⟨(some 91), none, .ia (.int .i64) (.s 89) (.s 90)⟩, ⟨(some 92), none, .ld (.int .i64) (.s 91)⟩, ⟨(some 93), none, .ia (.int .i64) (.s 81) (.s 82)⟩, ⟨none, none, .st (.int .i64) (.s 93) (.s 88)⟩, ⟨(some 94), none, .ia (.int .i64) (.s 83) (.s 84)⟩, ⟨none, none, .st (.int .i64) (.s 94) (.s 92)⟩] [0, 0, 0, 0, 0, 0, 48, 112, 0, 0, 768, 1792, 4083, 8179, 16383, 32767])
 (.seq (.reg [⟨(some 95), none, .mov (.s 10)⟩, ⟨(some 96), none, .bin .add (.s 95) (.c (.t (.int .i64 1)))⟩, ⟨(some 10), none, .mov (.s 96)⟩])
 (.seq (.reg [⟨(some 97), none, .mov (.s 11)⟩, ⟨(some 98), none, .bin .sub (.s 97) (.c (.t (.int .i64 1)))⟩, ⟨(some 11), none, .mov (.s 98)⟩])
 (.seq (.block 4 (.loop [0, 1, 10, 11] (.block 5 (.seq (.block 6 (.loop [0, 1, 10, 11] (.seq (.seq (.dreg [⟨(some 99), none, .mov (.s 10)⟩, ⟨(some 100), none, .mov (.s 11)⟩, ⟨(some 101), none, .bin .leq (.s 99) (.s 100)⟩, ⟨(some 102), none, .mov (.s 101)⟩, ⟨(some 103), (some (102, true)), .mov (.s 0)⟩, ⟨(some 104), (some (102, true)), .mov (.s 10)⟩, ⟨(some 105), (some (102, true)), .ia (.int .i64) (.s 103) (.s 104)⟩, ⟨(some 106), (some (102, true)), .ld (.int .i64) (.s 105)⟩, ⟨(some 107), (some (102, true)), .mov (.s 0)⟩, ⟨(some 108), (some (102, true)), .mov (.s 1)⟩, ⟨(some 109), (some (102, true)), .ia (.int .i64) (.s 107) (.s 108)⟩, ⟨(some 110), (some (102, true)), .ld (.int .i64) (.s 109)⟩, ⟨(some 111), (some (102, true)), .call false 118 .bool [(.s 106), (.s 110)]⟩, ⟨(some 112), none, .pick (.s 102) (.s 111) (.c (.t (.bool false)))⟩] [0, 0, 3, 7, 15, 15, 63, 127, 15, 15, 783, 1807, 4095, 8191])
 (.cond (.s 112)
 .skip
 (.exit 6)))
 (.block 7 (.reg [⟨(some 113), none, .mov (.s 10)⟩, ⟨(some 114), none, .bin .add (.s 113) (.c (.t (.int .i64 1)))⟩, ⟨(some 10), none, .mov (.s 114)⟩])))))
 (.seq (.block 8 (.loop [0, 1, 10, 11] (.seq (.seq (.dreg [⟨(some 115), none, .mov (.s 10)⟩, ⟨(some 116), none, .mov (.s 11)⟩, ⟨(some 117), none, .bin .leq (.s 115) (.s 116)⟩, ⟨(some 118), none, .mov (.s 117)⟩, ⟨(some 119), (some (118, true)), .mov (.s 0)⟩, ⟨(some 120), (some (118, true)), .mov (.s 11)⟩, ⟨(some 121), (some (118, true)), .ia (.int .i64) (.s 119) (.s 120)⟩, ⟨(some 122), (some (118, true)), .ld (.int .i64) (.s 121)⟩, ⟨(some 123), (some (118, true)), .mov (.s 0)⟩, ⟨(some 124), (some (118, true)), .mov (.s 1)⟩, ⟨(some 125), (some (118, true)), .ia (.int .i64) (.s 123) (.s 124)⟩, ⟨(some 126), (some (118, true)), .ld (.int .i64) (.s 125)⟩, ⟨(some 127), (some (118, true)), .call false 118 .bool [(.s 122), (.s 126)]⟩, ⟨(some 128), (some (118, true)), .un .not (.s 127)⟩, ⟨(some 129), none, .pick (.s 118) (.s 128) (.c (.t (.bool false)))⟩] [0, 0, 3, 7, 15, 15, 63, 127, 15, 15, 783, 1807, 4095, 8191, 16383])
 (.cond (.s 129)
 .skip
 (.exit 8)))
 (.block 9 (.reg [⟨(some 130), none, .mov (.s 11)⟩, ⟨(some 131), none, .bin .sub (.s 130) (.c (.t (.int .i64 1)))⟩, ⟨(some 11), none, .mov (.s 131)⟩])))))
 (.seq (.seq (.reg [⟨(some 132), none, .mov (.s 10)⟩, ⟨(some 133), none, .mov (.s 11)⟩, ⟨(some 134), none, .bin .gtr (.s 132) (.s 133)⟩])
 (.cond (.s 134)
 (.exit 4)
 .skip))
 (.seq (.dreg [⟨(some 135), none, .mov (.s 0)⟩, ⟨(some 136), none, .mov (.s 10)⟩, ⟨(some 137), none, .mov (.s 0)⟩, ⟨(some 138), none, .mov (.s 11)⟩, ⟨(some 139), none, .mov (.s 0)⟩, ⟨(some 140), none, .mov (.s 11)⟩, ⟨(some 141), none, .ia (.int .i64) (.s 139) (.s 140)⟩, ⟨(some 142), none, .ld (.int .i64) (.s 141)⟩, ⟨(some 143), none, .mov (.s 0)⟩, ⟨(some 144), none, .mov (.s 10)⟩, ⟨(some 145), none, .ia (.int .i64) (.s 143) (.s 144)⟩, ⟨(some 146), none, .ld (.int .i64) (.s 145)⟩, ⟨(some 147), none, .ia (.int .i64) (.s 135) (.s 136)⟩, ⟨none, none, .st (.int .i64) (.s 147) (.s 142)⟩, ⟨(some 148), none, .ia (.int .i64) (.s 137) (.s 138)⟩, ⟨none, none, .st (.int .i64) (.s 148) (.s 146)⟩] [0, 0, 0, 0, 0, 0, 48, 112, 0, 0, 768, 1792, 4083, 8179, 16383, 32767])
 (.seq (.reg [⟨(some 149), none, .mov (.s 10)⟩, ⟨(some 150), none, .bin .add (.s 149) (.c (.t (.int .i64 1)))⟩, ⟨(some 10), none, .mov (.s 150)⟩])
 (.reg [⟨(some 151), none, .mov (.s 11)⟩, ⟨(some 152), none, .bin .sub (.s 151) (.c (.t (.int .i64 1)))⟩, ⟨(some 11), none, .mov (.s 152)⟩])))))))))
 (.seq (.dreg [⟨(some 153), none, .mov (.s 0)⟩, ⟨(some 154), none, .mov (.s 11)⟩, ⟨(some 155), none, .mov (.s 0)⟩, ⟨(some 156), none, .mov (.s 1)⟩, ⟨(some 157), none, .mov (.s 0)⟩, ⟨(some 158), none, .mov (.s 1)⟩, ⟨(some 159), none, .ia (.int .i64) (.s 157) (.s 158)⟩, ⟨(some 160), none, .ld (.int .i64) (.s 159)⟩, ⟨(some 161), none, .mov (.s 0)⟩, ⟨(some 162), none, .mov (.s 11)⟩, ⟨(some 163), none, .ia (.int .i64) (.s 161) (.s 162)⟩, ⟨(some 164), none, .ld (.int .i64) (.s 163)⟩, ⟨(some 165), none, .ia (.int .i64) (.s 153) (.s 154)⟩, ⟨none, none, .st (.int .i64) (.s 165) (.s 160)⟩, ⟨(some 166), none, .ia (.int .i64) (.s 155) (.s 156)⟩, ⟨none, none, .st (.int .i64) (.s 166) (.s 164)⟩] [0, 0, 0, 0, 0, 0, 48, 112, 0, 0, 768, 1792, 4083, 8179, 16383, 32767])
 (.seq (.reg [⟨(some 167), none, .mov (.s 11)⟩, ⟨(some 8), none, .mov (.s 167)⟩, ⟨(some 9), none, .mov (.c (.t (.bool false)))⟩])
 .ret)))))))))))),
 [.slot 8, .slot 9]⟩
theorem ok120 : compF Try.prog 120 [[0, 1, 10, 11], [0, 1, 10, 11], [0, 1, 10, 11], [0, 1, 10, 11], [0, 1, 10, 11]] [] = some ir120 := by kernel_rfl


end Go.Proofs.Aw.Qa
