/-
  THE RECKONED CODE, part 2: printed by program.
-/
import Derived.Test.YtfkidinbolmkiaaRows
import Derived.Test.YtfkidinbolmkiaaAw4
set_option maxRecDepth 100000
namespace Go.Proofs.Aw.Qa
open Go.Proofs

/-- tenet/tenetref23.IntNormal -/
def ir17 : FInfo := ⟨16,
 (.seq (.reg [⟨(some 1), none, .box (.agg [(.int .i64), (.int .i64)]) (.s 0)⟩, ⟨(some 2), none, .new (.agg [(.int .i64), (.int .i64)]) (.t (.agg [(.int .i64 0), (.int .i64 0)]))⟩, ⟨(some 3), none, .mov (.c (.t (.int .i64 0)))⟩])
 (.seq (.seq (.reg [⟨(some 4), none, .ld (.agg [(.int .i64), (.int .i64)]) (.s 1)⟩, ⟨(some 5), none, .call false 53 .bool [(.s 4)]⟩, ⟨(some 6), none, .un .not (.s 5)⟩])
 (.cond (.s 6)
 (.seq (.reg [⟨(some 7), none, .build [(.t (.int .i64 0)), (.t (.int .i64 0))] []⟩, ⟨none, none, .st (.agg [(.int .i64), (.int .i64)]) (.s 2) (.s 7)⟩, ⟨(some 3), none, .mov (.c (.t (.int .i64 4)))⟩])
 .ret)
 .skip))
 (.seq (.reg [⟨(some 8), none, .iaa (.int .i64) 2 (.s 1) (.c (.t (.int .i64 0)))⟩, ⟨(some 9), none, .ld (.int .i64) (.s 8)⟩, ⟨(some 10), none, .iaa (.int .i64) 2 (.s 1) (.c (.t (.int .i64 1)))⟩, ⟨(some 11), none, .ld (.int .i64) (.s 10)⟩, ⟨(some 12), none, .bin .sub (.s 9) (.s 11)⟩, ⟨(some 13), none, .call false 54 (.tup [(.agg [(.int .i64), (.int .i64)]), (.int .i64)]) [(.s 12)]⟩, ⟨(some 14), none, .ext 0 (.s 13)⟩, ⟨(some 15), none, .ext 1 (.s 13)⟩, ⟨none, none, .st (.agg [(.int .i64), (.int .i64)]) (.s 2) (.s 14)⟩, ⟨(some 3), none, .mov (.s 15)⟩])
 .ret))),
 [.cell 2 (.agg [(.int .i64), (.int .i64)]), .slot 3]⟩
theorem ok17 : compF Try.prog 17 [] [] = some ir17 := by kernel_rfl

/-- tenet/tenetref23.IntAdd -/
def ir18 : FInfo := ⟨29,
 (.seq (.reg [⟨(some 2), none, .box (.agg [(.int .i64), (.int .i64)]) (.s 0)⟩, ⟨(some 3), none, .box (.agg [(.int .i64), (.int .i64)]) (.s 1)⟩, ⟨(some 4), none, .new (.agg [(.int .i64), (.int .i64)]) (.t (.agg [(.int .i64 0), (.int .i64 0)]))⟩, ⟨(some 5), none, .mov (.c (.t (.int .i64 0)))⟩])
 (.seq (.seq (.reg [⟨(some 6), none, .ld (.agg [(.int .i64), (.int .i64)]) (.s 2)⟩, ⟨(some 7), none, .call false 53 .bool [(.s 6)]⟩, ⟨(some 8), none, .un .not (.s 7)⟩, ⟨(some 9), none, .mov (.s 8)⟩, ⟨(some 10), (some (9, false)), .ld (.agg [(.int .i64), (.int .i64)]) (.s 3)⟩, ⟨(some 11), (some (9, false)), .call false 53 .bool [(.s 10)]⟩, ⟨(some 12), (some (9, false)), .un .not (.s 11)⟩, ⟨(some 13), none, .pick (.s 9) (.c (.t (.bool true))) (.s 12)⟩])
 (.cond (.s 13)
 (.seq (.reg [⟨(some 14), none, .build [(.t (.int .i64 0)), (.t (.int .i64 0))] []⟩, ⟨none, none, .st (.agg [(.int .i64), (.int .i64)]) (.s 4) (.s 14)⟩, ⟨(some 5), none, .mov (.c (.t (.int .i64 4)))⟩])
 .ret)
 .skip))
 (.seq (.reg [⟨(some 15), none, .iaa (.int .i64) 2 (.s 2) (.c (.t (.int .i64 0)))⟩, ⟨(some 16), none, .ld (.int .i64) (.s 15)⟩, ⟨(some 17), none, .iaa (.int .i64) 2 (.s 2) (.c (.t (.int .i64 1)))⟩, ⟨(some 18), none, .ld (.int .i64) (.s 17)⟩, ⟨(some 19), none, .bin .sub (.s 16) (.s 18)⟩, ⟨(some 20), none, .iaa (.int .i64) 2 (.s 3) (.c (.t (.int .i64 0)))⟩, ⟨(some 21), none, .ld (.int .i64) (.s 20)⟩, ⟨(some 22), none, .bin .add (.s 19) (.s 21)⟩, ⟨(some 23), none, .iaa (.int .i64) 2 (.s 3) (.c (.t (.int .i64 1)))⟩, ⟨(some 24), none, .ld (.int .i64) (.s 23)⟩, ⟨(some 25), none, .bin .sub (.s 22) (.s 24)⟩, ⟨(some 26), none, .call false 54 (.tup [(.agg [(.int .i64), (.int .i64)]), (.int .i64)]) [(.s 25)]⟩, ⟨(some 27), none, .ext 0 (.s 26)⟩, ⟨(some 28), none, .ext 1 (.s 26)⟩, ⟨none, none, .st (.agg [(.int .i64), (.int .i64)]) (.s 4) (.s 27)⟩, ⟨(some 5), none, .mov (.s 28)⟩])
 .ret))),
 [.cell 4 (.agg [(.int .i64), (.int .i64)]), .slot 5]⟩
theorem ok18 : compF Try.prog 18 [] [] = some ir18 := by kernel_rfl

/-- tenet/tenetref23.IntMul -/
def ir19 : FInfo := ⟨41,
 (.seq (.reg [⟨(some 2), none, .box (.agg [(.int .i64), (.int .i64)]) (.s 0)⟩, ⟨(some 3), none, .box (.agg [(.int .i64), (.int .i64)]) (.s 1)⟩, ⟨(some 4), none, .new (.agg [(.int .i64), (.int .i64)]) (.t (.agg [(.int .i64 0), (.int .i64 0)]))⟩, ⟨(some 5), none, .mov (.c (.t (.int .i64 0)))⟩])
 (.seq (.seq (.reg [⟨(some 7), none, .ld (.agg [(.int .i64), (.int .i64)]) (.s 2)⟩, ⟨(some 8), none, .call false 53 .bool [(.s 7)]⟩, ⟨(some 9), none, .un .not (.s 8)⟩, ⟨(some 10), none, .mov (.s 9)⟩, ⟨(some 11), (some (10, false)), .ld (.agg [(.int .i64), (.int .i64)]) (.s 3)⟩, ⟨(some 12), (some (10, false)), .call false 53 .bool [(.s 11)]⟩, ⟨(some 13), (some (10, false)), .un .not (.s 12)⟩, ⟨(some 14), none, .pick (.s 10) (.c (.t (.bool true))) (.s 13)⟩])
 (.cond (.s 14)
 (.seq (.reg [⟨(some 15), none, .build [(.t (.int .i64 0)), (.t (.int .i64 0))] []⟩, ⟨none, none, .st (.agg [(.int .i64), (.int .i64)]) (.s 4) (.s 15)⟩, ⟨(some 5), none, .mov (.c (.t (.int .i64 4)))⟩])
 .ret)
 .skip))
 (.seq (.reg [⟨(some 16), none, .iaa (.int .i64) 2 (.s 2) (.c (.t (.int .i64 0)))⟩, ⟨(some 17), none, .ld (.int .i64) (.s 16)⟩, ⟨(some 18), none, .iaa (.int .i64) 2 (.s 2) (.c (.t (.int .i64 1)))⟩, ⟨(some 19), none, .ld (.int .i64) (.s 18)⟩, ⟨(some 20), none, .bin .sub (.s 17) (.s 19)⟩, ⟨(some 21), none, .iaa (.int .i64) 2 (.s 3) (.c (.t (.int .i64 0)))⟩, ⟨(some 22), none, .ld (.int .i64) (.s 21)⟩, ⟨(some 23), none, .iaa (.int .i64) 2 (.s 3) (.c (.t (.int .i64 1)))⟩, ⟨(some 24), none, .ld (.int .i64) (.s 23)⟩, ⟨(some 25), none, .bin .sub (.s 22) (.s 24)⟩, ⟨(some 26), none, .call false 55 (.agg [.bool, (.int .u64), (.int .u64)]) [(.s 20), (.s 25)]⟩, ⟨(some 6), none, .new (.agg [.bool, (.int .u64), (.int .u64)]) (.t (.agg [(.bool false), (.int .u64 0), (.int .u64 0)]))⟩, ⟨none, none, .st (.agg [.bool, (.int .u64), (.int .u64)]) (.s 6) (.s 26)⟩])
 (.seq (.seq (.reg [⟨(some 27), none, .fa 1 (.s 6)⟩, ⟨(some 28), none, .ld (.int .u64) (.s 27)⟩, ⟨(some 29), none, .bin .neq (.s 28) (.c (.t (.int .u64 0)))⟩, ⟨(some 30), none, .mov (.s 29)⟩, ⟨(some 31), (some (30, false)), .fa 2 (.s 6)⟩, ⟨(some 32), (some (30, false)), .ld (.int .u64) (.s 31)⟩, ⟨(some 33), (some (30, false)), .bin .gtr (.s 32) (.c (.t (.int .u64 1099511627776)))⟩, ⟨(some 34), none, .pick (.s 30) (.c (.t (.bool true))) (.s 33)⟩])
 (.cond (.s 34)
 (.seq (.reg [⟨(some 35), none, .build [(.t (.int .i64 0)), (.t (.int .i64 0))] []⟩, ⟨none, none, .st (.agg [(.int .i64), (.int .i64)]) (.s 4) (.s 35)⟩, ⟨(some 5), none, .mov (.c (.t (.int .i64 2)))⟩])
 .ret)
 .skip))
 (.seq (.reg [⟨(some 36), none, .ld (.agg [.bool, (.int .u64), (.int .u64)]) (.s 6)⟩, ⟨(some 37), none, .call false 56 (.int .i64) [(.s 36)]⟩, ⟨(some 38), none, .call false 54 (.tup [(.agg [(.int .i64), (.int .i64)]), (.int .i64)]) [(.s 37)]⟩, ⟨(some 39), none, .ext 0 (.s 38)⟩, ⟨(some 40), none, .ext 1 (.s 38)⟩, ⟨none, none, .st (.agg [(.int .i64), (.int .i64)]) (.s 4) (.s 39)⟩, ⟨(some 5), none, .mov (.s 40)⟩])
 .ret))))),
 [.cell 4 (.agg [(.int .i64), (.int .i64)]), .slot 5]⟩
theorem ok19 : compF Try.prog 19 [] [] = some ir19 := by kernel_rfl

/-- tenet/tenetref23.IntNeg -/
def ir20 : FInfo := ⟨16,
 (.seq (.reg [⟨(some 1), none, .box (.agg [(.int .i64), (.int .i64)]) (.s 0)⟩, ⟨(some 2), none, .new (.agg [(.int .i64), (.int .i64)]) (.t (.agg [(.int .i64 0), (.int .i64 0)]))⟩, ⟨(some 3), none, .mov (.c (.t (.int .i64 0)))⟩])
 (.seq (.seq (.reg [⟨(some 4), none, .ld (.agg [(.int .i64), (.int .i64)]) (.s 1)⟩, ⟨(some 5), none, .call false 53 .bool [(.s 4)]⟩, ⟨(some 6), none, .un .not (.s 5)⟩])
 (.cond (.s 6)
 (.seq (.reg [⟨(some 7), none, .build [(.t (.int .i64 0)), (.t (.int .i64 0))] []⟩, ⟨none, none, .st (.agg [(.int .i64), (.int .i64)]) (.s 2) (.s 7)⟩, ⟨(some 3), none, .mov (.c (.t (.int .i64 4)))⟩])
 .ret)
 .skip))
 (.seq (.reg [⟨(some 8), none, .iaa (.int .i64) 2 (.s 1) (.c (.t (.int .i64 1)))⟩, ⟨(some 9), none, .ld (.int .i64) (.s 8)⟩, ⟨(some 10), none, .iaa (.int .i64) 2 (.s 1) (.c (.t (.int .i64 0)))⟩, ⟨(some 11), none, .ld (.int .i64) (.s 10)⟩, ⟨(some 12), none, .bin .sub (.s 9) (.s 11)⟩, ⟨(some 13), none, .call false 54 (.tup [(.agg [(.int .i64), (.int .i64)]), (.int .i64)]) [(.s 12)]⟩, ⟨(some 14), none, .ext 0 (.s 13)⟩, ⟨(some 15), none, .ext 1 (.s 13)⟩, ⟨none, none, .st (.agg [(.int .i64), (.int .i64)]) (.s 2) (.s 14)⟩, ⟨(some 3), none, .mov (.s 15)⟩])
 .ret))),
 [.cell 2 (.agg [(.int .i64), (.int .i64)]), .slot 3]⟩
theorem ok20 : compF Try.prog 20 [] [] = some ir20 := by kernel_rfl

/-- tenet/tenetref23.IntLeq -/
def ir21 : FInfo := ⟨25,
 (.seq (.reg [⟨(some 2), none, .box (.agg [(.int .i64), (.int .i64)]) (.s 0)⟩, ⟨(some 3), none, .box (.agg [(.int .i64), (.int .i64)]) (.s 1)⟩, ⟨(some 4), none, .mov (.c (.t (.bool false)))⟩, ⟨(some 5), none, .mov (.c (.t (.int .i64 0)))⟩])
 (.seq (.seq (.reg [⟨(some 6), none, .ld (.agg [(.int .i64), (.int .i64)]) (.s 2)⟩, ⟨(some 7), none, .call false 53 .bool [(.s 6)]⟩, ⟨(some 8), none, .un .not (.s 7)⟩, ⟨(some 9), none, .mov (.s 8)⟩, ⟨(some 10), (some (9, false)), .ld (.agg [(.int .i64), (.int .i64)]) (.s 3)⟩, ⟨(some 11), (some (9, false)), .call false 53 .bool [(.s 10)]⟩, ⟨(some 12), (some (9, false)), .un .not (.s 11)⟩, ⟨(some 13), none, .pick (.s 9) (.c (.t (.bool true))) (.s 12)⟩])
 (.cond (.s 13)
 (.seq (.reg [⟨(some 4), none, .mov (.c (.t (.bool false)))⟩, ⟨(some 5), none, .mov (.c (.t (.int .i64 4)))⟩])
 .ret)
 .skip))
 (.seq (.reg [⟨(some 14), none, .iaa (.int .i64) 2 (.s 2) (.c (.t (.int .i64 0)))⟩, ⟨(some 15), none, .ld (.int .i64) (.s 14)⟩, ⟨(some 16), none, .iaa (.int .i64) 2 (.s 2) (.c (.t (.int .i64 1)))⟩, ⟨(some 17), none, .ld (.int .i64) (.s 16)⟩, ⟨(some 18), none, .bin .sub (.s 15) (.s 17)⟩, ⟨(some 19), none, .iaa (.int .i64) 2 (.s 3) (.c (.t (.int .i64 0)))⟩, ⟨(some 20), none, .ld (.int .i64) (.s 19)⟩, ⟨(some 21), none, .iaa (.int .i64) 2 (.s 3) (.c (.t (.int .i64 1)))⟩, ⟨(some 22), none, .ld (.int .i64) (.s 21)⟩, ⟨(some 23), none, .bin .sub (.s 20) (.s 22)⟩, ⟨(some 24), none, .bin .leq (.s 18) (.s 23)⟩, ⟨(some 4), none, .mov (.s 24)⟩, ⟨(some 5), none, .mov (.c (.t (.int .i64 0)))⟩])
 .ret))),
 [.slot 4, .slot 5]⟩
theorem ok21 : compF Try.prog 21 [] [] = some ir21 := by kernel_rfl

/-- tenet/tenetref23.IntSame -/
def ir22 : FInfo := ⟨25,
 (.seq (.reg [⟨(some 2), none, .box (.agg [(.int .i64), (.int .i64)]) (.s 0)⟩, ⟨(some 3), none, .box (.agg [(.int .i64), (.int .i64)]) (.s 1)⟩, ⟨(some 4), none, .mov (.c (.t (.bool false)))⟩, ⟨(some 5), none, .mov (.c (.t (.int .i64 0)))⟩])
 (.seq (.seq (.reg [⟨(some 6), none, .ld (.agg [(.int .i64), (.int .i64)]) (.s 2)⟩, ⟨(some 7), none, .call false 53 .bool [(.s 6)]⟩, ⟨(some 8), none, .un .not (.s 7)⟩, ⟨(some 9), none, .mov (.s 8)⟩, ⟨(some 10), (some (9, false)), .ld (.agg [(.int .i64), (.int .i64)]) (.s 3)⟩, ⟨(some 11), (some (9, false)), .call false 53 .bool [(.s 10)]⟩, ⟨(some 12), (some (9, false)), .un .not (.s 11)⟩, ⟨(some 13), none, .pick (.s 9) (.c (.t (.bool true))) (.s 12)⟩])
 (.cond (.s 13)
 (.seq (.reg [⟨(some 4), none, .mov (.c (.t (.bool false)))⟩, ⟨(some 5), none, .mov (.c (.t (.int .i64 4)))⟩])
 .ret)
 .skip))
 (.seq (.reg [⟨(some 14), none, .iaa (.int .i64) 2 (.s 2) (.c (.t (.int .i64 0)))⟩, ⟨(some 15), none, .ld (.int .i64) (.s 14)⟩, ⟨(some 16), none, .iaa (.int .i64) 2 (.s 2) (.c (.t (.int .i64 1)))⟩, ⟨(some 17), none, .ld (.int .i64) (.s 16)⟩, ⟨(some 18), none, .bin .sub (.s 15) (.s 17)⟩, ⟨(some 19), none, .iaa (.int .i64) 2 (.s 3) (.c (.t (.int .i64 0)))⟩, ⟨(some 20), none, .ld (.int .i64) (.s 19)⟩, ⟨(some 21), none, .iaa (.int .i64) 2 (.s 3) (.c (.t (.int .i64 1)))⟩, ⟨(some 22), none, .ld (.int .i64) (.s 21)⟩, ⟨(some 23), none, .bin .sub (.s 20) (.s 22)⟩, ⟨(some 24), none, .bin .eql (.s 18) (.s 23)⟩, ⟨(some 4), none, .mov (.s 24)⟩, ⟨(some 5), none, .mov (.c (.t (.int .i64 0)))⟩])
 .ret))),
 [.slot 4, .slot 5]⟩
theorem ok22 : compF Try.prog 22 [] [] = some ir22 := by kernel_rfl

/-- tenet/quot.RatNormal -/
def ir23 : FInfo := ⟨10,
 (.seq (.reg [⟨(some 1), none, .box (.agg [(.int .i64), (.int .i64)]) (.s 0)⟩, ⟨(some 2), none, .new (.agg [(.int .i64), (.int .i64)]) (.t (.agg [(.int .i64 0), (.int .i64 0)]))⟩, ⟨(some 3), none, .mov (.c (.t (.int .i64 0)))⟩])
 (.seq (.seq (.reg [⟨(some 4), none, .ld (.agg [(.int .i64), (.int .i64)]) (.s 1)⟩, ⟨(some 5), none, .call false 57 .bool [(.s 4)]⟩, ⟨(some 6), none, .un .not (.s 5)⟩])
 (.cond (.s 6)
 (.seq (.reg [⟨(some 7), none, .build [(.t (.int .i64 0)), (.t (.int .i64 0))] []⟩, ⟨none, none, .st (.agg [(.int .i64), (.int .i64)]) (.s 2) (.s 7)⟩, ⟨(some 3), none, .mov (.c (.t (.int .i64 4)))⟩])
 .ret)
 .skip))
 (.seq (.reg [⟨(some 8), none, .ld (.agg [(.int .i64), (.int .i64)]) (.s 1)⟩, ⟨(some 9), none, .call false 58 (.agg [(.int .i64), (.int .i64)]) [(.s 8)]⟩, ⟨none, none, .st (.agg [(.int .i64), (.int .i64)]) (.s 2) (.s 9)⟩, ⟨(some 3), none, .mov (.c (.t (.int .i64 0)))⟩])
 .ret))),
 [.cell 2 (.agg [(.int .i64), (.int .i64)]), .slot 3]⟩
theorem ok23 : compF Try.prog 23 [] [] = some ir23 := by kernel_rfl

/-- tenet/tenetref23.RatNormal -/
def ir24 : FInfo := ⟨10,
 (.seq (.reg [⟨(some 1), none, .box (.agg [(.int .i64), (.int .i64)]) (.s 0)⟩, ⟨(some 2), none, .new (.agg [(.int .i64), (.int .i64)]) (.t (.agg [(.int .i64 0), (.int .i64 0)]))⟩, ⟨(some 3), none, .mov (.c (.t (.int .i64 0)))⟩])
 (.seq (.seq (.reg [⟨(some 4), none, .ld (.agg [(.int .i64), (.int .i64)]) (.s 1)⟩, ⟨(some 5), none, .call false 59 .bool [(.s 4)]⟩, ⟨(some 6), none, .un .not (.s 5)⟩])
 (.cond (.s 6)
 (.seq (.reg [⟨(some 7), none, .build [(.t (.int .i64 0)), (.t (.int .i64 0))] []⟩, ⟨none, none, .st (.agg [(.int .i64), (.int .i64)]) (.s 2) (.s 7)⟩, ⟨(some 3), none, .mov (.c (.t (.int .i64 4)))⟩])
 .ret)
 .skip))
 (.seq (.reg [⟨(some 8), none, .ld (.agg [(.int .i64), (.int .i64)]) (.s 1)⟩, ⟨(some 9), none, .call false 60 (.agg [(.int .i64), (.int .i64)]) [(.s 8)]⟩, ⟨none, none, .st (.agg [(.int .i64), (.int .i64)]) (.s 2) (.s 9)⟩, ⟨(some 3), none, .mov (.c (.t (.int .i64 0)))⟩])
 .ret))),
 [.cell 2 (.agg [(.int .i64), (.int .i64)]), .slot 3]⟩
theorem ok24 : compF Try.prog 24 [] [] = some ir24 := by kernel_rfl

/-- tenet/quot.RatAdd -/
def ir25 : FInfo := ⟨38,
 (.seq (.reg [⟨(some 2), none, .box (.agg [(.int .i64), (.int .i64)]) (.s 0)⟩, ⟨(some 3), none, .box (.agg [(.int .i64), (.int .i64)]) (.s 1)⟩, ⟨(some 4), none, .new (.agg [(.int .i64), (.int .i64)]) (.t (.agg [(.int .i64 0), (.int .i64 0)]))⟩, ⟨(some 5), none, .mov (.c (.t (.int .i64 0)))⟩])
 (.seq (.seq (.reg [⟨(some 6), none, .ld (.agg [(.int .i64), (.int .i64)]) (.s 2)⟩, ⟨(some 7), none, .call false 57 .bool [(.s 6)]⟩, ⟨(some 8), none, .un .not (.s 7)⟩, ⟨(some 9), none, .mov (.s 8)⟩, ⟨(some 10), (some (9, false)), .ld (.agg [(.int .i64), (.int .i64)]) (.s 3)⟩, ⟨(some 11), (some (9, false)), .call false 57 .bool [(.s 10)]⟩, ⟨(some 12), (some (9, false)), .un .not (.s 11)⟩, ⟨(some 13), none, .pick (.s 9) (.c (.t (.bool true))) (.s 12)⟩])
 (.cond (.s 13)
 (.seq (.reg [⟨(some 14), none, .build [(.t (.int .i64 0)), (.t (.int .i64 0))] []⟩, ⟨none, none, .st (.agg [(.int .i64), (.int .i64)]) (.s 4) (.s 14)⟩, ⟨(some 5), none, .mov (.c (.t (.int .i64 4)))⟩])
 .ret)
 .skip))
 (.seq (.dreg [⟨(some 15), none, .ld (.agg [(.int .i64), (.int .i64)]) (.s 2)⟩, ⟨(some 16), none, .call false 58 (.agg [(.int .i64), (.int .i64)]) [(.s 15)]⟩, ⟨(some 17), none, .ld (.agg [(.int .i64), (.int .i64)]) (.s 3)⟩, ⟨(some 18), none, .call false 58 (.agg [(.int .i64), (.int .i64)]) [(.s 17)]⟩, ⟨none, none, .st (.agg [(.int .i64), (.int .i64)]) (.s 2) (.s 16)⟩, ⟨none, none, .st (.agg [(.int .i64), (.int .i64)]) (.s 3) (.s 18)⟩] [0, 1, 0, 7, 15, 31])
 (.seq (.dreg [⟨(some 19), none, .fa 0 (.s 2)⟩, ⟨(some 20), none, .ld (.int .i64) (.s 19)⟩, ⟨(some 21), none, .fa 1 (.s 3)⟩, ⟨(some 22), none, .ld (.int .i64) (.s 21)⟩, ⟨(some 23), none, .call false 51 (.agg [.bool, (.int .u64), (.int .u64)]) [(.s 20), (.s 22)]⟩, ⟨(some 24), none, .fa 0 (.s 3)⟩, ⟨(some 25), none, .ld (.int .i64) (.s 24)⟩, ⟨(some 26), none, .fa 1 (.s 2)⟩, ⟨(some 27), none, .ld (.int .i64) (.s 26)⟩, ⟨(some 28), none, .call false 51 (.agg [.bool, (.int .u64), (.int .u64)]) [(.s 25), (.s 27)]⟩, ⟨(some 29), none, .call false 62 (.agg [.bool, (.int .u64), (.int .u64)]) [(.s 23), (.s 28)]⟩, ⟨(some 30), none, .fa 1 (.s 2)⟩, ⟨(some 31), none, .ld (.int .i64) (.s 30)⟩, ⟨(some 32), none, .fa 1 (.s 3)⟩, ⟨(some 33), none, .ld (.int .i64) (.s 32)⟩, ⟨(some 34), none, .call false 51 (.agg [.bool, (.int .u64), (.int .u64)]) [(.s 31), (.s 33)]⟩, ⟨(some 35), none, .call false 61 (.tup [(.agg [(.int .i64), (.int .i64)]), (.int .i64)]) [(.s 29), (.s 34)]⟩, ⟨(some 36), none, .ext 0 (.s 35)⟩, ⟨(some 37), none, .ext 1 (.s 35)⟩, ⟨none, none, .st (.agg [(.int .i64), (.int .i64)]) (.s 4) (.s 36)⟩, ⟨(some 5), none, .mov (.s 37)⟩] [0, 1, 0, 4, 15, 0, 32, 0, 128, 511, 1023, 0, 2048, 0, 8192, 32767, 65535, 131071, 131071, 524287, 1048575])
 .ret)))),
 [.cell 4 (.agg [(.int .i64), (.int .i64)]), .slot 5]⟩
theorem ok25 : compF Try.prog 25 [] [] = some ir25 := by kernel_rfl

/-- tenet/tenetref23.RatAdd -/
def ir26 : FInfo := ⟨63,
 (.seq (.reg [⟨(some 2), none, .box (.agg [(.int .i64), (.int .i64)]) (.s 0)⟩, ⟨(some 3), none, .box (.agg [(.int .i64), (.int .i64)]) (.s 1)⟩, ⟨(some 4), none, .new (.agg [(.int .i64), (.int .i64)]) (.t (.agg [(.int .i64 0), (.int .i64 0)]))⟩, ⟨(some 5), none, .mov (.c (.t (.int .i64 0)))⟩])
 (.seq (.seq (.reg [⟨(some 8), none, .ld (.agg [(.int .i64), (.int .i64)]) (.s 2)⟩, ⟨(some 9), none, .call false 59 .bool [(.s 8)]⟩, ⟨(some 10), none, .un .not (.s 9)⟩, ⟨(some 11), none, .mov (.s 10)⟩, ⟨(some 12), (some (11, false)), .ld (.agg [(.int .i64), (.int .i64)]) (.s 3)⟩, ⟨(some 13), (some (11, false)), .call false 59 .bool [(.s 12)]⟩, ⟨(some 14), (some (11, false)), .un .not (.s 13)⟩, ⟨(some 15), none, .pick (.s 11) (.c (.t (.bool true))) (.s 14)⟩])
 (.cond (.s 15)
 (.seq (.reg [⟨(some 16), none, .build [(.t (.int .i64 0)), (.t (.int .i64 0))] []⟩, ⟨none, none, .st (.agg [(.int .i64), (.int .i64)]) (.s 4) (.s 16)⟩, ⟨(some 5), none, .mov (.c (.t (.int .i64 4)))⟩])
 .ret)
 .skip))
 (.seq (.dreg [⟨(some 17), none, .ld (.agg [(.int .i64), (.int .i64)]) (.s 2)⟩, ⟨(some 18), none, .call false 60 (.agg [(.int .i64), (.int .i64)]) [(.s 17)]⟩, ⟨(some 19), none, .ld (.agg [(.int .i64), (.int .i64)]) (.s 3)⟩, ⟨(some 20), none, .call false 60 (.agg [(.int .i64), (.int .i64)]) [(.s 19)]⟩, ⟨none, none, .st (.agg [(.int .i64), (.int .i64)]) (.s 2) (.s 18)⟩, ⟨none, none, .st (.agg [(.int .i64), (.int .i64)]) (.s 3) (.s 20)⟩] [0, 1, 0, 7, 15, 31])
 (.seq (.reg [⟨(some 21), none, .fa 1 (.s 2)⟩, ⟨(some 22), none, .ld (.int .i64) (.s 21)⟩, ⟨(some 23), none, .fa 1 (.s 3)⟩, ⟨(some 24), none, .ld (.int .i64) (.s 23)⟩, ⟨(some 25), none, .call false 63 (.int .i64) [(.s 22), (.s 24)]⟩, ⟨(some 6), none, .mov (.s 25)⟩])
 (.seq (.dreg [⟨(some 26), none, .fa 0 (.s 2)⟩, ⟨(some 27), none, .ld (.int .i64) (.s 26)⟩, ⟨(some 28), none, .fa 1 (.s 3)⟩, ⟨(some 29), none, .ld (.int .i64) (.s 28)⟩, ⟨(some 30), none, .mov (.s 6)⟩, ⟨(some 31), none, .bin .quo (.s 29) (.s 30)⟩, ⟨(some 32), none, .call false 55 (.agg [.bool, (.int .u64), (.int .u64)]) [(.s 27), (.s 31)]⟩, ⟨(some 33), none, .fa 0 (.s 3)⟩, ⟨(some 34), none, .ld (.int .i64) (.s 33)⟩, ⟨(some 35), none, .fa 1 (.s 2)⟩, ⟨(some 36), none, .ld (.int .i64) (.s 35)⟩, ⟨(some 37), none, .mov (.s 6)⟩, ⟨(some 38), none, .bin .quo (.s 36) (.s 37)⟩, ⟨(some 39), none, .call false 55 (.agg [.bool, (.int .u64), (.int .u64)]) [(.s 34), (.s 38)]⟩, ⟨(some 40), none, .call false 64 (.agg [.bool, (.int .u64), (.int .u64)]) [(.s 32), (.s 39)]⟩, ⟨(some 7), none, .new (.agg [.bool, (.int .u64), (.int .u64)]) (.t (.agg [(.bool false), (.int .u64 0), (.int .u64 0)]))⟩, ⟨none, none, .st (.agg [.bool, (.int .u64), (.int .u64)]) (.s 7) (.s 40)⟩] [0, 1, 0, 4, 0, 28, 63, 0, 128, 0, 512, 0, 3584, 8191, 16383, 0, 65535])
 (.seq (.seq (.reg [⟨(some 41), none, .fa 1 (.s 7)⟩, ⟨(some 42), none, .ld (.int .u64) (.s 41)⟩, ⟨(some 43), none, .bin .eql (.s 42) (.c (.t (.int .u64 0)))⟩, ⟨(some 44), none, .mov (.s 43)⟩, ⟨(some 45), (some (44, true)), .fa 2 (.s 7)⟩, ⟨(some 46), (some (44, true)), .ld (.int .u64) (.s 45)⟩, ⟨(some 47), (some (44, true)), .bin .eql (.s 46) (.c (.t (.int .u64 0)))⟩, ⟨(some 48), none, .pick (.s 44) (.s 47) (.c (.t (.bool false)))⟩])
 (.cond (.s 48)
 (.seq (.reg [⟨(some 49), none, .build [(.t (.int .i64 0)), (.t (.int .i64 0))] [(1, (.int .i64), (.c (.t (.int .i64 1))))]⟩, ⟨none, none, .st (.agg [(.int .i64), (.int .i64)]) (.s 4) (.s 49)⟩, ⟨(some 5), none, .mov (.c (.t (.int .i64 0)))⟩])
 .ret)
 .skip))
 (.seq (.dreg [⟨(some 50), none, .ld (.agg [.bool, (.int .u64), (.int .u64)]) (.s 7)⟩, ⟨(some 51), none, .mov (.s 6)⟩, ⟨(some 52), none, .fa 1 (.s 2)⟩, ⟨(some 53), none, .ld (.int .i64) (.s 52)⟩, ⟨(some 54), none, .mov (.s 6)⟩, ⟨(some 55), none, .bin .quo (.s 53) (.s 54)⟩, ⟨(some 56), none, .fa 1 (.s 3)⟩, ⟨(some 57), none, .ld (.int .i64) (.s 56)⟩, ⟨(some 58), none, .mov (.s 6)⟩, ⟨(some 59), none, .bin .quo (.s 57) (.s 58)⟩, ⟨(some 60), none, .call false 65 (.tup [(.agg [(.int .i64), (.int .i64)]), (.int .i64)]) [(.s 50), (.s 51), (.s 55), (.s 59)]⟩, ⟨(some 61), none, .ext 0 (.s 60)⟩, ⟨(some 62), none, .ext 1 (.s 60)⟩, ⟨none, none, .st (.agg [(.int .i64), (.int .i64)]) (.s 4) (.s 61)⟩, ⟨(some 5), none, .mov (.s 62)⟩] [0, 0, 0, 4, 0, 28, 0, 64, 0, 448, 1023, 2047, 2047, 8191, 16383])
 .ret))))))),
 [.cell 4 (.agg [(.int .i64), (.int .i64)]), .slot 5]⟩
theorem ok26 : compF Try.prog 26 [] [] = some ir26 := by kernel_rfl

/-- tenet/quot.RatMul -/
def ir27 : FInfo := ⟨32,
 (.seq (.reg [⟨(some 2), none, .box (.agg [(.int .i64), (.int .i64)]) (.s 0)⟩, ⟨(some 3), none, .box (.agg [(.int .i64), (.int .i64)]) (.s 1)⟩, ⟨(some 4), none, .new (.agg [(.int .i64), (.int .i64)]) (.t (.agg [(.int .i64 0), (.int .i64 0)]))⟩, ⟨(some 5), none, .mov (.c (.t (.int .i64 0)))⟩])
 (.seq (.seq (.reg [⟨(some 6), none, .ld (.agg [(.int .i64), (.int .i64)]) (.s 2)⟩, ⟨(some 7), none, .call false 57 .bool [(.s 6)]⟩, ⟨(some 8), none, .un .not (.s 7)⟩, ⟨(some 9), none, .mov (.s 8)⟩, ⟨(some 10), (some (9, false)), .ld (.agg [(.int .i64), (.int .i64)]) (.s 3)⟩, ⟨(some 11), (some (9, false)), .call false 57 .bool [(.s 10)]⟩, ⟨(some 12), (some (9, false)), .un .not (.s 11)⟩, ⟨(some 13), none, .pick (.s 9) (.c (.t (.bool true))) (.s 12)⟩])
 (.cond (.s 13)
 (.seq (.reg [⟨(some 14), none, .build [(.t (.int .i64 0)), (.t (.int .i64 0))] []⟩, ⟨none, none, .st (.agg [(.int .i64), (.int .i64)]) (.s 4) (.s 14)⟩, ⟨(some 5), none, .mov (.c (.t (.int .i64 4)))⟩])
 .ret)
 .skip))
 (.seq (.dreg [⟨(some 15), none, .ld (.agg [(.int .i64), (.int .i64)]) (.s 2)⟩, ⟨(some 16), none, .call false 58 (.agg [(.int .i64), (.int .i64)]) [(.s 15)]⟩, ⟨(some 17), none, .ld (.agg [(.int .i64), (.int .i64)]) (.s 3)⟩, ⟨(some 18), none, .call false 58 (.agg [(.int .i64), (.int .i64)]) [(.s 17)]⟩, ⟨none, none, .st (.agg [(.int .i64), (.int .i64)]) (.s 2) (.s 16)⟩, ⟨none, none, .st (.agg [(.int .i64), (.int .i64)]) (.s 3) (.s 18)⟩] [0, 1, 0, 7, 15, 31])
 (.seq (.dreg [⟨(some 19), none, .fa 0 (.s 2)⟩, ⟨(some 20), none, .ld (.int .i64) (.s 19)⟩, ⟨(some 21), none, .fa 0 (.s 3)⟩, ⟨(some 22), none, .ld (.int .i64) (.s 21)⟩, ⟨(some 23), none, .call false 51 (.agg [.bool, (.int .u64), (.int .u64)]) [(.s 20), (.s 22)]⟩, ⟨(some 24), none, .fa 1 (.s 2)⟩, ⟨(some 25), none, .ld (.int .i64) (.s 24)⟩, ⟨(some 26), none, .fa 1 (.s 3)⟩, ⟨(some 27), none, .ld (.int .i64) (.s 26)⟩, ⟨(some 28), none, .call false 51 (.agg [.bool, (.int .u64), (.int .u64)]) [(.s 25), (.s 27)]⟩, ⟨(some 29), none, .call false 61 (.tup [(.agg [(.int .i64), (.int .i64)]), (.int .i64)]) [(.s 23), (.s 28)]⟩, ⟨(some 30), none, .ext 0 (.s 29)⟩, ⟨(some 31), none, .ext 1 (.s 29)⟩, ⟨none, none, .st (.agg [(.int .i64), (.int .i64)]) (.s 4) (.s 30)⟩, ⟨(some 5), none, .mov (.s 31)⟩] [0, 1, 0, 4, 15, 0, 32, 0, 128, 511, 1023, 2047, 2047, 8191, 16383])
 .ret)))),
 [.cell 4 (.agg [(.int .i64), (.int .i64)]), .slot 5]⟩
theorem ok27 : compF Try.prog 27 [] [] = some ir27 := by kernel_rfl

/-- tenet/tenetref23.RatMul -/
def ir28 : FInfo := ⟨70,
 (.seq (.reg [⟨(some 2), none, .box (.agg [(.int .i64), (.int .i64)]) (.s 0)⟩, ⟨(some 3), none, .box (.agg [(.int .i64), (.int .i64)]) (.s 1)⟩, ⟨(some 4), none, .new (.agg [(.int .i64), (.int .i64)]) (.t (.agg [(.int .i64 0), (.int .i64 0)]))⟩, ⟨(some 5), none, .mov (.c (.t (.int .i64 0)))⟩])
 (.seq (.seq (.reg [⟨(some 10), none, .ld (.agg [(.int .i64), (.int .i64)]) (.s 2)⟩, ⟨(some 11), none, .call false 59 .bool [(.s 10)]⟩, ⟨(some 12), none, .un .not (.s 11)⟩, ⟨(some 13), none, .mov (.s 12)⟩, ⟨(some 14), (some (13, false)), .ld (.agg [(.int .i64), (.int .i64)]) (.s 3)⟩, ⟨(some 15), (some (13, false)), .call false 59 .bool [(.s 14)]⟩, ⟨(some 16), (some (13, false)), .un .not (.s 15)⟩, ⟨(some 17), none, .pick (.s 13) (.c (.t (.bool true))) (.s 16)⟩])
 (.cond (.s 17)
 (.seq (.reg [⟨(some 18), none, .build [(.t (.int .i64 0)), (.t (.int .i64 0))] []⟩, ⟨none, none, .st (.agg [(.int .i64), (.int .i64)]) (.s 4) (.s 18)⟩, ⟨(some 5), none, .mov (.c (.t (.int .i64 4)))⟩])
 .ret)
 .skip))
 (.seq (.dreg [⟨(some 19), none, .ld (.agg [(.int .i64), (.int .i64)]) (.s 2)⟩, ⟨(some 20), none, .call false 60 (.agg [(.int .i64), (.int .i64)]) [(.s 19)]⟩, ⟨(some 21), none, .ld (.agg [(.int .i64), (.int .i64)]) (.s 3)⟩, ⟨(some 22), none, .call false 60 (.agg [(.int .i64), (.int .i64)]) [(.s 21)]⟩, ⟨none, none, .st (.agg [(.int .i64), (.int .i64)]) (.s 2) (.s 20)⟩, ⟨none, none, .st (.agg [(.int .i64), (.int .i64)]) (.s 3) (.s 22)⟩] [0, 1, 0, 7, 15, 31])
 (.seq (.dreg [⟨(some 23), none, .fa 0 (.s 2)⟩, ⟨(some 24), none, .ld (.int .i64) (.s 23)⟩, ⟨(some 25), none, .fa 1 (.s 3)⟩, ⟨(some 26), none, .ld (.int .i64) (.s 25)⟩, ⟨(some 27), none, .build [(.t (.int .i64 0)), (.t (.int .i64 0))] [(0, (.int .i64), (.s 24)), (1, (.int .i64), (.s 26))]⟩, ⟨(some 28), none, .call false 60 (.agg [(.int .i64), (.int .i64)]) [(.s 27)]⟩, ⟨(some 29), none, .fa 0 (.s 3)⟩, ⟨(some 30), none, .ld (.int .i64) (.s 29)⟩, ⟨(some 31), none, .fa 1 (.s 2)⟩, ⟨(some 32), none, .ld (.int .i64) (.s 31)⟩, ⟨(some 33), none, .build [(.t (.int .i64 0)), (.t (.int .i64 0))] [(0, (.int .i64), (.s 30)), (1, (.int .i64), (.s 32))]⟩, ⟨(some 34), none, .call false 60 (.agg [(.int .i64), (.int .i64)]) [(.s 33)]⟩, ⟨(some 6), none, .new (.agg [(.int .i64), (.int .i64)]) (.t (.agg [(.int .i64 0), (.int .i64 0)]))⟩, ⟨(some 7), none, .new (.agg [(.int .i64), (.int .i64)]) (.t (.agg [(.int .i64 0), (.int .i64 0)]))⟩, ⟨none, none, .st (.agg [(.int .i64), (.int .i64)]) (.s 6) (.s 28)⟩, ⟨none, none, .st (.agg [(.int .i64), (.int .i64)]) (.s 7) (.s 34)⟩] [0, 1, 0, 4, 15, 31, 0, 64, 0, 256, 960, 2047, 0, 0, 16383, 32767])
 (.seq (.dreg [⟨(some 35), none, .fa 0 (.s 6)⟩, ⟨(some 36), none, .ld (.int .i64) (.s 35)⟩, ⟨(some 37), none, .fa 0 (.s 7)⟩, ⟨(some 38), none, .ld (.int .i64) (.s 37)⟩, ⟨(some 39), none, .call false 55 (.agg [.bool, (.int .u64), (.int .u64)]) [(.s 36), (.s 38)]⟩, ⟨(some 40), none, .fa 1 (.s 6)⟩, ⟨(some 41), none, .ld (.int .i64) (.s 40)⟩, ⟨(some 42), none, .fa 1 (.s 7)⟩, ⟨(some 43), none, .ld (.int .i64) (.s 42)⟩, ⟨(some 44), none, .call false 55 (.agg [.bool, (.int .u64), (.int .u64)]) [(.s 41), (.s 43)]⟩, ⟨(some 8), none, .new (.agg [.bool, (.int .u64), (.int .u64)]) (.t (.agg [(.bool false), (.int .u64 0), (.int .u64 0)]))⟩, ⟨(some 9), none, .new (.agg [.bool, (.int .u64), (.int .u64)]) (.t (.agg [(.bool false), (.int .u64 0), (.int .u64 0)]))⟩, ⟨none, none, .st (.agg [.bool, (.int .u64), (.int .u64)]) (.s 8) (.s 39)⟩, ⟨none, none, .st (.agg [.bool, (.int .u64), (.int .u64)]) (.s 9) (.s 44)⟩] [0, 1, 0, 4, 15, 0, 32, 0, 128, 511, 0, 0, 4095, 8191])
 (.seq (.seq (.reg [⟨(some 45), none, .fa 1 (.s 8)⟩, ⟨(some 46), none, .ld (.int .u64) (.s 45)⟩, ⟨(some 47), none, .bin .neq (.s 46) (.c (.t (.int .u64 0)))⟩, ⟨(some 48), none, .mov (.s 47)⟩, ⟨(some 49), (some (48, false)), .fa 2 (.s 8)⟩, ⟨(some 50), (some (48, false)), .ld (.int .u64) (.s 49)⟩, ⟨(some 51), (some (48, false)), .bin .gtr (.s 50) (.c (.t (.int .u64 1099511627776)))⟩, ⟨(some 52), none, .pick (.s 48) (.c (.t (.bool true))) (.s 51)⟩, ⟨(some 53), none, .mov (.s 52)⟩, ⟨(some 54), (some (53, false)), .fa 1 (.s 9)⟩, ⟨(some 55), (some (53, false)), .ld (.int .u64) (.s 54)⟩, ⟨(some 56), (some (53, false)), .bin .neq (.s 55) (.c (.t (.int .u64 0)))⟩, ⟨(some 57), none, .pick (.s 53) (.c (.t (.bool true))) (.s 56)⟩, ⟨(some 58), none, .mov (.s 57)⟩, ⟨(some 59), (some (58, false)), .fa 2 (.s 9)⟩, ⟨(some 60), (some (58, false)), .ld (.int .u64) (.s 59)⟩, ⟨(some 61), (some (58, false)), .bin .gtr (.s 60) (.c (.t (.int .u64 1099511627776)))⟩, ⟨(some 62), none, .pick (.s 58) (.c (.t (.bool true))) (.s 61)⟩])
 (.cond (.s 62)
 (.seq (.reg [⟨(some 63), none, .build [(.t (.int .i64 0)), (.t (.int .i64 0))] []⟩, ⟨none, none, .st (.agg [(.int .i64), (.int .i64)]) (.s 4) (.s 63)⟩, ⟨(some 5), none, .mov (.c (.t (.int .i64 2)))⟩])
 .ret)
 .skip))
 (.seq (.dreg [⟨(some 64), none, .ld (.agg [.bool, (.int .u64), (.int .u64)]) (.s 8)⟩, ⟨(some 65), none, .call false 56 (.int .i64) [(.s 64)]⟩, ⟨(some 66), none, .ld (.agg [.bool, (.int .u64), (.int .u64)]) (.s 9)⟩, ⟨(some 67), none, .call false 56 (.int .i64) [(.s 66)]⟩, ⟨(some 68), none, .build [(.t (.int .i64 0)), (.t (.int .i64 0))] [(0, (.int .i64), (.s 65)), (1, (.int .i64), (.s 67))]⟩, ⟨(some 69), none, .call false 60 (.agg [(.int .i64), (.int .i64)]) [(.s 68)]⟩, ⟨none, none, .st (.agg [(.int .i64), (.int .i64)]) (.s 4) (.s 69)⟩, ⟨(some 5), none, .mov (.c (.t (.int .i64 0)))⟩] [0, 1, 0, 7, 15, 31, 63, 127])
 .ret))))))),
 [.cell 4 (.agg [(.int .i64), (.int .i64)]), .slot 5]⟩
theorem ok28 : compF Try.prog 28 [] [] = some ir28 := by kernel_rfl

/-- tenet/quot.RatInverse -/
def ir29 : FInfo := ⟨20,
 (.seq (.reg [⟨(some 1), none, .box (.agg [(.int .i64), (.int .i64)]) (.s 0)⟩, ⟨(some 2), none, .new (.agg [(.int .i64), (.int .i64)]) (.t (.agg [(.int .i64 0), (.int .i64 0)]))⟩, ⟨(some 3), none, .mov (.c (.t (.int .i64 0)))⟩])
 (.seq (.block 0 (.seq (.reg [⟨(some 5), none, .ld (.agg [(.int .i64), (.int .i64)]) (.s 1)⟩, ⟨(some 6), none, .call false 57 .bool [(.s 5)]⟩, ⟨(some 7), none, .un .not (.s 6)⟩, ⟨(some 4), none, .mov (.s 7)⟩])
 (.cond (.s 4)
 (.seq (.reg [⟨(some 8), none, .build [(.t (.int .i64 0)), (.t (.int .i64 0))] []⟩, ⟨none, none, .st (.agg [(.int .i64), (.int .i64)]) (.s 2) (.s 8)⟩, ⟨(some 3), none, .mov (.c (.t (.int .i64 4)))⟩])
 .ret)
 (.seq (.reg [⟨(some 10), none, .fa 0 (.s 1)⟩, ⟨(some 11), none, .ld (.int .i64) (.s 10)⟩, ⟨(some 12), none, .bin .eql (.s 11) (.c (.t (.int .i64 0)))⟩, ⟨(some 9), none, .mov (.s 12)⟩])
 (.cond (.s 9)
 (.seq (.reg [⟨(some 13), none, .build [(.t (.int .i64 0)), (.t (.int .i64 0))] []⟩, ⟨none, none, .st (.agg [(.int .i64), (.int .i64)]) (.s 2) (.s 13)⟩, ⟨(some 3), none, .mov (.c (.t (.int .i64 230)))⟩])
 .ret)
 .skip)))))
 (.seq (.reg [⟨(some 14), none, .fa 1 (.s 1)⟩, ⟨(some 15), none, .ld (.int .i64) (.s 14)⟩, ⟨(some 16), none, .fa 0 (.s 1)⟩, ⟨(some 17), none, .ld (.int .i64) (.s 16)⟩, ⟨(some 18), none, .build [(.t (.int .i64 0)), (.t (.int .i64 0))] [(0, (.int .i64), (.s 15)), (1, (.int .i64), (.s 17))]⟩, ⟨(some 19), none, .call false 58 (.agg [(.int .i64), (.int .i64)]) [(.s 18)]⟩, ⟨none, none, .st (.agg [(.int .i64), (.int .i64)]) (.s 2) (.s 19)⟩, ⟨(some 3), none, .mov (.c (.t (.int .i64 0)))⟩])
 .ret))),
 [.cell 2 (.agg [(.int .i64), (.int .i64)]), .slot 3]⟩
theorem ok29 : compF Try.prog 29 [] [] = some ir29 := by kernel_rfl

/-- tenet/tenetref23.RatInverse -/
def ir30 : FInfo := ⟨18,
 (.seq (.reg [⟨(some 1), none, .box (.agg [(.int .i64), (.int .i64)]) (.s 0)⟩, ⟨(some 2), none, .new (.agg [(.int .i64), (.int .i64)]) (.t (.agg [(.int .i64 0), (.int .i64 0)]))⟩, ⟨(some 3), none, .mov (.c (.t (.int .i64 0)))⟩])
 (.seq (.seq (.reg [⟨(some 4), none, .ld (.agg [(.int .i64), (.int .i64)]) (.s 1)⟩, ⟨(some 5), none, .call false 59 .bool [(.s 4)]⟩, ⟨(some 6), none, .un .not (.s 5)⟩])
 (.cond (.s 6)
 (.seq (.reg [⟨(some 7), none, .build [(.t (.int .i64 0)), (.t (.int .i64 0))] []⟩, ⟨none, none, .st (.agg [(.int .i64), (.int .i64)]) (.s 2) (.s 7)⟩, ⟨(some 3), none, .mov (.c (.t (.int .i64 4)))⟩])
 .ret)
 .skip))
 (.seq (.seq (.reg [⟨(some 8), none, .fa 0 (.s 1)⟩, ⟨(some 9), none, .ld (.int .i64) (.s 8)⟩, ⟨(some 10), none, .bin .eql (.s 9) (.c (.t (.int .i64 0)))⟩])
 (.cond (.s 10)
 (.seq (.reg [⟨(some 11), none, .build [(.t (.int .i64 0)), (.t (.int .i64 0))] []⟩, ⟨none, none, .st (.agg [(.int .i64), (.int .i64)]) (.s 2) (.s 11)⟩, ⟨(some 3), none, .mov (.c (.t (.int .i64 230)))⟩])
 .ret)
 .skip))
 (.seq (.reg [⟨(some 12), none, .fa 1 (.s 1)⟩, ⟨(some 13), none, .ld (.int .i64) (.s 12)⟩, ⟨(some 14), none, .fa 0 (.s 1)⟩, ⟨(some 15), none, .ld (.int .i64) (.s 14)⟩, ⟨(some 16), none, .build [(.t (.int .i64 0)), (.t (.int .i64 0))] [(0, (.int .i64), (.s 13)), (1, (.int .i64), (.s 15))]⟩, ⟨(some 17), none, .call false 60 (.agg [(.int .i64), (.int .i64)]) [(.s 16)]⟩, ⟨none, none, .st (.agg [(.int .i64), (.int .i64)]) (.s 2) (.s 17)⟩, ⟨(some 3), none, .mov (.c (.t (.int .i64 0)))⟩])
 .ret)))),
 [.cell 2 (.agg [(.int .i64), (.int .i64)]), .slot 3]⟩
theorem ok30 : compF Try.prog 30 [] [] = some ir30 := by kernel_rfl

/-- tenet/quot.RatLeq -/
def ir31 : FInfo := ⟨48,
 (.seq (.reg [⟨(some 2), none, .box (.agg [(.int .i64), (.int .i64)]) (.s 0)⟩, ⟨(some 3), none, .box (.agg [(.int .i64), (.int .i64)]) (.s 1)⟩, ⟨(some 4), none, .mov (.c (.t (.bool false)))⟩, ⟨(some 5), none, .mov (.c (.t (.int .i64 0)))⟩])
 (.seq (.seq (.reg [⟨(some 9), none, .ld (.agg [(.int .i64), (.int .i64)]) (.s 2)⟩, ⟨(some 10), none, .call false 57 .bool [(.s 9)]⟩, ⟨(some 11), none, .un .not (.s 10)⟩, ⟨(some 12), none, .mov (.s 11)⟩, ⟨(some 13), (some (12, false)), .ld (.agg [(.int .i64), (.int .i64)]) (.s 3)⟩, ⟨(some 14), (some (12, false)), .call false 57 .bool [(.s 13)]⟩, ⟨(some 15), (some (12, false)), .un .not (.s 14)⟩, ⟨(some 16), none, .pick (.s 12) (.c (.t (.bool true))) (.s 15)⟩])
 (.cond (.s 16)
 (.seq (.reg [⟨(some 4), none, .mov (.c (.t (.bool false)))⟩, ⟨(some 5), none, .mov (.c (.t (.int .i64 4)))⟩])
 .ret)
 .skip))
 (.seq (.dreg [⟨(some 17), none, .ld (.agg [(.int .i64), (.int .i64)]) (.s 2)⟩, ⟨(some 18), none, .call false 58 (.agg [(.int .i64), (.int .i64)]) [(.s 17)]⟩, ⟨(some 19), none, .ld (.agg [(.int .i64), (.int .i64)]) (.s 3)⟩, ⟨(some 20), none, .call false 58 (.agg [(.int .i64), (.int .i64)]) [(.s 19)]⟩, ⟨none, none, .st (.agg [(.int .i64), (.int .i64)]) (.s 2) (.s 18)⟩, ⟨none, none, .st (.agg [(.int .i64), (.int .i64)]) (.s 3) (.s 20)⟩] [0, 1, 0, 7, 15, 31])
 (.seq (.dreg [⟨(some 21), none, .fa 0 (.s 2)⟩, ⟨(some 22), none, .ld (.int .i64) (.s 21)⟩, ⟨(some 23), none, .fa 1 (.s 3)⟩, ⟨(some 24), none, .ld (.int .i64) (.s 23)⟩, ⟨(some 25), none, .call false 51 (.agg [.bool, (.int .u64), (.int .u64)]) [(.s 22), (.s 24)]⟩, ⟨(some 26), none, .fa 0 (.s 3)⟩, ⟨(some 27), none, .ld (.int .i64) (.s 26)⟩, ⟨(some 28), none, .fa 1 (.s 2)⟩, ⟨(some 29), none, .ld (.int .i64) (.s 28)⟩, ⟨(some 30), none, .call false 51 (.agg [.bool, (.int .u64), (.int .u64)]) [(.s 27), (.s 29)]⟩, ⟨(some 6), none, .new (.agg [.bool, (.int .u64), (.int .u64)]) (.t (.agg [(.bool false), (.int .u64 0), (.int .u64 0)]))⟩, ⟨(some 7), none, .new (.agg [.bool, (.int .u64), (.int .u64)]) (.t (.agg [(.bool false), (.int .u64 0), (.int .u64 0)]))⟩, ⟨none, none, .st (.agg [.bool, (.int .u64), (.int .u64)]) (.s 6) (.s 25)⟩, ⟨none, none, .st (.agg [.bool, (.int .u64), (.int .u64)]) (.s 7) (.s 30)⟩] [0, 1, 0, 4, 15, 0, 32, 0, 128, 511, 0, 0, 4095, 8191])
 (.seq (.reg [⟨(some 31), none, .fa 0 (.s 7)⟩, ⟨(some 32), none, .ld .bool (.s 31)⟩, ⟨(some 33), none, .un .not (.s 32)⟩, ⟨(some 34), none, .fa 0 (.s 7)⟩, ⟨none, none, .st .bool (.s 34) (.s 33)⟩])
 (.seq (.reg [⟨(some 35), none, .ld (.agg [.bool, (.int .u64), (.int .u64)]) (.s 6)⟩, ⟨(some 36), none, .ld (.agg [.bool, (.int .u64), (.int .u64)]) (.s 7)⟩, ⟨(some 37), none, .call false 62 (.agg [.bool, (.int .u64), (.int .u64)]) [(.s 35), (.s 36)]⟩, ⟨(some 8), none, .new (.agg [.bool, (.int .u64), (.int .u64)]) (.t (.agg [(.bool false), (.int .u64 0), (.int .u64 0)]))⟩, ⟨none, none, .st (.agg [.bool, (.int .u64), (.int .u64)]) (.s 8) (.s 37)⟩])
 (.seq (.reg [⟨(some 38), none, .fa 0 (.s 8)⟩, ⟨(some 39), none, .ld .bool (.s 38)⟩, ⟨(some 40), none, .mov (.s 39)⟩, ⟨(some 41), (some (40, false)), .fa 1 (.s 8)⟩, ⟨(some 42), (some (40, false)), .ld (.int .u64) (.s 41)⟩, ⟨(some 43), (some (40, false)), .fa 2 (.s 8)⟩, ⟨(some 44), (some (40, false)), .ld (.int .u64) (.s 43)⟩, ⟨(some 45), (some (40, false)), .bin .or (.s 42) (.s 44)⟩, ⟨(some 46), (some (40, false)), .bin .eql (.s 45) (.c (.t (.int .u64 0)))⟩, ⟨(some 47), none, .pick (.s 40) (.c (.t (.bool true))) (.s 46)⟩, ⟨(some 4), none, .mov (.s 47)⟩, ⟨(some 5), none, .mov (.c (.t (.int .i64 0)))⟩])
 .ret))))))),
 [.slot 4, .slot 5]⟩
theorem ok31 : compF Try.prog 31 [] [] = some ir31 := by kernel_rfl

/-- tenet/tenetref23.RatLeq -/
def ir32 : FInfo := ⟨43,
 (.seq (.reg [⟨(some 2), none, .box (.agg [(.int .i64), (.int .i64)]) (.s 0)⟩, ⟨(some 3), none, .box (.agg [(.int .i64), (.int .i64)]) (.s 1)⟩, ⟨(some 4), none, .mov (.c (.t (.bool false)))⟩, ⟨(some 5), none, .mov (.c (.t (.int .i64 0)))⟩])
 (.seq (.seq (.reg [⟨(some 7), none, .ld (.agg [(.int .i64), (.int .i64)]) (.s 2)⟩, ⟨(some 8), none, .call false 59 .bool [(.s 7)]⟩, ⟨(some 9), none, .un .not (.s 8)⟩, ⟨(some 10), none, .mov (.s 9)⟩, ⟨(some 11), (some (10, false)), .ld (.agg [(.int .i64), (.int .i64)]) (.s 3)⟩, ⟨(some 12), (some (10, false)), .call false 59 .bool [(.s 11)]⟩, ⟨(some 13), (some (10, false)), .un .not (.s 12)⟩, ⟨(some 14), none, .pick (.s 10) (.c (.t (.bool true))) (.s 13)⟩])
 (.cond (.s 14)
 (.seq (.reg [⟨(some 4), none, .mov (.c (.t (.bool false)))⟩, ⟨(some 5), none, .mov (.c (.t (.int .i64 4)))⟩])
 .ret)
 .skip))
 (.seq (.dreg [⟨(some 15), none, .ld (.agg [(.int .i64), (.int .i64)]) (.s 2)⟩, ⟨(some 16), none, .call false 60 (.agg [(.int .i64), (.int .i64)]) [(.s 15)]⟩, ⟨(some 17), none, .ld (.agg [(.int .i64), (.int .i64)]) (.s 3)⟩, ⟨(some 18), none, .call false 60 (.agg [(.int .i64), (.int .i64)]) [(.s 17)]⟩, ⟨none, none, .st (.agg [(.int .i64), (.int .i64)]) (.s 2) (.s 16)⟩, ⟨none, none, .st (.agg [(.int .i64), (.int .i64)]) (.s 3) (.s 18)⟩] [0, 1, 0, 7, 15, 31])
 (.seq (.dreg [⟨(some 19), none, .fa 0 (.s 2)⟩, ⟨(some 20), none, .ld (.int .i64) (.s 19)⟩, ⟨(some 21), none, .fa 1 (.s 3)⟩, ⟨(some 22), none, .ld (.int .i64) (.s 21)⟩, ⟨(some 23), none, .call false 55 (.agg [.bool, (.int .u64), (.int .u64)]) [(.s 20), (.s 22)]⟩, ⟨(some 24), none, .fa 0 (.s 3)⟩, ⟨(some 25), none, .ld (.int .i64) (.s 24)⟩, ⟨(some 26), none, .un .neg (.s 25)⟩, ⟨(some 27), none, .fa 1 (.s 2)⟩, ⟨(some 28), none, .ld (.int .i64) (.s 27)⟩, ⟨(some 29), none, .call false 55 (.agg [.bool, (.int .u64), (.int .u64)]) [(.s 26), (.s 28)]⟩, ⟨(some 30), none, .call false 64 (.agg [.bool, (.int .u64), (.int .u64)]) [(.s 23), (.s 29)]⟩, ⟨(some 6), none, .new (.agg [.bool, (.int .u64), (.int .u64)]) (.t (.agg [(.bool false), (.int .u64 0), (.int .u64 0)]))⟩, ⟨none, none, .st (.agg [.bool, (.int .u64), (.int .u64)]) (.s 6) (.s 30)⟩] [0, 1, 0, 4, 15, 0, 32, 96, 0, 256, 1023, 2047, 0, 8191])
 (.seq (.reg [⟨(some 31), none, .fa 0 (.s 6)⟩, ⟨(some 32), none, .ld .bool (.s 31)⟩, ⟨(some 33), none, .mov (.s 32)⟩, ⟨(some 34), (some (33, false)), .fa 1 (.s 6)⟩, ⟨(some 35), (some (33, false)), .ld (.int .u64) (.s 34)⟩, ⟨(some 36), (some (33, false)), .bin .eql (.s 35) (.c (.t (.int .u64 0)))⟩, ⟨(some 37), (some (33, false)), .mov (.s 36)⟩, ⟨(some 38), (some (37, true)), .fa 2 (.s 6)⟩, ⟨(some 39), (some (37, true)), .ld (.int .u64) (.s 38)⟩, ⟨(some 40), (some (37, true)), .bin .eql (.s 39) (.c (.t (.int .u64 0)))⟩, ⟨(some 41), (some (33, false)), .pick (.s 37) (.s 40) (.c (.t (.bool false)))⟩, ⟨(some 42), none, .pick (.s 33) (.c (.t (.bool true))) (.s 41)⟩, ⟨(some 4), none, .mov (.s 42)⟩, ⟨(some 5), none, .mov (.c (.t (.int .i64 0)))⟩])
 .ret))))),
 [.slot 4, .slot 5]⟩
theorem ok32 : compF Try.prog 32 [] [] = some ir32 := by kernel_rfl

/-- tenet/quot.BagUnion -/
def ir33 : FInfo := ⟨22,
 (.seq (.reg [⟨(some 4), none, .mov (.c .nilS)⟩, ⟨(some 5), none, .mov (.c (.t (.int .i64 0)))⟩])
 (.seq (.seq (.reg [⟨(some 6), none, .mov (.s 0)⟩, ⟨(some 7), none, .call false 66 .bool [(.s 6)]⟩, ⟨(some 8), none, .un .not (.s 7)⟩, ⟨(some 9), none, .mov (.s 8)⟩, ⟨(some 10), (some (9, false)), .mov (.s 1)⟩, ⟨(some 11), (some (9, false)), .call false 66 .bool [(.s 10)]⟩, ⟨(some 12), (some (9, false)), .un .not (.s 11)⟩, ⟨(some 13), none, .pick (.s 9) (.c (.t (.bool true))) (.s 12)⟩])
 (.cond (.s 13)
 (.seq (.reg [⟨(some 4), none, .mov (.c .nilS)⟩, ⟨(some 5), none, .mov (.c (.t (.int .i64 4)))⟩])
 .ret)
 .skip))
 (.seq (.reg [⟨(some 14), none, .mov (.s 0)⟩, ⟨(some 15), none, .mov (.s 1)⟩, ⟨(some 16), none, .bsl .slc .nilS 2 [(0, (.s 14)), (1, (.s 15))]⟩, ⟨(some 17), none, .call false 69 .slc [(.s 16)]⟩, ⟨(some 18), none, .call false 68 .slc [(.s 17)]⟩, ⟨(some 19), none, .call false 67 (.tup [.slc, (.int .i64)]) [(.s 18)]⟩, ⟨(some 20), none, .ext 0 (.s 19)⟩, ⟨(some 21), none, .ext 1 (.s 19)⟩, ⟨(some 4), none, .mov (.s 20)⟩, ⟨(some 5), none, .mov (.s 21)⟩])
 .ret))),
 [.slot 4, .slot 5]⟩
theorem ok33 : compF Try.prog 33 [] [] = some ir33 := by kernel_rfl

/-- tenet/quot.Fold -/
def ir34 : FInfo := ⟨62,
 (.seq (.reg [⟨(some 4), none, .mov (.c (.t (.int .i64 0)))⟩, ⟨(some 5), none, .mov (.c (.t (.int .i64 0)))⟩])
 (.seq (.block 0 (.seq (.reg [⟨(some 10), none, .mov (.s 0)⟩, ⟨(some 11), none, .call false 66 .bool [(.s 10)]⟩, ⟨(some 12), none, .un .not (.s 11)⟩, ⟨(some 9), none, .mov (.s 12)⟩])
 (.cond (.s 9)
 (.seq (.reg [⟨(some 4), none, .mov (.c (.t (.int .i64 0)))⟩, ⟨(some 5), none, .mov (.c (.t (.int .i64 4)))⟩])
 .ret)
 (.seq (.reg [⟨(some 14), none, .mov (.s 1)⟩, ⟨(some 15), none, .bin .lss (.s 14) (.c (.t (.int .i64 1)))⟩, ⟨(some 16), none, .mov (.s 15)⟩, ⟨(some 17), (some (16, false)), .mov (.s 1)⟩, ⟨(some 18), (some (16, false)), .bin .gtr (.s 17) (.c (.t (.int .i64 4)))⟩, ⟨(some 19), none, .pick (.s 16) (.c (.t (.bool true))) (.s 18)⟩, ⟨(some 13), none, .mov (.s 19)⟩])
 (.cond (.s 13)
 (.seq (.reg [⟨(some 4), none, .mov (.c (.t (.int .i64 0)))⟩, ⟨(some 5), none, .mov (.c (.t (.int .i64 1)))⟩])
 .ret)
 (.seq (.reg [⟨(some 21), none, .mov (.s 1)⟩, ⟨(some 22), none, .bin .eql (.s 21) (.c (.t (.int .i64 4)))⟩, ⟨(some 23), none, .mov (.s 22)⟩, ⟨(some 24), (some (23, false)), .mov (.s 0)⟩, ⟨(some 25), (some (23, false)), .len (.s 24)⟩, ⟨(some 26), (some (23, false)), .bin .eql (.s 25) (.c (.t (.int .i64 0)))⟩, ⟨(some 27), none, .pick (.s 23) (.c (.t (.bool true))) (.s 26)⟩, ⟨(some 20), none, .mov (.s 27)⟩])
 (.cond (.s 20)
 (.seq (.reg [⟨(some 28), none, .mov (.s 0)⟩, ⟨(some 29), none, .len (.s 28)⟩, ⟨(some 4), none, .mov (.s 29)⟩, ⟨(some 5), none, .mov (.c (.t (.int .i64 0)))⟩])
 .ret)
 .skip)))))))
 (.seq (.reg [⟨(some 30), none, .mov (.s 0)⟩, ⟨(some 31), none, .ia (.int .i64) (.s 30) (.c (.t (.int .i64 0)))⟩, ⟨(some 32), none, .ld (.int .i64) (.s 31)⟩, ⟨(some 6), none, .mov (.s 32)⟩])
 (.seq (.seq (.reg [⟨(some 33), none, .mov (.s 0)⟩, ⟨(some 34), none, .sub (.int .i64) (.s 33) (some (.c (.t (.int .i64 1)))) none none⟩, ⟨(some 35), none, .len (.s 34)⟩, ⟨(some 36), none, .mov (.c (.t (.int .i64 0)))⟩])
 (.block 1 (.loop [1, 6, 34, 35, 36] (.seq (.reg [⟨(some 37), none, .bin .lss (.s 36) (.s 35)⟩])
 (.seq (.cond (.s 37)
 .skip
 (.exit 1))
 (.seq (.block 2 (.seq (.reg [⟨(some 38), none, .ia (.int .i64) (.s 34) (.s 36)⟩, ⟨(some 39), none, .ld (.int .i64) (.s 38)⟩, ⟨(some 8), none, .mov (.s 39)⟩])
 (.seq (.reg [⟨(some 40), none, .mov (.s 1)⟩])
 (.block 3 (.seq (.reg [⟨(some 42), none, .bin .eql (.s 40) (.c (.t (.int .i64 1)))⟩, ⟨(some 41), none, .mov (.s 42)⟩])
 (.cond (.s 41)
 (.reg [⟨(some 43), none, .mov (.s 6)⟩, ⟨(some 44), none, .mov (.s 8)⟩, ⟨(some 45), none, .bin .add (.s 43) (.s 44)⟩, ⟨(some 6), none, .mov (.s 45)⟩])
 (.seq (.reg [⟨(some 47), none, .bin .eql (.s 40) (.c (.t (.int .i64 2)))⟩, ⟨(some 46), none, .mov (.s 47)⟩])
 (.cond (.s 46)
 (.reg [⟨(some 48), none, .mov (.s 6)⟩, ⟨(some 49), none, .mov (.s 8)⟩, ⟨(some 50), none, .mx (.s 48) (.s 49)⟩, ⟨(some 6), none, .mov (.s 50)⟩])
 (.seq (.reg [⟨(some 52), none, .bin .eql (.s 40) (.c (.t (.int .i64 3)))⟩, ⟨(some 51), none, .mov (.s 52)⟩])
 (.cond (.s 51)
 (.reg [⟨(some 53), none, .mov (.s 6)⟩, ⟨(some 54), none, .mov (.s 8)⟩, ⟨(some 55), none, .mn (.s 53) (.s 54)⟩, ⟨(some 6), none, .mov (.s 55)⟩])
 .skip))))))))))
 (.reg [⟨(some 56), none, .bin .add (.s 36) (.c (.t (.int .i64 1)))⟩, ⟨(some 36), none, .mov (.s 56)⟩])))))))
 (.seq (.seq (.reg [⟨(some 57), none, .mov (.s 6)⟩, ⟨(some 58), none, .bsl (.int .i64) (.t (.int .i64 0)) 1 [(0, (.s 57))]⟩, ⟨(some 59), none, .call false 70 .bool [(.s 58)]⟩, ⟨(some 60), none, .un .not (.s 59)⟩])
 (.cond (.s 60)
 (.seq (.reg [⟨(some 4), none, .mov (.c (.t (.int .i64 0)))⟩, ⟨(some 5), none, .mov (.c (.t (.int .i64 2)))⟩])
 .ret)
 .skip))
 (.seq (.reg [⟨(some 61), none, .mov (.s 6)⟩, ⟨(some 4), none, .mov (.s 61)⟩, ⟨(some 5), none, .mov (.c (.t (.int .i64 0)))⟩])
 .ret)))))),
 [.slot 4, .slot 5]⟩
theorem ok34 : compF Try.prog 34 [[1, 6, 34, 35, 36]] [] = some ir34 := by kernel_rfl

/-- tenet/quot.BagCount -/
def ir35 : FInfo := ⟨16,
 (.seq (.reg [⟨(some 4), none, .mov (.c (.t (.int .i64 0)))⟩, ⟨(some 5), none, .mov (.c (.t (.int .i64 0)))⟩])
 (.seq (.seq (.reg [⟨(some 7), none, .mov (.s 0)⟩, ⟨(some 8), none, .call false 66 .bool [(.s 7)]⟩, ⟨(some 9), none, .un .not (.s 8)⟩])
 (.cond (.s 9)
 (.seq (.reg [⟨(some 4), none, .mov (.c (.t (.int .i64 0)))⟩, ⟨(some 5), none, .mov (.c (.t (.int .i64 4)))⟩])
 .ret)
 .skip))
 (.seq (.reg [⟨(some 10), none, .mov (.s 0)⟩, ⟨(some 11), none, .call false 68 .slc [(.s 10)]⟩, ⟨(some 12), none, .mkf 71 [(.s 11)] []⟩, ⟨(some 6), none, .mov (.s 12)⟩])
 (.seq (.reg [⟨(some 13), none, .mov (.s 6)⟩, ⟨(some 14), none, .mov (.s 1)⟩, ⟨(some 15), none, .callv (.s 13) (.int .i64) [(.s 14)]⟩, ⟨(some 4), none, .mov (.s 15)⟩, ⟨(some 5), none, .mov (.c (.t (.int .i64 0)))⟩])
 .ret)))),
 [.slot 4, .slot 5]⟩
theorem ok35 : compF Try.prog 35 [] [] = some ir35 := by kernel_rfl

/-- tenet/quot.SetUnion -/
def ir36 : FInfo := ⟨23,
 (.seq (.reg [⟨(some 4), none, .mov (.c .nilS)⟩, ⟨(some 5), none, .mov (.c (.t (.int .i64 0)))⟩])
 (.seq (.seq (.reg [⟨(some 6), none, .mov (.s 0)⟩, ⟨(some 7), none, .call false 66 .bool [(.s 6)]⟩, ⟨(some 8), none, .un .not (.s 7)⟩, ⟨(some 9), none, .mov (.s 8)⟩, ⟨(some 10), (some (9, false)), .mov (.s 1)⟩, ⟨(some 11), (some (9, false)), .call false 66 .bool [(.s 10)]⟩, ⟨(some 12), (some (9, false)), .un .not (.s 11)⟩, ⟨(some 13), none, .pick (.s 9) (.c (.t (.bool true))) (.s 12)⟩])
 (.cond (.s 13)
 (.seq (.reg [⟨(some 4), none, .mov (.c .nilS)⟩, ⟨(some 5), none, .mov (.c (.t (.int .i64 4)))⟩])
 .ret)
 .skip))
 (.seq (.reg [⟨(some 14), none, .mov (.s 0)⟩, ⟨(some 15), none, .mov (.s 1)⟩, ⟨(some 16), none, .bsl .slc .nilS 2 [(0, (.s 14)), (1, (.s 15))]⟩, ⟨(some 17), none, .call false 69 .slc [(.s 16)]⟩, ⟨(some 18), none, .call false 68 .slc [(.s 17)]⟩, ⟨(some 19), none, .call false 72 .slc [(.s 18)]⟩, ⟨(some 20), none, .call false 67 (.tup [.slc, (.int .i64)]) [(.s 19)]⟩, ⟨(some 21), none, .ext 0 (.s 20)⟩, ⟨(some 22), none, .ext 1 (.s 20)⟩, ⟨(some 4), none, .mov (.s 21)⟩, ⟨(some 5), none, .mov (.s 22)⟩])
 .ret))),
 [.slot 4, .slot 5]⟩
theorem ok36 : compF Try.prog 36 [] [] = some ir36 := by kernel_rfl

/-- tenet/quot.SetMeet -/
def ir37 : FInfo := ⟨21,
 (.seq (.reg [⟨(some 3), none, .box .slc (.s 1)⟩, ⟨(some 4), none, .mov (.c .nilS)⟩, ⟨(some 5), none, .mov (.c (.t (.int .i64 0)))⟩])
 (.seq (.seq (.reg [⟨(some 7), none, .mov (.s 0)⟩, ⟨(some 8), none, .call false 66 .bool [(.s 7)]⟩, ⟨(some 9), none, .un .not (.s 8)⟩, ⟨(some 10), none, .mov (.s 9)⟩, ⟨(some 11), (some (10, false)), .ld .slc (.s 3)⟩, ⟨(some 12), (some (10, false)), .call false 66 .bool [(.s 11)]⟩, ⟨(some 13), (some (10, false)), .un .not (.s 12)⟩, ⟨(some 14), none, .pick (.s 10) (.c (.t (.bool true))) (.s 13)⟩])
 (.cond (.s 14)
 (.seq (.reg [⟨(some 4), none, .mov (.c .nilS)⟩, ⟨(some 5), none, .mov (.c (.t (.int .i64 4)))⟩])
 .ret)
 .skip))
 (.seq (.reg [⟨(some 15), none, .mov (.s 0)⟩, ⟨(some 16), none, .call false 68 .slc [(.s 15)]⟩, ⟨(some 17), none, .call false 72 .slc [(.s 16)]⟩, ⟨(some 6), none, .mov (.s 17)⟩])
 (.seq (.reg [⟨(some 18), none, .mov (.s 6)⟩, ⟨(some 19), none, .mkf 74 [] [(.s 3)]⟩, ⟨(some 20), none, .call false 73 .slc [(.s 18), (.s 19)]⟩, ⟨(some 4), none, .mov (.s 20)⟩, ⟨(some 5), none, .mov (.c (.t (.int .i64 0)))⟩])
 .ret)))),
 [.slot 4, .slot 5]⟩
theorem ok37 : compF Try.prog 37 [] [] = some ir37 := by kernel_rfl

/-- tenet/tenetref00.EqInts -/
def ir38 : FInfo := ⟨26,
 (.seq (.reg [⟨(some 4), none, .mov (.c (.t (.bool false)))⟩])
 (.seq (.seq (.reg [⟨(some 6), none, .mov (.s 0)⟩, ⟨(some 7), none, .len (.s 6)⟩, ⟨(some 8), none, .mov (.s 1)⟩, ⟨(some 9), none, .len (.s 8)⟩, ⟨(some 10), none, .bin .neq (.s 7) (.s 9)⟩])
 (.cond (.s 10)
 (.seq (.reg [⟨(some 4), none, .mov (.c (.t (.bool false)))⟩])
 .ret)
 .skip))
 (.seq (.seq (.reg [⟨(some 5), none, .mov (.c (.t (.int .i64 0)))⟩])
 (.block 0 (.loop [0, 1, 5] (.seq (.seq (.reg [⟨(some 11), none, .mov (.s 5)⟩, ⟨(some 12), none, .mov (.s 0)⟩, ⟨(some 13), none, .len (.s 12)⟩, ⟨(some 14), none, .bin .lss (.s 11) (.s 13)⟩])
 (.cond (.s 14)
 .skip
 (.exit 0)))
 (.seq (.block 1 (.seq (.dreg [⟨(some 17), none, .mov (.s 0)⟩, ⟨(some 18), none, .mov (.s 5)⟩, ⟨(some 19), none, .ia (.int .i64) (.s 17) (.s 18)⟩, ⟨(some 20), none, .ld (.int .i64) (.s 19)⟩, ⟨(some 21), none, .mov (.s 1)⟩, ⟨(some 22), none, .mov (.s 5)⟩, ⟨(some 23), none, .ia (.int .i64) (.s 21) (.s 22)⟩, ⟨(some 24), none, .ld (.int .i64) (.s 23)⟩, ⟨(some 25), none, .bin .neq (.s 20) (.s 24)⟩] [0, 0, 3, 7, 0, 0, 48, 112, 255])
 (.cond (.s 25)
 (.seq (.reg [⟨(some 4), none, .mov (.c (.t (.bool false)))⟩])
 .ret)
 .skip)))
 (.reg [⟨(some 15), none, .mov (.s 5)⟩, ⟨(some 16), none, .bin .add (.s 15) (.c (.t (.int .i64 1)))⟩, ⟨(some 5), none, .mov (.s 16)⟩]))))))
 (.seq (.reg [⟨(some 4), none, .mov (.c (.t (.bool true)))⟩])
 .ret)))),
 [.slot 4]⟩
theorem ok38 : compF Try.prog 38 [[0, 1, 5]] [] = some ir38 := by kernel_rfl

/-- tenet/quot.SetNormal -/
def ir39 : FInfo := ⟨10,
 (.seq (.reg [⟨(some 2), none, .mov (.c .nilS)⟩, ⟨(some 3), none, .mov (.c (.t (.int .i64 0)))⟩])
 (.seq (.seq (.reg [⟨(some 4), none, .mov (.s 0)⟩, ⟨(some 5), none, .call false 66 .bool [(.s 4)]⟩, ⟨(some 6), none, .un .not (.s 5)⟩])
 (.cond (.s 6)
 (.seq (.reg [⟨(some 2), none, .mov (.c .nilS)⟩, ⟨(some 3), none, .mov (.c (.t (.int .i64 4)))⟩])
 .ret)
 .skip))
 (.seq (.reg [⟨(some 7), none, .mov (.s 0)⟩, ⟨(some 8), none, .call false 68 .slc [(.s 7)]⟩, ⟨(some 9), none, .call false 72 .slc [(.s 8)]⟩, ⟨(some 2), none, .mov (.s 9)⟩, ⟨(some 3), none, .mov (.c (.t (.int .i64 0)))⟩])
 .ret))),
 [.slot 2, .slot 3]⟩
theorem ok39 : compF Try.prog 39 [] [] = some ir39 := by kernel_rfl

/-- tenet/tenetlaw23.long -/
def ir40 : FInfo := ⟨16,
 (.seq (.reg [⟨(some 2), none, .mov (.c (.t (.bool false)))⟩])
 (.seq (.seq (.reg [⟨(some 3), none, .mov (.c (.t (.int .i64 0)))⟩])
 (.block 0 (.loop [0, 3] (.seq (.seq (.reg [⟨(some 4), none, .mov (.s 3)⟩, ⟨(some 5), none, .mov (.s 0)⟩, ⟨(some 6), none, .len (.s 5)⟩, ⟨(some 7), none, .bin .lss (.s 4) (.s 6)⟩])
 (.cond (.s 7)
 .skip
 (.exit 0)))
 (.seq (.block 1 (.seq (.reg [⟨(some 10), none, .mov (.s 0)⟩, ⟨(some 11), none, .mov (.s 3)⟩, ⟨(some 12), none, .ia .slc (.s 10) (.s 11)⟩, ⟨(some 13), none, .ld .slc (.s 12)⟩, ⟨(some 14), none, .len (.s 13)⟩, ⟨(some 15), none, .bin .gtr (.s 14) (.c (.t (.int .i64 200)))⟩])
 (.cond (.s 15)
 (.seq (.reg [⟨(some 2), none, .mov (.c (.t (.bool true)))⟩])
 .ret)
 .skip)))
 (.reg [⟨(some 8), none, .mov (.s 3)⟩, ⟨(some 9), none, .bin .add (.s 8) (.c (.t (.int .i64 1)))⟩, ⟨(some 3), none, .mov (.s 9)⟩]))))))
 (.seq (.reg [⟨(some 2), none, .mov (.c (.t (.bool false)))⟩])
 .ret))),
 [.slot 2]⟩
theorem ok40 : compF Try.prog 40 [[0, 3]] [] = some ir40 := by kernel_rfl

/-- tenet/quot.BagNormal -/
def ir41 : FInfo := ⟨9,
 (.seq (.reg [⟨(some 2), none, .mov (.c .nilS)⟩, ⟨(some 3), none, .mov (.c (.t (.int .i64 0)))⟩])
 (.seq (.seq (.reg [⟨(some 4), none, .mov (.s 0)⟩, ⟨(some 5), none, .call false 66 .bool [(.s 4)]⟩, ⟨(some 6), none, .un .not (.s 5)⟩])
 (.cond (.s 6)
 (.seq (.reg [⟨(some 2), none, .mov (.c .nilS)⟩, ⟨(some 3), none, .mov (.c (.t (.int .i64 4)))⟩])
 .ret)
 .skip))
 (.seq (.reg [⟨(some 7), none, .mov (.s 0)⟩, ⟨(some 8), none, .call false 68 .slc [(.s 7)]⟩, ⟨(some 2), none, .mov (.s 8)⟩, ⟨(some 3), none, .mov (.c (.t (.int .i64 0)))⟩])
 .ret))),
 [.slot 2, .slot 3]⟩
theorem ok41 : compF Try.prog 41 [] [] = some ir41 := by kernel_rfl

/-- tenet/tenetref23.BagNormal -/
def ir42 : FInfo := ⟨9,
 (.seq (.reg [⟨(some 2), none, .mov (.c .nilS)⟩, ⟨(some 3), none, .mov (.c (.t (.int .i64 0)))⟩])
 (.seq (.reg [⟨(some 4), none, .mov (.s 0)⟩, ⟨(some 5), none, .bsl .slc .nilS 1 [(0, (.s 4))]⟩, ⟨(some 6), none, .call false 76 (.tup [.slc, (.int .i64)]) [(.c (.t (.bool false))), (.s 5)]⟩, ⟨(some 7), none, .ext 0 (.s 6)⟩, ⟨(some 8), none, .ext 1 (.s 6)⟩, ⟨(some 2), none, .mov (.s 7)⟩, ⟨(some 3), none, .mov (.s 8)⟩])
 .ret)),
 [.slot 2, .slot 3]⟩
theorem ok42 : compF Try.prog 42 [] [] = some ir42 := by kernel_rfl

/-- tenet/tenetref23.BagUnion -/
def ir43 : FInfo := ⟨12,
 (.seq (.reg [⟨(some 4), none, .mov (.c .nilS)⟩, ⟨(some 5), none, .mov (.c (.t (.int .i64 0)))⟩])
 (.seq (.reg [⟨(some 6), none, .mov (.s 0)⟩, ⟨(some 7), none, .mov (.s 1)⟩, ⟨(some 8), none, .bsl .slc .nilS 2 [(0, (.s 6)), (1, (.s 7))]⟩, ⟨(some 9), none, .call false 76 (.tup [.slc, (.int .i64)]) [(.c (.t (.bool false))), (.s 8)]⟩, ⟨(some 10), none, .ext 0 (.s 9)⟩, ⟨(some 11), none, .ext 1 (.s 9)⟩, ⟨(some 4), none, .mov (.s 10)⟩, ⟨(some 5), none, .mov (.s 11)⟩])
 .ret)),
 [.slot 4, .slot 5]⟩
theorem ok43 : compF Try.prog 43 [] [] = some ir43 := by kernel_rfl

/-- tenet/tenetref23.SetNormal -/
def ir44 : FInfo := ⟨9,
 (.seq (.reg [⟨(some 2), none, .mov (.c .nilS)⟩, ⟨(some 3), none, .mov (.c (.t (.int .i64 0)))⟩])
 (.seq (.reg [⟨(some 4), none, .mov (.s 0)⟩, ⟨(some 5), none, .bsl .slc .nilS 1 [(0, (.s 4))]⟩, ⟨(some 6), none, .call false 76 (.tup [.slc, (.int .i64)]) [(.c (.t (.bool true))), (.s 5)]⟩, ⟨(some 7), none, .ext 0 (.s 6)⟩, ⟨(some 8), none, .ext 1 (.s 6)⟩, ⟨(some 2), none, .mov (.s 7)⟩, ⟨(some 3), none, .mov (.s 8)⟩])
 .ret)),
 [.slot 2, .slot 3]⟩
theorem ok44 : compF Try.prog 44 [] [] = some ir44 := by kernel_rfl

/-- tenet/tenetref23.SetUnion -/
def ir45 : FInfo := ⟨12,
 (.seq (.reg [⟨(some 4), none, .mov (.c .nilS)⟩, ⟨(some 5), none, .mov (.c (.t (.int .i64 0)))⟩])
 (.seq (.reg [⟨(some 6), none, .mov (.s 0)⟩, ⟨(some 7), none, .mov (.s 1)⟩, ⟨(some 8), none, .bsl .slc .nilS 2 [(0, (.s 6)), (1, (.s 7))]⟩, ⟨(some 9), none, .call false 76 (.tup [.slc, (.int .i64)]) [(.c (.t (.bool true))), (.s 8)]⟩, ⟨(some 10), none, .ext 0 (.s 9)⟩, ⟨(some 11), none, .ext 1 (.s 9)⟩, ⟨(some 4), none, .mov (.s 10)⟩, ⟨(some 5), none, .mov (.s 11)⟩])
 .ret)),
 [.slot 4, .slot 5]⟩
theorem ok45 : compF Try.prog 45 [] [] = some ir45 := by kernel_rfl

/-- tenet/tenetref23.SetMeet -/
def ir46 : FInfo := ⟨36,
 (.seq (.reg [⟨(some 4), none, .mov (.c .nilS)⟩, ⟨(some 5), none, .mov (.c (.t (.int .i64 0)))⟩])
 (.seq (.seq (.reg [⟨(some 8), none, .mov (.s 0)⟩, ⟨(some 9), none, .call false 77 .bool [(.s 8)]⟩, ⟨(some 10), none, .un .not (.s 9)⟩, ⟨(some 11), none, .mov (.s 10)⟩, ⟨(some 12), (some (11, false)), .mov (.s 1)⟩, ⟨(some 13), (some (11, false)), .call false 77 .bool [(.s 12)]⟩, ⟨(some 14), (some (11, false)), .un .not (.s 13)⟩, ⟨(some 15), none, .pick (.s 11) (.c (.t (.bool true))) (.s 14)⟩])
 (.cond (.s 15)
 (.seq (.reg [⟨(some 4), none, .mov (.c .nilS)⟩, ⟨(some 5), none, .mov (.c (.t (.int .i64 4)))⟩])
 .ret)
 .skip))
 (.seq (.reg [⟨(some 6), none, .mov (.c .nilS)⟩])
 (.seq (.seq (.reg [⟨(some 7), none, .mov (.c (.t (.int .i64 0)))⟩])
 (.block 0 (.loop [0, 1, 6, 7] (.seq (.seq (.reg [⟨(some 16), none, .mov (.s 7)⟩, ⟨(some 17), none, .mov (.s 0)⟩, ⟨(some 18), none, .len (.s 17)⟩, ⟨(some 19), none, .bin .lss (.s 16) (.s 18)⟩])
 (.cond (.s 19)
 .skip
 (.exit 0)))
 (.seq (.block 1 (.seq (.reg [⟨(some 22), none, .mov (.s 1)⟩, ⟨(some 23), none, .mov (.s 0)⟩, ⟨(some 24), none, .mov (.s 7)⟩, ⟨(some 25), none, .ia (.int .i64) (.s 23) (.s 24)⟩, ⟨(some 26), none, .ld (.int .i64) (.s 25)⟩, ⟨(some 27), none, .call false 78 (.int .i64) [(.s 22), (.s 26)]⟩, ⟨(some 28), none, .bin .geq (.s 27) (.c (.t (.int .i64 0)))⟩])
 (.cond (.s 28)
 (.reg [⟨(some 29), none, .mov (.s 6)⟩, ⟨(some 30), none, .mov (.s 0)⟩, ⟨(some 31), none, .mov (.s 7)⟩, ⟨(some 32), none, .ia (.int .i64) (.s 30) (.s 31)⟩, ⟨(some 33), none, .ld (.int .i64) (.s 32)⟩, ⟨(some 34), none, .call false 79 .slc [(.s 29), (.s 33), (.c (.t (.bool true)))]⟩, ⟨(some 6), none, .mov (.s 34)⟩])
 .skip)))
 (.reg [⟨(some 20), none, .mov (.s 7)⟩, ⟨(some 21), none, .bin .add (.s 20) (.c (.t (.int .i64 1)))⟩, ⟨(some 7), none, .mov (.s 21)⟩]))))))
 (.seq (.reg [⟨(some 35), none, .mov (.s 6)⟩, ⟨(some 4), none, .mov (.s 35)⟩, ⟨(some 5), none, .mov (.c (.t (.int .i64 0)))⟩])
 .ret))))),
 [.slot 4, .slot 5]⟩
theorem ok46 : compF Try.prog 46 [[0, 1, 6, 7]] [] = some ir46 := by kernel_rfl

/-- tenet/tenetref23.BagCount -/
def ir47 : FInfo := ⟨26,
 (.seq (.reg [⟨(some 4), none, .mov (.c (.t (.int .i64 0)))⟩, ⟨(some 5), none, .mov (.c (.t (.int .i64 0)))⟩])
 (.seq (.seq (.reg [⟨(some 8), none, .mov (.s 0)⟩, ⟨(some 9), none, .call false 77 .bool [(.s 8)]⟩, ⟨(some 10), none, .un .not (.s 9)⟩])
 (.cond (.s 10)
 (.seq (.reg [⟨(some 4), none, .mov (.c (.t (.int .i64 0)))⟩, ⟨(some 5), none, .mov (.c (.t (.int .i64 4)))⟩])
 .ret)
 .skip))
 (.seq (.reg [⟨(some 6), none, .mov (.c (.t (.int .i64 0)))⟩])
 (.seq (.seq (.reg [⟨(some 7), none, .mov (.c (.t (.int .i64 0)))⟩])
 (.block 0 (.loop [0, 1, 6, 7] (.seq (.seq (.reg [⟨(some 11), none, .mov (.s 7)⟩, ⟨(some 12), none, .mov (.s 0)⟩, ⟨(some 13), none, .len (.s 12)⟩, ⟨(some 14), none, .bin .lss (.s 11) (.s 13)⟩])
 (.cond (.s 14)
 .skip
 (.exit 0)))
 (.seq (.block 1 (.seq (.reg [⟨(some 17), none, .mov (.s 0)⟩, ⟨(some 18), none, .mov (.s 7)⟩, ⟨(some 19), none, .ia (.int .i64) (.s 17) (.s 18)⟩, ⟨(some 20), none, .ld (.int .i64) (.s 19)⟩, ⟨(some 21), none, .mov (.s 1)⟩, ⟨(some 22), none, .bin .eql (.s 20) (.s 21)⟩])
 (.cond (.s 22)
 (.reg [⟨(some 23), none, .mov (.s 6)⟩, ⟨(some 24), none, .bin .add (.s 23) (.c (.t (.int .i64 1)))⟩, ⟨(some 6), none, .mov (.s 24)⟩])
 .skip)))
 (.reg [⟨(some 15), none, .mov (.s 7)⟩, ⟨(some 16), none, .bin .add (.s 15) (.c (.t (.int .i64 1)))⟩, ⟨(some 7), none, .mov (.s 16)⟩]))))))
 (.seq (.reg [⟨(some 25), none, .mov (.s 6)⟩, ⟨(some 4), none, .mov (.s 25)⟩, ⟨(some 5), none, .mov (.c (.t (.int .i64 0)))⟩])
 .ret))))),
 [.slot 4, .slot 5]⟩
theorem ok47 : compF Try.prog 47 [[0, 1, 6, 7]] [] = some ir47 := by kernel_rfl

/-- tenet/tenetref23.Fold -/
def ir48 : FInfo := ⟨67,
 (.seq (.reg [⟨(some 4), none, .mov (.c (.t (.int .i64 0)))⟩, ⟨(some 5), none, .mov (.c (.t (.int .i64 0)))⟩])
 (.seq (.seq (.reg [⟨(some 8), none, .mov (.s 0)⟩, ⟨(some 9), none, .call false 77 .bool [(.s 8)]⟩, ⟨(some 10), none, .un .not (.s 9)⟩])
 (.cond (.s 10)
 (.seq (.reg [⟨(some 4), none, .mov (.c (.t (.int .i64 0)))⟩, ⟨(some 5), none, .mov (.c (.t (.int .i64 4)))⟩])
 .ret)
 .skip))
 (.seq (.seq (.reg [⟨(some 11), none, .mov (.s 1)⟩, ⟨(some 12), none, .bin .lss (.s 11) (.c (.t (.int .i64 1)))⟩, ⟨(some 13), none, .mov (.s 12)⟩, ⟨(some 14), (some (13, false)), .mov (.s 1)⟩, ⟨(some 15), (some (13, false)), .bin .gtr (.s 14) (.c (.t (.int .i64 4)))⟩, ⟨(some 16), none, .pick (.s 13) (.c (.t (.bool true))) (.s 15)⟩])
 (.cond (.s 16)
 (.seq (.reg [⟨(some 4), none, .mov (.c (.t (.int .i64 0)))⟩, ⟨(some 5), none, .mov (.c (.t (.int .i64 1)))⟩])
 .ret)
 .skip))
 (.seq (.seq (.reg [⟨(some 17), none, .mov (.s 1)⟩, ⟨(some 18), none, .bin .eql (.s 17) (.c (.t (.int .i64 4)))⟩, ⟨(some 19), none, .mov (.s 18)⟩, ⟨(some 20), (some (19, false)), .mov (.s 0)⟩, ⟨(some 21), (some (19, false)), .len (.s 20)⟩, ⟨(some 22), (some (19, false)), .bin .eql (.s 21) (.c (.t (.int .i64 0)))⟩, ⟨(some 23), none, .pick (.s 19) (.c (.t (.bool true))) (.s 22)⟩])
 (.cond (.s 23)
 (.seq (.reg [⟨(some 24), none, .mov (.s 0)⟩, ⟨(some 25), none, .len (.s 24)⟩, ⟨(some 4), none, .mov (.s 25)⟩, ⟨(some 5), none, .mov (.c (.t (.int .i64 0)))⟩])
 .ret)
 .skip))
 (.seq (.reg [⟨(some 26), none, .mov (.s 0)⟩, ⟨(some 27), none, .ia (.int .i64) (.s 26) (.c (.t (.int .i64 0)))⟩, ⟨(some 28), none, .ld (.int .i64) (.s 27)⟩, ⟨(some 6), none, .mov (.s 28)⟩])
 (.seq (.seq (.reg [⟨(some 7), none, .mov (.c (.t (.int .i64 1)))⟩])
 (.block 0 (.loop [0, 1, 6, 7] (.seq (.seq (.reg [⟨(some 29), none, .mov (.s 7)⟩, ⟨(some 30), none, .mov (.s 0)⟩, ⟨(some 31), none, .len (.s 30)⟩, ⟨(some 32), none, .bin .lss (.s 29) (.s 31)⟩])
 (.cond (.s 32)
 .skip
 (.exit 0)))
 (.seq (.block 1 (.seq (.reg [⟨(some 35), none, .mov (.s 1)⟩])
 (.block 2 (.seq (.reg [⟨(some 37), none, .bin .eql (.s 35) (.c (.t (.int .i64 1)))⟩, ⟨(some 36), none, .mov (.s 37)⟩])
 (.cond (.s 36)
 (.reg [⟨(some 38), none, .mov (.s 6)⟩, ⟨(some 39), none, .mov (.s 0)⟩, ⟨(some 40), none, .mov (.s 7)⟩, ⟨(some 41), none, .ia (.int .i64) (.s 39) (.s 40)⟩, ⟨(some 42), none, .ld (.int .i64) (.s 41)⟩, ⟨(some 43), none, .bin .add (.s 38) (.s 42)⟩, ⟨(some 6), none, .mov (.s 43)⟩])
 (.seq (.reg [⟨(some 45), none, .bin .eql (.s 35) (.c (.t (.int .i64 2)))⟩, ⟨(some 44), none, .mov (.s 45)⟩])
 (.cond (.s 44)
 (.reg [⟨(some 46), none, .mov (.s 6)⟩, ⟨(some 47), none, .mov (.s 0)⟩, ⟨(some 48), none, .mov (.s 7)⟩, ⟨(some 49), none, .ia (.int .i64) (.s 47) (.s 48)⟩, ⟨(some 50), none, .ld (.int .i64) (.s 49)⟩, ⟨(some 51), none, .mx (.s 46) (.s 50)⟩, ⟨(some 6), none, .mov (.s 51)⟩])
 (.seq (.reg [⟨(some 53), none, .bin .eql (.s 35) (.c (.t (.int .i64 3)))⟩, ⟨(some 52), none, .mov (.s 53)⟩])
 (.cond (.s 52)
 (.reg [⟨(some 54), none, .mov (.s 6)⟩, ⟨(some 55), none, .mov (.s 0)⟩, ⟨(some 56), none, .mov (.s 7)⟩, ⟨(some 57), none, .ia (.int .i64) (.s 55) (.s 56)⟩, ⟨(some 58), none, .ld (.int .i64) (.s 57)⟩, ⟨(some 59), none, .mn (.s 54) (.s 58)⟩, ⟨(some 6), none, .mov (.s 59)⟩])
 .skip)))))))))
 (.reg [⟨(some 33), none, .mov (.s 7)⟩, ⟨(some 34), none, .bin .add (.s 33) (.c (.t (.int .i64 1)))⟩, ⟨(some 7), none, .mov (.s 34)⟩]))))))
 (.seq (.seq (.reg [⟨(some 60), none, .mov (.s 6)⟩, ⟨(some 61), none, .bin .gtr (.s 60) (.c (.t (.int .i64 1099511627776)))⟩, ⟨(some 62), none, .mov (.s 61)⟩, ⟨(some 63), (some (62, false)), .mov (.s 6)⟩, ⟨(some 64), (some (62, false)), .bin .lss (.s 63) (.c (.t (.int .i64 (-1099511627776))))⟩, ⟨(some 65), none, .pick (.s 62) (.c (.t (.bool true))) (.s 64)⟩])
 (.cond (.s 65)
 (.seq (.reg [⟨(some 4), none, .mov (.c (.t (.int .i64 0)))⟩, ⟨(some 5), none, .mov (.c (.t (.int .i64 2)))⟩])
 .ret)
 .skip))
 (.seq (.reg [⟨(some 66), none, .mov (.s 6)⟩, ⟨(some 4), none, .mov (.s 66)⟩, ⟨(some 5), none, .mov (.c (.t (.int .i64 0)))⟩])
 .ret)))))))),
 [.slot 4, .slot 5]⟩
theorem ok48 : compF Try.prog 48 [[0, 1, 6, 7]] [] = some ir48 := by kernel_rfl

/-- tenet/quot.natural -/
def ir49 : FInfo := ⟨6,
 (.seq (.reg [⟨(some 2), none, .mov (.c (.t (.bool false)))⟩])
 (.seq (.reg [⟨(some 3), none, .mov (.s 0)⟩, ⟨(some 4), none, .call false 80 .bool [(.s 3), (.f 81)]⟩, ⟨(some 5), none, .un .not (.s 4)⟩, ⟨(some 2), none, .mov (.s 5)⟩])
 .ret)),
 [.slot 2]⟩
theorem ok49 : compF Try.prog 49 [] [] = some ir49 := by kernel_rfl

/-- tenet/quot.pair -/
def ir50 : FInfo := ⟨18,
 (.seq (.reg [⟨(some 2), none, .new (.agg [(.int .i64), (.int .i64)]) (.t (.agg [(.int .i64 0), (.int .i64 0)]))⟩, ⟨(some 3), none, .mov (.c (.t (.int .i64 0)))⟩])
 (.seq (.block 0 (.seq (.reg [⟨(some 5), none, .mov (.s 0)⟩, ⟨(some 6), none, .bsl (.int .i64) (.t (.int .i64 0)) 1 [(0, (.s 5))]⟩, ⟨(some 7), none, .call false 70 .bool [(.s 6)]⟩, ⟨(some 8), none, .un .not (.s 7)⟩, ⟨(some 4), none, .mov (.s 8)⟩])
 (.cond (.s 4)
 (.seq (.reg [⟨(some 9), none, .build [(.t (.int .i64 0)), (.t (.int .i64 0))] []⟩, ⟨none, none, .st (.agg [(.int .i64), (.int .i64)]) (.s 2) (.s 9)⟩, ⟨(some 3), none, .mov (.c (.t (.int .i64 2)))⟩])
 .ret)
 (.seq (.reg [⟨(some 11), none, .mov (.s 0)⟩, ⟨(some 12), none, .bin .lss (.s 11) (.c (.t (.int .i64 0)))⟩, ⟨(some 10), none, .mov (.s 12)⟩])
 (.cond (.s 10)
 (.seq (.reg [⟨(some 13), none, .mov (.s 0)⟩, ⟨(some 14), none, .un .neg (.s 13)⟩, ⟨(some 15), none, .build [(.t (.int .i64 0)), (.t (.int .i64 0))] [(0, (.int .i64), (.c (.t (.int .i64 0)))), (1, (.int .i64), (.s 14))]⟩, ⟨none, none, .st (.agg [(.int .i64), (.int .i64)]) (.s 2) (.s 15)⟩, ⟨(some 3), none, .mov (.c (.t (.int .i64 0)))⟩])
 .ret)
 .skip)))))
 (.seq (.reg [⟨(some 16), none, .mov (.s 0)⟩, ⟨(some 17), none, .build [(.t (.int .i64 0)), (.t (.int .i64 0))] [(0, (.int .i64), (.s 16)), (1, (.int .i64), (.c (.t (.int .i64 0))))]⟩, ⟨none, none, .st (.agg [(.int .i64), (.int .i64)]) (.s 2) (.s 17)⟩, ⟨(some 3), none, .mov (.c (.t (.int .i64 0)))⟩])
 .ret))),
 [.cell 2 (.agg [(.int .i64), (.int .i64)]), .slot 3]⟩
theorem ok50 : compF Try.prog 50 [] [] = some ir50 := by kernel_rfl

/-- tenet/quot.times -/
def ir51 : FInfo := ⟨29,
 (.seq (.reg [⟨(some 4), none, .new (.agg [.bool, (.int .u64), (.int .u64)]) (.t (.agg [(.bool false), (.int .u64 0), (.int .u64 0)]))⟩])
 (.seq (.reg [⟨(some 8), none, .mov (.s 0)⟩, ⟨(some 9), none, .call false 83 (.int .u64) [(.s 8)]⟩, ⟨(some 10), none, .mov (.s 1)⟩, ⟨(some 11), none, .call false 83 (.int .u64) [(.s 10)]⟩, ⟨(some 12), none, .call false 82 (.tup [(.int .u64), (.int .u64)]) [(.s 9), (.s 11)]⟩, ⟨(some 7), none, .mov (.s 12)⟩, ⟨(some 13), none, .ext 0 (.s 7)⟩, ⟨(some 14), none, .ext 1 (.s 7)⟩, ⟨(some 5), none, .mov (.s 13)⟩, ⟨(some 6), none, .mov (.s 14)⟩])
 (.seq (.reg [⟨(some 15), none, .mov (.s 0)⟩, ⟨(some 16), none, .bin .lss (.s 15) (.c (.t (.int .i64 0)))⟩, ⟨(some 17), none, .mov (.s 1)⟩, ⟨(some 18), none, .bin .lss (.s 17) (.c (.t (.int .i64 0)))⟩, ⟨(some 19), none, .eqs true .bool (.s 16) (.s 18)⟩, ⟨(some 20), none, .mov (.s 19)⟩, ⟨(some 21), (some (20, true)), .mov (.s 5)⟩, ⟨(some 22), (some (20, true)), .mov (.s 6)⟩, ⟨(some 23), (some (20, true)), .bin .or (.s 21) (.s 22)⟩, ⟨(some 24), (some (20, true)), .bin .neq (.s 23) (.c (.t (.int .u64 0)))⟩, ⟨(some 25), none, .pick (.s 20) (.s 24) (.c (.t (.bool false)))⟩, ⟨(some 26), none, .mov (.s 5)⟩, ⟨(some 27), none, .mov (.s 6)⟩, ⟨(some 28), none, .build [(.t (.bool false)), (.t (.int .u64 0)), (.t (.int .u64 0))] [(0, .bool, (.s 25)), (1, (.int .u64), (.s 26)), (2, (.int .u64), (.s 27))]⟩, ⟨none, none, .st (.agg [.bool, (.int .u64), (.int .u64)]) (.s 4) (.s 28)⟩])
 .ret))),
 [.cell 4 (.agg [.bool, (.int .u64), (.int .u64)])]⟩
theorem ok51 : compF Try.prog 51 [] [] = some ir51 := by kernel_rfl

/-- (tenet/quot.wide).small -/
def ir52 : FInfo := ⟨21,
 (.seq (.reg [⟨(some 1), none, .box (.agg [.bool, (.int .u64), (.int .u64)]) (.s 0)⟩, ⟨(some 2), none, .mov (.c (.t (.int .i64 0)))⟩, ⟨(some 3), none, .mov (.c (.t (.bool false)))⟩])
 (.seq (.seq (.reg [⟨(some 4), none, .fa 1 (.s 1)⟩, ⟨(some 5), none, .ld (.int .u64) (.s 4)⟩, ⟨(some 6), none, .bin .neq (.s 5) (.c (.t (.int .u64 0)))⟩, ⟨(some 7), none, .mov (.s 6)⟩, ⟨(some 8), (some (7, false)), .fa 2 (.s 1)⟩, ⟨(some 9), (some (7, false)), .ld (.int .u64) (.s 8)⟩, ⟨(some 10), (some (7, false)), .bin .gtr (.s 9) (.c (.t (.int .u64 1099511627776)))⟩, ⟨(some 11), none, .pick (.s 7) (.c (.t (.bool true))) (.s 10)⟩])
 (.cond (.s 11)
 (.seq (.reg [⟨(some 2), none, .mov (.c (.t (.int .i64 0)))⟩, ⟨(some 3), none, .mov (.c (.t (.bool false)))⟩])
 .ret)
 .skip))
 (.seq (.seq (.reg [⟨(some 12), none, .fa 0 (.s 1)⟩, ⟨(some 13), none, .ld .bool (.s 12)⟩])
 (.cond (.s 13)
 (.seq (.reg [⟨(some 14), none, .fa 2 (.s 1)⟩, ⟨(some 15), none, .ld (.int .u64) (.s 14)⟩, ⟨(some 16), none, .conv .i64 (.s 15)⟩, ⟨(some 17), none, .un .neg (.s 16)⟩, ⟨(some 2), none, .mov (.s 17)⟩, ⟨(some 3), none, .mov (.c (.t (.bool true)))⟩])
 .ret)
 .skip))
 (.seq (.reg [⟨(some 18), none, .fa 2 (.s 1)⟩, ⟨(some 19), none, .ld (.int .u64) (.s 18)⟩, ⟨(some 20), none, .conv .i64 (.s 19)⟩, ⟨(some 2), none, .mov (.s 20)⟩, ⟨(some 3), none, .mov (.c (.t (.bool true)))⟩])
 .ret)))),
 [.slot 2, .slot 3]⟩
theorem ok52 : compF Try.prog 52 [] [] = some ir52 := by kernel_rfl

/-- tenet/tenetref23.pairOK -/
def ir53 : FInfo := ⟨21,
 (.seq (.reg [⟨(some 1), none, .box (.agg [(.int .i64), (.int .i64)]) (.s 0)⟩, ⟨(some 2), none, .mov (.c (.t (.bool false)))⟩])
 (.seq (.reg [⟨(some 3), none, .iaa (.int .i64) 2 (.s 1) (.c (.t (.int .i64 0)))⟩, ⟨(some 4), none, .ld (.int .i64) (.s 3)⟩, ⟨(some 5), none, .bin .geq (.s 4) (.c (.t (.int .i64 0)))⟩, ⟨(some 6), none, .mov (.s 5)⟩, ⟨(some 7), (some (6, true)), .iaa (.int .i64) 2 (.s 1) (.c (.t (.int .i64 0)))⟩, ⟨(some 8), (some (6, true)), .ld (.int .i64) (.s 7)⟩, ⟨(some 9), (some (6, true)), .bin .leq (.s 8) (.c (.t (.int .i64 1099511627776)))⟩, ⟨(some 10), none, .pick (.s 6) (.s 9) (.c (.t (.bool false)))⟩, ⟨(some 11), none, .mov (.s 10)⟩, ⟨(some 12), (some (11, true)), .iaa (.int .i64) 2 (.s 1) (.c (.t (.int .i64 1)))⟩, ⟨(some 13), (some (11, true)), .ld (.int .i64) (.s 12)⟩, ⟨(some 14), (some (11, true)), .bin .geq (.s 13) (.c (.t (.int .i64 0)))⟩, ⟨(some 15), none, .pick (.s 11) (.s 14) (.c (.t (.bool false)))⟩, ⟨(some 16), none, .mov (.s 15)⟩, ⟨(some 17), (some (16, true)), .iaa (.int .i64) 2 (.s 1) (.c (.t (.int .i64 1)))⟩, ⟨(some 18), (some (16, true)), .ld (.int .i64) (.s 17)⟩, ⟨(some 19), (some (16, true)), .bin .leq (.s 18) (.c (.t (.int .i64 1099511627776)))⟩, ⟨(some 20), none, .pick (.s 16) (.s 19) (.c (.t (.bool false)))⟩, ⟨(some 2), none, .mov (.s 20)⟩])
 .ret)),
 [.slot 2]⟩
theorem ok53 : compF Try.prog 53 [] [] = some ir53 := by kernel_rfl

/-- tenet/tenetref23.whole -/
def ir54 : FInfo := ⟨17,
 (.seq (.reg [⟨(some 2), none, .new (.agg [(.int .i64), (.int .i64)]) (.t (.agg [(.int .i64 0), (.int .i64 0)]))⟩, ⟨(some 3), none, .mov (.c (.t (.int .i64 0)))⟩])
 (.seq (.seq (.reg [⟨(some 4), none, .mov (.s 0)⟩, ⟨(some 5), none, .bin .gtr (.s 4) (.c (.t (.int .i64 1099511627776)))⟩, ⟨(some 6), none, .mov (.s 5)⟩, ⟨(some 7), (some (6, false)), .mov (.s 0)⟩, ⟨(some 8), (some (6, false)), .bin .lss (.s 7) (.c (.t (.int .i64 (-1099511627776))))⟩, ⟨(some 9), none, .pick (.s 6) (.c (.t (.bool true))) (.s 8)⟩])
 (.cond (.s 9)
 (.seq (.reg [⟨(some 10), none, .build [(.t (.int .i64 0)), (.t (.int .i64 0))] []⟩, ⟨none, none, .st (.agg [(.int .i64), (.int .i64)]) (.s 2) (.s 10)⟩, ⟨(some 3), none, .mov (.c (.t (.int .i64 2)))⟩])
 .ret)
 .skip))
 (.seq (.reg [⟨(some 11), none, .mov (.s 0)⟩, ⟨(some 12), none, .mx (.s 11) (.c (.t (.int .i64 0)))⟩, ⟨(some 13), none, .mov (.s 0)⟩, ⟨(some 14), none, .un .neg (.s 13)⟩, ⟨(some 15), none, .mx (.s 14) (.c (.t (.int .i64 0)))⟩, ⟨(some 16), none, .build [(.t (.int .i64 0)), (.t (.int .i64 0))] [(0, (.int .i64), (.s 12)), (1, (.int .i64), (.s 15))]⟩, ⟨none, none, .st (.agg [(.int .i64), (.int .i64)]) (.s 2) (.s 16)⟩, ⟨(some 3), none, .mov (.c (.t (.int .i64 0)))⟩])
 .ret))),
 [.cell 2 (.agg [(.int .i64), (.int .i64)]), .slot 3]⟩
theorem ok54 : compF Try.prog 54 [] [] = some ir54 := by kernel_rfl

/-- tenet/tenetref23.times -/
def ir55 : FInfo := ⟨31,
 (.seq (.reg [⟨(some 4), none, .new (.agg [.bool, (.int .u64), (.int .u64)]) (.t (.agg [(.bool false), (.int .u64 0), (.int .u64 0)]))⟩])
 (.seq (.reg [⟨(some 8), none, .mov (.s 0)⟩, ⟨(some 9), none, .call false 84 (.int .u64) [(.s 8)]⟩, ⟨(some 10), none, .mov (.s 1)⟩, ⟨(some 11), none, .call false 84 (.int .u64) [(.s 10)]⟩, ⟨(some 12), none, .call false 82 (.tup [(.int .u64), (.int .u64)]) [(.s 9), (.s 11)]⟩, ⟨(some 7), none, .mov (.s 12)⟩, ⟨(some 13), none, .ext 0 (.s 7)⟩, ⟨(some 14), none, .ext 1 (.s 7)⟩, ⟨(some 5), none, .mov (.s 13)⟩, ⟨(some 6), none, .mov (.s 14)⟩])
 (.seq (.reg [⟨(some 15), none, .mov (.s 0)⟩, ⟨(some 16), none, .bin .lss (.s 15) (.c (.t (.int .i64 0)))⟩, ⟨(some 17), none, .mov (.s 1)⟩, ⟨(some 18), none, .bin .lss (.s 17) (.c (.t (.int .i64 0)))⟩, ⟨(some 19), none, .eqs true .bool (.s 16) (.s 18)⟩, ⟨(some 20), none, .mov (.s 19)⟩, ⟨(some 21), (some (20, true)), .mov (.s 5)⟩, ⟨(some 22), (some (20, true)), .bin .neq (.s 21) (.c (.t (.int .u64 0)))⟩, ⟨(some 23), (some (20, true)), .mov (.s 22)⟩, ⟨(some 24), (some (23, false)), .mov (.s 6)⟩, ⟨(some 25), (some (23, false)), .bin .neq (.s 24) (.c (.t (.int .u64 0)))⟩, ⟨(some 26), (some (20, true)), .pick (.s 23) (.c (.t (.bool true))) (.s 25)⟩, ⟨(some 27), none, .pick (.s 20) (.s 26) (.c (.t (.bool false)))⟩, ⟨(some 28), none, .mov (.s 5)⟩, ⟨(some 29), none, .mov (.s 6)⟩, ⟨(some 30), none, .build [(.t (.bool false)), (.t (.int .u64 0)), (.t (.int .u64 0))] [(0, .bool, (.s 27)), (1, (.int .u64), (.s 28)), (2, (.int .u64), (.s 29))]⟩, ⟨none, none, .st (.agg [.bool, (.int .u64), (.int .u64)]) (.s 4) (.s 30)⟩])
 .ret))),
 [.cell 4 (.agg [.bool, (.int .u64), (.int .u64)])]⟩
theorem ok55 : compF Try.prog 55 [] [] = some ir55 := by kernel_rfl

/-- (tenet/tenetref23.wide).small -/
def ir56 : FInfo := ⟨12,
 (.seq (.reg [⟨(some 1), none, .box (.agg [.bool, (.int .u64), (.int .u64)]) (.s 0)⟩, ⟨(some 2), none, .mov (.c (.t (.int .i64 0)))⟩])
 (.seq (.seq (.reg [⟨(some 3), none, .fa 0 (.s 1)⟩, ⟨(some 4), none, .ld .bool (.s 3)⟩])
 (.cond (.s 4)
 (.seq (.reg [⟨(some 5), none, .fa 2 (.s 1)⟩, ⟨(some 6), none, .ld (.int .u64) (.s 5)⟩, ⟨(some 7), none, .conv .i64 (.s 6)⟩, ⟨(some 8), none, .un .neg (.s 7)⟩, ⟨(some 2), none, .mov (.s 8)⟩])
 .ret)
 .skip))
 (.seq (.reg [⟨(some 9), none, .fa 2 (.s 1)⟩, ⟨(some 10), none, .ld (.int .u64) (.s 9)⟩, ⟨(some 11), none, .conv .i64 (.s 10)⟩, ⟨(some 2), none, .mov (.s 11)⟩])
 .ret))),
 [.slot 2]⟩
theorem ok56 : compF Try.prog 56 [] [] = some ir56 := by kernel_rfl

/-- tenet/quot.isRat -/
def ir57 : FInfo := ⟨14,
 (.seq (.reg [⟨(some 1), none, .box (.agg [(.int .i64), (.int .i64)]) (.s 0)⟩, ⟨(some 2), none, .mov (.c (.t (.bool false)))⟩])
 (.seq (.reg [⟨(some 3), none, .fa 0 (.s 1)⟩, ⟨(some 4), none, .ld (.int .i64) (.s 3)⟩, ⟨(some 5), none, .fa 1 (.s 1)⟩, ⟨(some 6), none, .ld (.int .i64) (.s 5)⟩, ⟨(some 7), none, .bsl (.int .i64) (.t (.int .i64 0)) 2 [(0, (.s 4)), (1, (.s 6))]⟩, ⟨(some 8), none, .call false 70 .bool [(.s 7)]⟩, ⟨(some 9), none, .mov (.s 8)⟩, ⟨(some 10), (some (9, true)), .fa 1 (.s 1)⟩, ⟨(some 11), (some (9, true)), .ld (.int .i64) (.s 10)⟩, ⟨(some 12), (some (9, true)), .bin .neq (.s 11) (.c (.t (.int .i64 0)))⟩, ⟨(some 13), none, .pick (.s 9) (.s 12) (.c (.t (.bool false)))⟩, ⟨(some 2), none, .mov (.s 13)⟩])
 .ret)),
 [.slot 2]⟩
theorem ok57 : compF Try.prog 57 [] [] = some ir57 := by kernel_rfl

/-- tenet/quot.reduced -/
def ir58 : FInfo := ⟨24,
 (.seq (.reg [⟨(some 1), none, .box (.agg [(.int .i64), (.int .i64)]) (.s 0)⟩, ⟨(some 2), none, .new (.agg [(.int .i64), (.int .i64)]) (.t (.agg [(.int .i64 0), (.int .i64 0)]))⟩])
 (.seq (.reg [⟨(some 7), none, .ld (.agg [(.int .i64), (.int .i64)]) (.s 1)⟩, ⟨(some 8), none, .call false 85 (.tup [(.int .i64), (.int .i64)]) [(.s 7)]⟩, ⟨(some 6), none, .mov (.s 8)⟩, ⟨(some 9), none, .ext 0 (.s 6)⟩, ⟨(some 10), none, .ext 1 (.s 6)⟩, ⟨(some 3), none, .mov (.s 9)⟩, ⟨(some 4), none, .mov (.s 10)⟩])
 (.seq (.reg [⟨(some 11), none, .mov (.s 3)⟩, ⟨(some 12), none, .call false 83 (.int .u64) [(.s 11)]⟩, ⟨(some 13), none, .mov (.s 4)⟩, ⟨(some 14), none, .call false 83 (.int .u64) [(.s 13)]⟩, ⟨(some 15), none, .call false 86 (.int .u64) [(.s 12), (.s 14)]⟩, ⟨(some 16), none, .conv .i64 (.s 15)⟩, ⟨(some 5), none, .mov (.s 16)⟩])
 (.seq (.dreg [⟨(some 17), none, .mov (.s 3)⟩, ⟨(some 18), none, .mov (.s 5)⟩, ⟨(some 19), none, .bin .quo (.s 17) (.s 18)⟩, ⟨(some 20), none, .mov (.s 4)⟩, ⟨(some 21), none, .mov (.s 5)⟩, ⟨(some 22), none, .bin .quo (.s 20) (.s 21)⟩, ⟨(some 23), none, .build [(.t (.int .i64 0)), (.t (.int .i64 0))] [(0, (.int .i64), (.s 19)), (1, (.int .i64), (.s 22))]⟩, ⟨none, none, .st (.agg [(.int .i64), (.int .i64)]) (.s 2) (.s 23)⟩] [0, 0, 3, 0, 0, 24, 63, 127])
 .ret)))),
 [.cell 2 (.agg [(.int .i64), (.int .i64)])]⟩
theorem ok58 : compF Try.prog 58 [] [] = some ir58 := by kernel_rfl

/-- tenet/tenetref23.ratOK -/
def ir59 : FInfo := ⟨26,
 (.seq (.reg [⟨(some 1), none, .box (.agg [(.int .i64), (.int .i64)]) (.s 0)⟩, ⟨(some 2), none, .mov (.c (.t (.bool false)))⟩])
 (.seq (.reg [⟨(some 3), none, .fa 1 (.s 1)⟩, ⟨(some 4), none, .ld (.int .i64) (.s 3)⟩, ⟨(some 5), none, .bin .neq (.s 4) (.c (.t (.int .i64 0)))⟩, ⟨(some 6), none, .mov (.s 5)⟩, ⟨(some 7), (some (6, true)), .fa 0 (.s 1)⟩, ⟨(some 8), (some (6, true)), .ld (.int .i64) (.s 7)⟩, ⟨(some 9), (some (6, true)), .bin .geq (.s 8) (.c (.t (.int .i64 (-1099511627776))))⟩, ⟨(some 10), none, .pick (.s 6) (.s 9) (.c (.t (.bool false)))⟩, ⟨(some 11), none, .mov (.s 10)⟩, ⟨(some 12), (some (11, true)), .fa 0 (.s 1)⟩, ⟨(some 13), (some (11, true)), .ld (.int .i64) (.s 12)⟩, ⟨(some 14), (some (11, true)), .bin .leq (.s 13) (.c (.t (.int .i64 1099511627776)))⟩, ⟨(some 15), none, .pick (.s 11) (.s 14) (.c (.t (.bool false)))⟩, ⟨(some 16), none, .mov (.s 15)⟩, ⟨(some 17), (some (16, true)), .fa 1 (.s 1)⟩, ⟨(some 18), (some (16, true)), .ld (.int .i64) (.s 17)⟩, ⟨(some 19), (some (16, true)), .bin .geq (.s 18) (.c (.t (.int .i64 (-1099511627776))))⟩, ⟨(some 20), none, .pick (.s 16) (.s 19) (.c (.t (.bool false)))⟩, ⟨(some 21), none, .mov (.s 20)⟩, ⟨(some 22), (some (21, true)), .fa 1 (.s 1)⟩, ⟨(some 23), (some (21, true)), .ld (.int .i64) (.s 22)⟩, ⟨(some 24), (some (21, true)), .bin .leq (.s 23) (.c (.t (.int .i64 1099511627776)))⟩, ⟨(some 25), none, .pick (.s 21) (.s 24) (.c (.t (.bool false)))⟩, ⟨(some 2), none, .mov (.s 25)⟩])
 .ret)),
 [.slot 2]⟩
theorem ok59 : compF Try.prog 59 [] [] = some ir59 := by kernel_rfl

/-- tenet/tenetref23.lowest -/
def ir60 : FInfo := ⟨31,
 (.seq (.reg [⟨(some 1), none, .box (.agg [(.int .i64), (.int .i64)]) (.s 0)⟩, ⟨(some 2), none, .new (.agg [(.int .i64), (.int .i64)]) (.t (.agg [(.int .i64 0), (.int .i64 0)]))⟩])
 (.seq (.seq (.reg [⟨(some 4), none, .fa 1 (.s 1)⟩, ⟨(some 5), none, .ld (.int .i64) (.s 4)⟩, ⟨(some 6), none, .bin .lss (.s 5) (.c (.t (.int .i64 0)))⟩])
 (.cond (.s 6)
 (.reg [⟨(some 7), none, .fa 0 (.s 1)⟩, ⟨(some 8), none, .ld (.int .i64) (.s 7)⟩, ⟨(some 9), none, .un .neg (.s 8)⟩, ⟨(some 10), none, .fa 1 (.s 1)⟩, ⟨(some 11), none, .ld (.int .i64) (.s 10)⟩, ⟨(some 12), none, .un .neg (.s 11)⟩, ⟨(some 13), none, .fa 0 (.s 1)⟩, ⟨none, none, .st (.int .i64) (.s 13) (.s 9)⟩, ⟨(some 14), none, .fa 1 (.s 1)⟩, ⟨none, none, .st (.int .i64) (.s 14) (.s 12)⟩])
 .skip))
 (.seq (.dreg [⟨(some 15), none, .fa 0 (.s 1)⟩, ⟨(some 16), none, .ld (.int .i64) (.s 15)⟩, ⟨(some 17), none, .call false 84 (.int .u64) [(.s 16)]⟩, ⟨(some 18), none, .conv .i64 (.s 17)⟩, ⟨(some 19), none, .fa 1 (.s 1)⟩, ⟨(some 20), none, .ld (.int .i64) (.s 19)⟩, ⟨(some 21), none, .call false 63 (.int .i64) [(.s 18), (.s 20)]⟩, ⟨(some 3), none, .mov (.s 21)⟩] [0, 1, 3, 7, 0, 16, 63, 127])
 (.seq (.dreg [⟨(some 22), none, .fa 0 (.s 1)⟩, ⟨(some 23), none, .ld (.int .i64) (.s 22)⟩, ⟨(some 24), none, .mov (.s 3)⟩, ⟨(some 25), none, .bin .quo (.s 23) (.s 24)⟩, ⟨(some 26), none, .fa 1 (.s 1)⟩, ⟨(some 27), none, .ld (.int .i64) (.s 26)⟩, ⟨(some 28), none, .mov (.s 3)⟩, ⟨(some 29), none, .bin .quo (.s 27) (.s 28)⟩, ⟨(some 30), none, .build [(.t (.int .i64 0)), (.t (.int .i64 0))] [(0, (.int .i64), (.s 25)), (1, (.int .i64), (.s 29))]⟩, ⟨none, none, .st (.agg [(.int .i64), (.int .i64)]) (.s 2) (.s 30)⟩] [0, 1, 0, 7, 0, 16, 0, 112, 255, 511])
 .ret)))),
 [.cell 2 (.agg [(.int .i64), (.int .i64)])]⟩
theorem ok60 : compF Try.prog 60 [] [] = some ir60 := by kernel_rfl

/-- tenet/quot.lowest -/
def ir61 : FInfo := ⟨55,
 (.seq (.reg [⟨(some 2), none, .box (.agg [.bool, (.int .u64), (.int .u64)]) (.s 0)⟩, ⟨(some 3), none, .box (.agg [.bool, (.int .u64), (.int .u64)]) (.s 1)⟩, ⟨(some 4), none, .new (.agg [(.int .i64), (.int .i64)]) (.t (.agg [(.int .i64 0), (.int .i64 0)]))⟩, ⟨(some 5), none, .mov (.c (.t (.int .i64 0)))⟩])
 (.seq (.seq (.reg [⟨(some 12), none, .fa 1 (.s 2)⟩, ⟨(some 13), none, .ld (.int .u64) (.s 12)⟩, ⟨(some 14), none, .fa 2 (.s 2)⟩, ⟨(some 15), none, .ld (.int .u64) (.s 14)⟩, ⟨(some 16), none, .bin .or (.s 13) (.s 15)⟩, ⟨(some 17), none, .bin .eql (.s 16) (.c (.t (.int .u64 0)))⟩])
 (.cond (.s 17)
 (.seq (.reg [⟨(some 18), none, .build [(.t (.int .i64 0)), (.t (.int .i64 0))] [(1, (.int .i64), (.c (.t (.int .i64 1))))]⟩, ⟨none, none, .st (.agg [(.int .i64), (.int .i64)]) (.s 4) (.s 18)⟩, ⟨(some 5), none, .mov (.c (.t (.int .i64 0)))⟩])
 .ret)
 .skip))
 (.seq (.dreg [⟨(some 19), none, .ld (.agg [.bool, (.int .u64), (.int .u64)]) (.s 2)⟩, ⟨(some 20), none, .ld (.agg [.bool, (.int .u64), (.int .u64)]) (.s 3)⟩, ⟨(some 6), none, .new (.agg [.bool, (.int .u64), (.int .u64)]) (.t (.agg [(.bool false), (.int .u64 0), (.int .u64 0)]))⟩, ⟨(some 7), none, .new (.agg [.bool, (.int .u64), (.int .u64)]) (.t (.agg [(.bool false), (.int .u64 0), (.int .u64 0)]))⟩, ⟨none, none, .st (.agg [.bool, (.int .u64), (.int .u64)]) (.s 6) (.s 19)⟩, ⟨none, none, .st (.agg [.bool, (.int .u64), (.int .u64)]) (.s 7) (.s 20)⟩] [0, 0, 0, 0, 13, 31])
 (.seq (.block 0 (.loop [2, 3, 4, 6, 7] (.seq (.seq (.reg [⟨(some 21), none, .fa 1 (.s 7)⟩, ⟨(some 22), none, .ld (.int .u64) (.s 21)⟩, ⟨(some 23), none, .fa 2 (.s 7)⟩, ⟨(some 24), none, .ld (.int .u64) (.s 23)⟩, ⟨(some 25), none, .bin .or (.s 22) (.s 24)⟩, ⟨(some 26), none, .bin .neq (.s 25) (.c (.t (.int .u64 0)))⟩])
 (.cond (.s 26)
 .skip
 (.exit 0)))
 (.block 1 (.dreg [⟨(some 27), none, .ld (.agg [.bool, (.int .u64), (.int .u64)]) (.s 7)⟩, ⟨(some 28), none, .ld (.agg [.bool, (.int .u64), (.int .u64)]) (.s 6)⟩, ⟨(some 29), none, .ld (.agg [.bool, (.int .u64), (.int .u64)]) (.s 7)⟩, ⟨(some 30), none, .call false 87 (.agg [.bool, (.int .u64), (.int .u64)]) [(.s 28), (.s 29)]⟩, ⟨none, none, .st (.agg [.bool, (.int .u64), (.int .u64)]) (.s 6) (.s 27)⟩, ⟨none, none, .st (.agg [.bool, (.int .u64), (.int .u64)]) (.s 7) (.s 30)⟩] [0, 0, 0, 6, 15, 31])))))
 (.seq (.reg [⟨(some 32), none, .ld (.agg [.bool, (.int .u64), (.int .u64)]) (.s 2)⟩, ⟨(some 33), none, .ld (.agg [.bool, (.int .u64), (.int .u64)]) (.s 6)⟩, ⟨(some 34), none, .call false 88 (.agg [.bool, (.int .u64), (.int .u64)]) [(.s 32), (.s 33)]⟩, ⟨(some 35), none, .call false 52 (.tup [(.int .i64), .bool]) [(.s 34)]⟩, ⟨(some 31), none, .mov (.s 35)⟩, ⟨(some 36), none, .ext 0 (.s 31)⟩, ⟨(some 37), none, .ext 1 (.s 31)⟩, ⟨(some 8), none, .mov (.s 36)⟩, ⟨(some 9), none, .mov (.s 37)⟩])
 (.seq (.reg [⟨(some 39), none, .ld (.agg [.bool, (.int .u64), (.int .u64)]) (.s 3)⟩, ⟨(some 40), none, .ld (.agg [.bool, (.int .u64), (.int .u64)]) (.s 6)⟩, ⟨(some 41), none, .call false 88 (.agg [.bool, (.int .u64), (.int .u64)]) [(.s 39), (.s 40)]⟩, ⟨(some 42), none, .call false 52 (.tup [(.int .i64), .bool]) [(.s 41)]⟩, ⟨(some 38), none, .mov (.s 42)⟩, ⟨(some 43), none, .ext 0 (.s 38)⟩, ⟨(some 44), none, .ext 1 (.s 38)⟩, ⟨(some 10), none, .mov (.s 43)⟩, ⟨(some 11), none, .mov (.s 44)⟩])
 (.seq (.seq (.reg [⟨(some 45), none, .mov (.s 9)⟩, ⟨(some 46), none, .un .not (.s 45)⟩, ⟨(some 47), none, .mov (.s 46)⟩, ⟨(some 48), (some (47, false)), .mov (.s 11)⟩, ⟨(some 49), (some (47, false)), .un .not (.s 48)⟩, ⟨(some 50), none, .pick (.s 47) (.c (.t (.bool true))) (.s 49)⟩])
 (.cond (.s 50)
 (.seq (.reg [⟨(some 51), none, .build [(.t (.int .i64 0)), (.t (.int .i64 0))] []⟩, ⟨none, none, .st (.agg [(.int .i64), (.int .i64)]) (.s 4) (.s 51)⟩, ⟨(some 5), none, .mov (.c (.t (.int .i64 2)))⟩])
 .ret)
 .skip))
 (.seq (.reg [⟨(some 52), none, .mov (.s 8)⟩, ⟨(some 53), none, .mov (.s 10)⟩, ⟨(some 54), none, .build [(.t (.int .i64 0)), (.t (.int .i64 0))] [(0, (.int .i64), (.s 52)), (1, (.int .i64), (.s 53))]⟩, ⟨none, none, .st (.agg [(.int .i64), (.int .i64)]) (.s 4) (.s 54)⟩, ⟨(some 5), none, .mov (.c (.t (.int .i64 0)))⟩])
 .ret)))))))),
 [.cell 4 (.agg [(.int .i64), (.int .i64)]), .slot 5]⟩
theorem ok61 : compF Try.prog 61 [[2, 3, 4, 6, 7]] [] = some ir61 := by kernel_rfl

/-- (tenet/quot.wide).plus -/
def ir62 : FInfo := ⟨74,
 (.seq (.reg [⟨(some 2), none, .box (.agg [.bool, (.int .u64), (.int .u64)]) (.s 0)⟩, ⟨(some 3), none, .box (.agg [.bool, (.int .u64), (.int .u64)]) (.s 1)⟩, ⟨(some 4), none, .new (.agg [.bool, (.int .u64), (.int .u64)]) (.t (.agg [(.bool false), (.int .u64 0), (.int .u64 0)]))⟩])
 (.seq (.seq (.reg [⟨(some 13), none, .fa 0 (.s 2)⟩, ⟨(some 14), none, .ld .bool (.s 13)⟩, ⟨(some 15), none, .fa 0 (.s 3)⟩, ⟨(some 16), none, .ld .bool (.s 15)⟩, ⟨(some 17), none, .eqs false .bool (.s 14) (.s 16)⟩])
 (.cond (.s 17)
 (.seq (.reg [⟨(some 19), none, .fa 2 (.s 2)⟩, ⟨(some 20), none, .ld (.int .u64) (.s 19)⟩, ⟨(some 21), none, .fa 2 (.s 3)⟩, ⟨(some 22), none, .ld (.int .u64) (.s 21)⟩, ⟨(some 23), none, .carry false (.s 20) (.s 22) (.c (.t (.int .u64 0)))⟩, ⟨(some 18), none, .mov (.s 23)⟩, ⟨(some 24), none, .ext 0 (.s 18)⟩, ⟨(some 25), none, .ext 1 (.s 18)⟩, ⟨(some 5), none, .mov (.s 24)⟩, ⟨(some 6), none, .mov (.s 25)⟩])
 (.seq (.reg [⟨(some 27), none, .fa 1 (.s 2)⟩, ⟨(some 28), none, .ld (.int .u64) (.s 27)⟩, ⟨(some 29), none, .fa 1 (.s 3)⟩, ⟨(some 30), none, .ld (.int .u64) (.s 29)⟩, ⟨(some 31), none, .mov (.s 6)⟩, ⟨(some 32), none, .carry false (.s 28) (.s 30) (.s 31)⟩, ⟨(some 26), none, .mov (.s 32)⟩, ⟨(some 33), none, .ext 0 (.s 26)⟩, ⟨(some 34), none, .ext 1 (.s 26)⟩, ⟨(some 7), none, .mov (.s 33)⟩, ⟨(some 8), none, .mov (.s 34)⟩])
 (.seq (.reg [⟨(some 35), none, .fa 0 (.s 2)⟩, ⟨(some 36), none, .ld .bool (.s 35)⟩, ⟨(some 37), none, .mov (.s 7)⟩, ⟨(some 38), none, .mov (.s 5)⟩, ⟨(some 39), none, .build [(.t (.bool false)), (.t (.int .u64 0)), (.t (.int .u64 0))] [(0, .bool, (.s 36)), (1, (.int .u64), (.s 37)), (2, (.int .u64), (.s 38))]⟩, ⟨none, none, .st (.agg [.bool, (.int .u64), (.int .u64)]) (.s 4) (.s 39)⟩])
 .ret)))
 .skip))
 (.seq (.seq (.reg [⟨(some 40), none, .ld (.agg [.bool, (.int .u64), (.int .u64)]) (.s 2)⟩, ⟨(some 41), none, .ld (.agg [.bool, (.int .u64), (.int .u64)]) (.s 3)⟩, ⟨(some 42), none, .call false 90 (.int .i64) [(.s 40), (.s 41)]⟩, ⟨(some 43), none, .bin .lss (.s 42) (.c (.t (.int .i64 0)))⟩])
 (.cond (.s 43)
 (.reg [⟨(some 44), none, .ld (.agg [.bool, (.int .u64), (.int .u64)]) (.s 3)⟩, ⟨(some 45), none, .ld (.agg [.bool, (.int .u64), (.int .u64)]) (.s 2)⟩, ⟨none, none, .st (.agg [.bool, (.int .u64), (.int .u64)]) (.s 2) (.s 44)⟩, ⟨none, none, .st (.agg [.bool, (.int .u64), (.int .u64)]) (.s 3) (.s 45)⟩])
 .skip))
 (.seq (.reg [⟨(some 47), none, .fa 2 (.s 2)⟩, ⟨(some 48), none, .ld (.int .u64) (.s 47)⟩, ⟨(some 49), none, .fa 2 (.s 3)⟩, ⟨(some 50), none, .ld (.int .u64) (.s 49)⟩, ⟨(some 51), none, .carry true (.s 48) (.s 50) (.c (.t (.int .u64 0)))⟩, ⟨(some 46), none, .mov (.s 51)⟩, ⟨(some 52), none, .ext 0 (.s 46)⟩, ⟨(some 53), none, .ext 1 (.s 46)⟩, ⟨(some 9), none, .mov (.s 52)⟩, ⟨(some 10), none, .mov (.s 53)⟩])
 (.seq (.reg [⟨(some 55), none, .fa 1 (.s 2)⟩, ⟨(some 56), none, .ld (.int .u64) (.s 55)⟩, ⟨(some 57), none, .fa 1 (.s 3)⟩, ⟨(some 58), none, .ld (.int .u64) (.s 57)⟩, ⟨(some 59), none, .mov (.s 10)⟩, ⟨(some 60), none, .carry true (.s 56) (.s 58) (.s 59)⟩, ⟨(some 54), none, .mov (.s 60)⟩, ⟨(some 61), none, .ext 0 (.s 54)⟩, ⟨(some 62), none, .ext 1 (.s 54)⟩, ⟨(some 11), none, .mov (.s 61)⟩, ⟨(some 12), none, .mov (.s 62)⟩])
 (.seq (.reg [⟨(some 63), none, .fa 0 (.s 2)⟩, ⟨(some 64), none, .ld .bool (.s 63)⟩, ⟨(some 65), none, .mov (.s 64)⟩, ⟨(some 66), (some (65, true)), .mov (.s 11)⟩, ⟨(some 67), (some (65, true)), .mov (.s 9)⟩, ⟨(some 68), (some (65, true)), .bin .or (.s 66) (.s 67)⟩, ⟨(some 69), (some (65, true)), .bin .neq (.s 68) (.c (.t (.int .u64 0)))⟩, ⟨(some 70), none, .pick (.s 65) (.s 69) (.c (.t (.bool false)))⟩, ⟨(some 71), none, .mov (.s 11)⟩, ⟨(some 72), none, .mov (.s 9)⟩, ⟨(some 73), none, .build [(.t (.bool false)), (.t (.int .u64 0)), (.t (.int .u64 0))] [(0, .bool, (.s 70)), (1, (.int .u64), (.s 71)), (2, (.int .u64), (.s 72))]⟩, ⟨none, none, .st (.agg [.bool, (.int .u64), (.int .u64)]) (.s 4) (.s 73)⟩])
 .ret)))))),
 [.cell 4 (.agg [.bool, (.int .u64), (.int .u64)])]⟩
theorem ok62 : compF Try.prog 62 [] [] = some ir62 := by kernel_rfl

/-- tenet/tenetref23.gcd -/
def ir63 : FInfo := ⟨12,
 (.seq (.reg [⟨(some 4), none, .mov (.c (.t (.int .i64 0)))⟩])
 (.seq (.block 0 (.loop [0, 1] (.seq (.seq (.reg [⟨(some 5), none, .mov (.s 1)⟩, ⟨(some 6), none, .bin .neq (.s 5) (.c (.t (.int .i64 0)))⟩])
 (.cond (.s 6)
 .skip
 (.exit 0)))
 (.block 1 (.dreg [⟨(some 7), none, .mov (.s 1)⟩, ⟨(some 8), none, .mov (.s 0)⟩, ⟨(some 9), none, .mov (.s 1)⟩, ⟨(some 10), none, .bin .rem (.s 8) (.s 9)⟩, ⟨(some 0), none, .mov (.s 7)⟩, ⟨(some 1), none, .mov (.s 10)⟩] [0, 0, 0, 6, 3, 31])))))
 (.seq (.reg [⟨(some 11), none, .mov (.s 0)⟩, ⟨(some 4), none, .mov (.s 11)⟩])
 .ret))),
 [.slot 4]⟩
theorem ok63 : compF Try.prog 63 [[0, 1]] [] = some ir63 := by kernel_rfl

/-- (tenet/tenetref23.wide).plus -/
def ir64 : FInfo := ⟨76,
 (.seq (.reg [⟨(some 2), none, .box (.agg [.bool, (.int .u64), (.int .u64)]) (.s 0)⟩, ⟨(some 3), none, .box (.agg [.bool, (.int .u64), (.int .u64)]) (.s 1)⟩, ⟨(some 4), none, .new (.agg [.bool, (.int .u64), (.int .u64)]) (.t (.agg [(.bool false), (.int .u64 0), (.int .u64 0)]))⟩])
 (.seq (.seq (.reg [⟨(some 13), none, .fa 0 (.s 2)⟩, ⟨(some 14), none, .ld .bool (.s 13)⟩, ⟨(some 15), none, .fa 0 (.s 3)⟩, ⟨(some 16), none, .ld .bool (.s 15)⟩, ⟨(some 17), none, .eqs false .bool (.s 14) (.s 16)⟩])
 (.cond (.s 17)
 (.seq (.reg [⟨(some 19), none, .fa 2 (.s 2)⟩, ⟨(some 20), none, .ld (.int .u64) (.s 19)⟩, ⟨(some 21), none, .fa 2 (.s 3)⟩, ⟨(some 22), none, .ld (.int .u64) (.s 21)⟩, ⟨(some 23), none, .carry false (.s 20) (.s 22) (.c (.t (.int .u64 0)))⟩, ⟨(some 18), none, .mov (.s 23)⟩, ⟨(some 24), none, .ext 0 (.s 18)⟩, ⟨(some 25), none, .ext 1 (.s 18)⟩, ⟨(some 5), none, .mov (.s 24)⟩, ⟨(some 6), none, .mov (.s 25)⟩])
 (.seq (.reg [⟨(some 27), none, .fa 1 (.s 2)⟩, ⟨(some 28), none, .ld (.int .u64) (.s 27)⟩, ⟨(some 29), none, .fa 1 (.s 3)⟩, ⟨(some 30), none, .ld (.int .u64) (.s 29)⟩, ⟨(some 31), none, .mov (.s 6)⟩, ⟨(some 32), none, .carry false (.s 28) (.s 30) (.s 31)⟩, ⟨(some 26), none, .mov (.s 32)⟩, ⟨(some 33), none, .ext 0 (.s 26)⟩, ⟨(some 34), none, .ext 1 (.s 26)⟩, ⟨(some 7), none, .mov (.s 33)⟩, ⟨(some 8), none, .mov (.s 34)⟩])
 (.seq (.reg [⟨(some 35), none, .fa 0 (.s 2)⟩, ⟨(some 36), none, .ld .bool (.s 35)⟩, ⟨(some 37), none, .mov (.s 7)⟩, ⟨(some 38), none, .mov (.s 5)⟩, ⟨(some 39), none, .build [(.t (.bool false)), (.t (.int .u64 0)), (.t (.int .u64 0))] [(0, .bool, (.s 36)), (1, (.int .u64), (.s 37)), (2, (.int .u64), (.s 38))]⟩, ⟨none, none, .st (.agg [.bool, (.int .u64), (.int .u64)]) (.s 4) (.s 39)⟩])
 .ret)))
 .skip))
 (.seq (.seq (.reg [⟨(some 40), none, .ld (.agg [.bool, (.int .u64), (.int .u64)]) (.s 2)⟩, ⟨(some 41), none, .ld (.agg [.bool, (.int .u64), (.int .u64)]) (.s 3)⟩, ⟨(some 42), none, .call false 92 (.int .i64) [(.s 40), (.s 41)]⟩, ⟨(some 43), none, .bin .lss (.s 42) (.c (.t (.int .i64 0)))⟩])
 (.cond (.s 43)
 (.reg [⟨(some 44), none, .ld (.agg [.bool, (.int .u64), (.int .u64)]) (.s 3)⟩, ⟨(some 45), none, .ld (.agg [.bool, (.int .u64), (.int .u64)]) (.s 2)⟩, ⟨none, none, .st (.agg [.bool, (.int .u64), (.int .u64)]) (.s 2) (.s 44)⟩, ⟨none, none, .st (.agg [.bool, (.int .u64), (.int .u64)]) (.s 3) (.s 45)⟩])
 .skip))
 (.seq (.reg [⟨(some 47), none, .fa 2 (.s 2)⟩, ⟨(some 48), none, .ld (.int .u64) (.s 47)⟩, ⟨(some 49), none, .fa 2 (.s 3)⟩, ⟨(some 50), none, .ld (.int .u64) (.s 49)⟩, ⟨(some 51), none, .carry true (.s 48) (.s 50) (.c (.t (.int .u64 0)))⟩, ⟨(some 46), none, .mov (.s 51)⟩, ⟨(some 52), none, .ext 0 (.s 46)⟩, ⟨(some 53), none, .ext 1 (.s 46)⟩, ⟨(some 9), none, .mov (.s 52)⟩, ⟨(some 10), none, .mov (.s 53)⟩])
 (.seq (.reg [⟨(some 55), none, .fa 1 (.s 2)⟩, ⟨(some 56), none, .ld (.int .u64) (.s 55)⟩, ⟨(some 57), none, .fa 1 (.s 3)⟩, ⟨(some 58), none, .ld (.int .u64) (.s 57)⟩, ⟨(some 59), none, .mov (.s 10)⟩, ⟨(some 60), none, .carry true (.s 56) (.s 58) (.s 59)⟩, ⟨(some 54), none, .mov (.s 60)⟩, ⟨(some 61), none, .ext 0 (.s 54)⟩, ⟨(some 62), none, .ext 1 (.s 54)⟩, ⟨(some 11), none, .mov (.s 61)⟩, ⟨(some 12), none, .mov (.s 62)⟩])
 (.seq (.reg [⟨(some 63), none, .fa 0 (.s 2)⟩, ⟨(some 64), none, .ld .bool (.s 63)⟩, ⟨(some 65), none, .mov (.s 64)⟩, ⟨(some 66), (some (65, true)), .mov (.s 11)⟩, ⟨(some 67), (some (65, true)), .bin .neq (.s 66) (.c (.t (.int .u64 0)))⟩, ⟨(some 68), (some (65, true)), .mov (.s 67)⟩, ⟨(some 69), (some (68, false)), .mov (.s 9)⟩, ⟨(some 70), (some (68, false)), .bin .neq (.s 69) (.c (.t (.int .u64 0)))⟩, ⟨(some 71), (some (65, true)), .pick (.s 68) (.c (.t (.bool true))) (.s 70)⟩, ⟨(some 72), none, .pick (.s 65) (.s 71) (.c (.t (.bool false)))⟩, ⟨(some 73), none, .mov (.s 11)⟩, ⟨(some 74), none, .mov (.s 9)⟩, ⟨(some 75), none, .build [(.t (.bool false)), (.t (.int .u64 0)), (.t (.int .u64 0))] [(0, .bool, (.s 72)), (1, (.int .u64), (.s 73)), (2, (.int .u64), (.s 74))]⟩, ⟨none, none, .st (.agg [.bool, (.int .u64), (.int .u64)]) (.s 4) (.s 75)⟩])
 .ret)))))),
 [.cell 4 (.agg [.bool, (.int .u64), (.int .u64)])]⟩
theorem ok64 : compF Try.prog 64 [] [] = some ir64 := by kernel_rfl

/-- tenet/tenetref23.ratio -/
def ir65 : FInfo := ⟨74,
 (.seq (.reg [⟨(some 4), none, .box (.agg [.bool, (.int .u64), (.int .u64)]) (.s 0)⟩, ⟨(some 8), none, .new (.agg [(.int .i64), (.int .i64)]) (.t (.agg [(.int .i64 0), (.int .i64 0)]))⟩, ⟨(some 9), none, .mov (.c (.t (.int .i64 0)))⟩])
 (.seq (.reg [⟨(some 15), none, .ld (.agg [.bool, (.int .u64), (.int .u64)]) (.s 4)⟩, ⟨(some 16), none, .mov (.s 1)⟩, ⟨(some 17), none, .conv .u64 (.s 16)⟩, ⟨(some 18), none, .call false 93 (.tup [(.agg [.bool, (.int .u64), (.int .u64)]), (.int .u64)]) [(.s 15), (.s 17)]⟩, ⟨(some 14), none, .mov (.s 18)⟩, ⟨(some 19), none, .ext 0 (.s 14)⟩, ⟨(some 20), none, .ext 1 (.s 14)⟩, ⟨(some 10), none, .new (.agg [.bool, (.int .u64), (.int .u64)]) (.t (.agg [(.bool false), (.int .u64 0), (.int .u64 0)]))⟩, ⟨none, none, .st (.agg [.bool, (.int .u64), (.int .u64)]) (.s 10) (.s 19)⟩, ⟨(some 11), none, .mov (.s 20)⟩])
 (.seq (.reg [⟨(some 21), none, .mov (.s 11)⟩, ⟨(some 22), none, .conv .i64 (.s 21)⟩, ⟨(some 23), none, .mov (.s 1)⟩, ⟨(some 24), none, .call false 63 (.int .i64) [(.s 22), (.s 23)]⟩, ⟨(some 12), none, .mov (.s 24)⟩])
 (.seq (.reg [⟨(some 26), none, .ld (.agg [.bool, (.int .u64), (.int .u64)]) (.s 4)⟩, ⟨(some 27), none, .mov (.s 12)⟩, ⟨(some 28), none, .conv .u64 (.s 27)⟩, ⟨(some 29), none, .call false 93 (.tup [(.agg [.bool, (.int .u64), (.int .u64)]), (.int .u64)]) [(.s 26), (.s 28)]⟩, ⟨(some 25), none, .mov (.s 29)⟩, ⟨(some 30), none, .ext 0 (.s 25)⟩, ⟨(some 31), none, .ext 1 (.s 25)⟩, ⟨none, none, .st (.agg [.bool, (.int .u64), (.int .u64)]) (.s 4) (.s 30)⟩])
 (.seq (.reg [⟨(some 32), none, .mov (.s 1)⟩, ⟨(some 33), none, .mov (.s 12)⟩, ⟨(some 34), none, .bin .quo (.s 32) (.s 33)⟩, ⟨(some 35), none, .mov (.s 2)⟩, ⟨(some 36), none, .call false 55 (.agg [.bool, (.int .u64), (.int .u64)]) [(.s 34), (.s 35)]⟩, ⟨(some 13), none, .new (.agg [.bool, (.int .u64), (.int .u64)]) (.t (.agg [(.bool false), (.int .u64 0), (.int .u64 0)]))⟩, ⟨none, none, .st (.agg [.bool, (.int .u64), (.int .u64)]) (.s 13) (.s 36)⟩])
 (.seq (.seq (.reg [⟨(some 37), none, .fa 1 (.s 13)⟩, ⟨(some 38), none, .ld (.int .u64) (.s 37)⟩, ⟨(some 39), none, .bin .neq (.s 38) (.c (.t (.int .u64 0)))⟩, ⟨(some 40), none, .mov (.s 39)⟩, ⟨(some 41), (some (40, false)), .fa 2 (.s 13)⟩, ⟨(some 42), (some (40, false)), .ld (.int .u64) (.s 41)⟩, ⟨(some 43), (some (40, false)), .bin .gtr (.s 42) (.c (.t (.int .u64 1099511627776)))⟩, ⟨(some 44), none, .pick (.s 40) (.c (.t (.bool true))) (.s 43)⟩])
 (.cond (.s 44)
 (.seq (.reg [⟨(some 45), none, .build [(.t (.int .i64 0)), (.t (.int .i64 0))] []⟩, ⟨none, none, .st (.agg [(.int .i64), (.int .i64)]) (.s 8) (.s 45)⟩, ⟨(some 9), none, .mov (.c (.t (.int .i64 2)))⟩])
 .ret)
 .skip))
 (.seq (.reg [⟨(some 46), none, .ld (.agg [.bool, (.int .u64), (.int .u64)]) (.s 13)⟩, ⟨(some 47), none, .call false 56 (.int .i64) [(.s 46)]⟩, ⟨(some 48), none, .mov (.s 3)⟩, ⟨(some 49), none, .call false 55 (.agg [.bool, (.int .u64), (.int .u64)]) [(.s 47), (.s 48)]⟩, ⟨none, none, .st (.agg [.bool, (.int .u64), (.int .u64)]) (.s 13) (.s 49)⟩])
 (.seq (.seq (.reg [⟨(some 50), none, .fa 1 (.s 13)⟩, ⟨(some 51), none, .ld (.int .u64) (.s 50)⟩, ⟨(some 52), none, .bin .neq (.s 51) (.c (.t (.int .u64 0)))⟩, ⟨(some 53), none, .mov (.s 52)⟩, ⟨(some 54), (some (53, false)), .fa 2 (.s 13)⟩, ⟨(some 55), (some (53, false)), .ld (.int .u64) (.s 54)⟩, ⟨(some 56), (some (53, false)), .bin .gtr (.s 55) (.c (.t (.int .u64 1099511627776)))⟩, ⟨(some 57), none, .pick (.s 53) (.c (.t (.bool true))) (.s 56)⟩, ⟨(some 58), none, .mov (.s 57)⟩, ⟨(some 59), (some (58, false)), .fa 1 (.s 4)⟩, ⟨(some 60), (some (58, false)), .ld (.int .u64) (.s 59)⟩, ⟨(some 61), (some (58, false)), .bin .neq (.s 60) (.c (.t (.int .u64 0)))⟩, ⟨(some 62), none, .pick (.s 58) (.c (.t (.bool true))) (.s 61)⟩, ⟨(some 63), none, .mov (.s 62)⟩, ⟨(some 64), (some (63, false)), .fa 2 (.s 4)⟩, ⟨(some 65), (some (63, false)), .ld (.int .u64) (.s 64)⟩, ⟨(some 66), (some (63, false)), .bin .gtr (.s 65) (.c (.t (.int .u64 1099511627776)))⟩, ⟨(some 67), none, .pick (.s 63) (.c (.t (.bool true))) (.s 66)⟩])
 (.cond (.s 67)
 (.seq (.reg [⟨(some 68), none, .build [(.t (.int .i64 0)), (.t (.int .i64 0))] []⟩, ⟨none, none, .st (.agg [(.int .i64), (.int .i64)]) (.s 8) (.s 68)⟩, ⟨(some 9), none, .mov (.c (.t (.int .i64 2)))⟩])
 .ret)
 .skip))
 (.seq (.dreg [⟨(some 69), none, .ld (.agg [.bool, (.int .u64), (.int .u64)]) (.s 4)⟩, ⟨(some 70), none, .call false 56 (.int .i64) [(.s 69)]⟩, ⟨(some 71), none, .ld (.agg [.bool, (.int .u64), (.int .u64)]) (.s 13)⟩, ⟨(some 72), none, .call false 56 (.int .i64) [(.s 71)]⟩, ⟨(some 73), none, .build [(.t (.int .i64 0)), (.t (.int .i64 0))] [(0, (.int .i64), (.s 70)), (1, (.int .i64), (.s 72))]⟩, ⟨none, none, .st (.agg [(.int .i64), (.int .i64)]) (.s 8) (.s 73)⟩, ⟨(some 9), none, .mov (.c (.t (.int .i64 0)))⟩] [0, 1, 0, 7, 15, 31, 63])
 .ret))))))))),
 [.cell 8 (.agg [(.int .i64), (.int .i64)]), .slot 9]⟩
theorem ok65 : compF Try.prog 65 [] [] = some ir65 := by kernel_rfl

/-- tenet/quot.isList -/
def ir66 : FInfo := ⟨10,
 (.seq (.reg [⟨(some 2), none, .mov (.c (.t (.bool false)))⟩])
 (.seq (.reg [⟨(some 3), none, .mov (.s 0)⟩, ⟨(some 4), none, .len (.s 3)⟩, ⟨(some 5), none, .bin .leq (.s 4) (.c (.t (.int .i64 60)))⟩, ⟨(some 6), none, .mov (.s 5)⟩, ⟨(some 7), (some (6, true)), .mov (.s 0)⟩, ⟨(some 8), (some (6, true)), .call false 70 .bool [(.s 7)]⟩, ⟨(some 9), none, .pick (.s 6) (.s 8) (.c (.t (.bool false)))⟩, ⟨(some 2), none, .mov (.s 9)⟩])
 .ret)),
 [.slot 2]⟩
theorem ok66 : compF Try.prog 66 [] [] = some ir66 := by kernel_rfl

/-- tenet/quot.told -/
def ir67 : FInfo := ⟨8,
 (.seq (.reg [⟨(some 2), none, .mov (.c .nilS)⟩, ⟨(some 3), none, .mov (.c (.t (.int .i64 0)))⟩])
 (.seq (.seq (.reg [⟨(some 4), none, .mov (.s 0)⟩, ⟨(some 5), none, .len (.s 4)⟩, ⟨(some 6), none, .bin .gtr (.s 5) (.c (.t (.int .i64 60)))⟩])
 (.cond (.s 6)
 (.seq (.reg [⟨(some 2), none, .mov (.c .nilS)⟩, ⟨(some 3), none, .mov (.c (.t (.int .i64 2)))⟩])
 .ret)
 .skip))
 (.seq (.reg [⟨(some 7), none, .mov (.s 0)⟩, ⟨(some 2), none, .mov (.s 7)⟩, ⟨(some 3), none, .mov (.c (.t (.int .i64 0)))⟩])
 .ret))),
 [.slot 2, .slot 3]⟩
theorem ok67 : compF Try.prog 67 [] [] = some ir67 := by kernel_rfl

/-- tenet/quot.made[int] -/
def ir68 : FInfo := ⟨9,
 (.seq (.reg [⟨(some 2), none, .mov (.c .nilS)⟩])
 (.seq (.reg [⟨(some 4), none, .mov (.s 0)⟩, ⟨(some 5), none, .clone (.int .i64) 8 (.s 4)⟩, ⟨(some 3), none, .mov (.s 5)⟩])
 (.seq (.reg [⟨(some 6), none, .mov (.s 3)⟩, ⟨(some 7), none, .call false 95 (.tup []) [(.s 6)]⟩])
 (.seq (.reg [⟨(some 8), none, .mov (.s 3)⟩, ⟨(some 2), none, .mov (.s 8)⟩])
 .ret)))),
 [.slot 2]⟩
theorem ok68 : compF Try.prog 68 [] [] = some ir68 := by kernel_rfl

/-- slices.Concat[[]int,int] -/
def ir69 : FInfo := ⟨36,
 (.seq (.reg [⟨(some 2), none, .mov (.c .nilS)⟩])
 (.seq (.reg [⟨(some 3), none, .mov (.c (.t (.int .i64 0)))⟩])
 (.seq (.seq (.reg [⟨(some 9), none, .mov (.s 0)⟩, ⟨(some 10), none, .len (.s 9)⟩, ⟨(some 11), none, .mov (.c (.t (.int .i64 0)))⟩])
 (.block 0 (.loop [0, 3, 9, 10, 11] (.seq (.reg [⟨(some 12), none, .bin .lss (.s 11) (.s 10)⟩])
 (.seq (.cond (.s 12)
 .skip
 (.exit 0))
 (.seq (.block 1 (.seq (.reg [⟨(some 13), none, .ia .slc (.s 9) (.s 11)⟩, ⟨(some 14), none, .ld .slc (.s 13)⟩, ⟨(some 5), none, .mov (.s 14)⟩])
 (.seq (.reg [⟨(some 15), none, .mov (.s 3)⟩, ⟨(some 16), none, .mov (.s 5)⟩, ⟨(some 17), none, .len (.s 16)⟩, ⟨(some 18), none, .bin .add (.s 15) (.s 17)⟩, ⟨(some 3), none, .mov (.s 18)⟩])
 (.seq (.reg [⟨(some 19), none, .mov (.s 3)⟩, ⟨(some 20), none, .bin .lss (.s 19) (.c (.t (.int .i64 0)))⟩])
 (.cond (.s 20)
 (.reg [⟨(some 21), none, .fail⟩, ⟨none, none, .fail⟩])
 .skip)))))
 (.reg [⟨(some 22), none, .bin .add (.s 11) (.c (.t (.int .i64 1)))⟩, ⟨(some 11), none, .mov (.s 22)⟩])))))))
 (.seq (.reg [⟨(some 23), none, .mov (.s 3)⟩, ⟨(some 24), none, .call true 96 .slc [(.c .nilS), (.s 23)]⟩, ⟨(some 6), none, .mov (.s 24)⟩])
 (.seq (.seq (.reg [⟨(some 25), none, .mov (.s 0)⟩, ⟨(some 26), none, .len (.s 25)⟩, ⟨(some 27), none, .mov (.c (.t (.int .i64 0)))⟩])
 (.block 2 (.loop [6, 25, 26, 27] (.seq (.reg [⟨(some 28), none, .bin .lss (.s 27) (.s 26)⟩])
 (.seq (.cond (.s 28)
 .skip
 (.exit 2))
 (.seq (.block 3 (.seq (.reg [⟨(some 29), none, .ia .slc (.s 25) (.s 27)⟩, ⟨(some 30), none, .ld .slc (.s 29)⟩, ⟨(some 8), none, .mov (.s 30)⟩])
 (.reg [⟨(some 31), none, .mov (.s 6)⟩, ⟨(some 32), none, .mov (.s 8)⟩, ⟨(some 33), none, .app (.int .i64) 8 (.s 31) (.s 32)⟩, ⟨(some 6), none, .mov (.s 33)⟩])))
 (.reg [⟨(some 34), none, .bin .add (.s 27) (.c (.t (.int .i64 1)))⟩, ⟨(some 27), none, .mov (.s 34)⟩])))))))
 (.seq (.reg [⟨(some 35), none, .mov (.s 6)⟩, ⟨(some 2), none, .mov (.s 35)⟩])
 .ret)))))),
 [.slot 2]⟩
theorem ok69 : compF Try.prog 69 [[0, 3, 9, 10, 11], [6, 25, 26, 27]] [24] = some ir69 := by kernel_rfl


end Go.Proofs.Aw.Qa
