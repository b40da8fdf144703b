/- What the functions that the law reaches come to, and why. -/
import Derived.Test.YtkgffjkdhmdfkaaGreatDoorPart2
import Derived.Test.YtkgffjkdhmdfkaaGreatDoorPart1
import Derived.Test.YtkgffjkdhmdfkaaGreatDoorDw5
set_option linter.unusedSimpArgs false
set_option linter.unusedVariables false

/-
  CertSizes: newMachine.
-/
section
set_option maxRecDepth 100000
namespace Go.Proofs.Dw.Za
open Go.Proofs

def ir141 : FInfo := ⟨68,
 (.seq (.reg [⟨(some 1), none, .box (.agg [.slc]) (.s 0)⟩, ⟨(some 2), none, .mov (.c (.t .nilp))⟩])
 (.seq (.reg [⟨(some 4), none, .ld (.agg [.slc]) (.s 1)⟩, ⟨(some 5), none, .build [.nilS, .nilS, (.t (.int .i64 0))] [(0, (.agg [.slc]), (.s 4))]⟩, ⟨(some 6), none, .box (.agg [.slc, .slc, (.int .i64)]) (.s 5)⟩, ⟨(some 3), none, .mov (.s 6)⟩])
 (.seq (.reg [⟨(some 7), none, .mov (.s 3)⟩, ⟨(some 8), none, .mks .any 8 (.t .nilfn) (.c (.t (.int .i64 31))) (.c (.t (.int .i64 31)))⟩, ⟨(some 9), none, .nonnil (.s 7)⟩, ⟨(some 10), none, .fa 1 (.s 9)⟩, ⟨none, none, .st .slc (.s 10) (.s 8)⟩])
 (.seq (.reg [⟨(some 11), none, .mov (.s 3)⟩, ⟨(some 12), none, .nonnil (.s 11)⟩, ⟨(some 13), none, .fa 1 (.s 12)⟩, ⟨(some 14), none, .ld .slc (.s 13)⟩, ⟨(some 15), none, .mov (.s 3)⟩, ⟨(some 16), none, .mkf 162 [(.s 15)] []⟩, ⟨(some 17), none, .ia .any (.s 14) (.c (.t (.int .i64 7)))⟩, ⟨none, none, .st .any (.s 17) (.s 16)⟩])
 (.seq (.reg [⟨(some 18), none, .mov (.s 3)⟩, ⟨(some 19), none, .nonnil (.s 18)⟩, ⟨(some 20), none, .fa 1 (.s 19)⟩, ⟨(some 21), none, .ld .slc (.s 20)⟩, ⟨(some 22), none, .mov (.s 3)⟩, ⟨(some 23), none, .mkf 163 [(.s 22)] []⟩, ⟨(some 24), none, .ia .any (.s 21) (.c (.t (.int .i64 10)))⟩, ⟨none, none, .st .any (.s 24) (.s 23)⟩])
 (.seq (.reg [⟨(some 25), none, .mov (.s 3)⟩, ⟨(some 26), none, .nonnil (.s 25)⟩, ⟨(some 27), none, .fa 1 (.s 26)⟩, ⟨(some 28), none, .ld .slc (.s 27)⟩, ⟨(some 29), none, .mov (.s 3)⟩, ⟨(some 30), none, .mkf 163 [(.s 29)] []⟩, ⟨(some 31), none, .ia .any (.s 28) (.c (.t (.int .i64 11)))⟩, ⟨none, none, .st .any (.s 31) (.s 30)⟩])
 (.seq (.reg [⟨(some 32), none, .mov (.s 3)⟩, ⟨(some 33), none, .nonnil (.s 32)⟩, ⟨(some 34), none, .fa 1 (.s 33)⟩, ⟨(some 35), none, .ld .slc (.s 34)⟩, ⟨(some 36), none, .mov (.s 3)⟩, ⟨(some 37), none, .mkf 164 [(.s 36)] []⟩, ⟨(some 38), none, .ia .any (.s 35) (.c (.t (.int .i64 2)))⟩, ⟨none, none, .st .any (.s 38) (.s 37)⟩])
 (.seq (.reg [⟨(some 39), none, .mov (.s 3)⟩, ⟨(some 40), none, .nonnil (.s 39)⟩, ⟨(some 41), none, .fa 1 (.s 40)⟩, ⟨(some 42), none, .ld .slc (.s 41)⟩, ⟨(some 43), none, .mov (.s 3)⟩, ⟨(some 44), none, .mkf 165 [(.s 43)] []⟩, ⟨(some 45), none, .ia .any (.s 42) (.c (.t (.int .i64 28)))⟩, ⟨none, none, .st .any (.s 45) (.s 44)⟩])
 (.seq (.reg [⟨(some 46), none, .mov (.s 3)⟩, ⟨(some 47), none, .nonnil (.s 46)⟩, ⟨(some 48), none, .fa 1 (.s 47)⟩, ⟨(some 49), none, .ld .slc (.s 48)⟩, ⟨(some 50), none, .mov (.s 3)⟩, ⟨(some 51), none, .mkf 166 [(.s 50)] []⟩, ⟨(some 52), none, .ia .any (.s 49) (.c (.t (.int .i64 25)))⟩, ⟨none, none, .st .any (.s 52) (.s 51)⟩])
 (.seq (.reg [⟨(some 53), none, .mov (.s 3)⟩, ⟨(some 54), none, .nonnil (.s 53)⟩, ⟨(some 55), none, .fa 1 (.s 54)⟩, ⟨(some 56), none, .ld .slc (.s 55)⟩, ⟨(some 57), none, .mov (.s 3)⟩, ⟨(some 58), none, .mkf 167 [(.s 57)] []⟩, ⟨(some 59), none, .ia .any (.s 56) (.c (.t (.int .i64 18)))⟩, ⟨none, none, .st .any (.s 59) (.s 58)⟩])
 (.seq (.reg [⟨(some 60), none, .mov (.s 3)⟩, ⟨(some 61), none, .nonnil (.s 60)⟩, ⟨(some 62), none, .fa 1 (.s 61)⟩, ⟨(some 63), none, .ld .slc (.s 62)⟩, ⟨(some 64), none, .mov (.s 3)⟩, ⟨(some 65), none, .mkf 168 [(.s 64)] []⟩, ⟨(some 66), none, .ia .any (.s 63) (.c (.t (.int .i64 21)))⟩, ⟨none, none, .st .any (.s 66) (.s 65)⟩])
 (.seq (.reg [⟨(some 67), none, .mov (.s 3)⟩, ⟨(some 2), none, .mov (.s 67)⟩])
 .ret)))))))))))),
 [.slot 2]⟩
theorem ok141 : compF Tryz.prog 141 [] (Cfg.mk [] [] [] [] []) = some ir141 := by kernel_rfl

def tabM : Tab := .leaf 141 ir141
theorem tabMOk : tabM.Ok Tryz.prog := ⟨_, _, ok141⟩

theorem run141 (d : List Tree) (G : World') : runFn (Tab.env tabM) 5 141 [.t (.agg [.slc d])] [.wld G] =
    some (.href 2 0 0, [.wld G, .tre (.agg [.slc]) [.agg [.slc d]], .mix (.agg [.slc, .slc, .int .i64]) [.agg [.t (.slc d), .hsl 3 (some 31), .t (.int .i64 0)]], .mix .any (rulesA (.href 2 0 0))]) := by kernel_rfl

theorem runFn_rf {P : Program} {E : Env} (hE : EnvOk P E) (hm : P.follows .mixedOrders = true) (k : Nat) : RfOk P (runFn E k) :=
  fun g args H v H' h => (runFn_sound hE hm k).rf g args H v H' rfl h

theorem mixed : Tryz.prog.follows .mixedOrders = true := by kernel_rfl

theorem sum141 : SumOk Tryz.prog 141 C141 S141 := by
  intro args H v H' _ h
  unfold S141 at h
  split at h
  · rename_i d G _
    cases h
    have rf := runFn_rf (E := Tab.env tabM) (Tab.envOk tabMOk) mixed 5 141 _ _ _ _ (run141 d G)
    exact ⟨rf.1, fun φ w I vals hr sm => Calls.mono (rf.2 φ w I vals hr sm) fun e w' he => promote sm he rfl⟩
  · cases h

end Go.Proofs.Dw.Za
end

/-
  CertSizes: named's summary over the reckoned node.
-/
section
set_option maxRecDepth 100000
namespace Go.Proofs.Dw.Za
open Go.Proofs

/-- tenet/table.node -/
def ir51 : FInfo := ⟨115,
 (.seq (.reg [⟨(some 4), none, .box (.agg [.slc]) (.s 0)⟩, ⟨(some 6), none, .box (.agg [(.int .i64), (.int .i64), .str, .slc, .slc]) (.s 2)⟩, ⟨(some 8), none, .mov (.c (.t .nili))⟩])
 (.seq (.seq (.reg [⟨(some 13), none, .fa 0 (.s 6)⟩, ⟨(some 14), none, .ld (.int .i64) (.s 13)⟩])
 (.block 0 (.seq (.reg [⟨(some 16), none, .bin .eql (.s 14) (.c (.t (.int .i64 2)))⟩, ⟨(some 15), none, .mov (.s 16)⟩])
 (.cond (.s 15)
 (.seq (.reg [⟨(some 18), none, .ld (.agg [.slc]) (.s 4)⟩, ⟨(some 19), none, .fa 2 (.s 6)⟩, ⟨(some 20), none, .ld .str (.s 19)⟩, ⟨(some 21), none, .call false 79 (.tup [(.agg [.str, (.int .i64), (.int .i64), (.int .i64), (.int .i64), .str, .slc, .slc, (.int .i64), (.int .i64), .str, .slc, .slc, (.int .i64), (.int .i64), .str, .slc, .slc, (.int .i64), .slc, (.int .i64), .slc, .slc]), .bool]) [(.s 18), (.s 20)]⟩, ⟨(some 17), none, .mov (.s 21)⟩, ⟨(some 22), none, .ext 0 (.s 17)⟩, ⟨(some 23), none, .ext 1 (.s 17)⟩, ⟨(some 9), none, .new (.agg [.str, (.int .i64), (.int .i64), (.int .i64), (.int .i64), .str, .slc, .slc, (.int .i64), (.int .i64), .str, .slc, .slc, (.int .i64), (.int .i64), .str, .slc, .slc, (.int .i64), .slc, (.int .i64), .slc, .slc]) (.agg [(.t (.str [])), (.t (.int .i64 0)), (.t (.int .i64 0)), (.t (.int .i64 0)), (.t (.int .i64 0)), (.t (.str [])), .nilS, .nilS, (.t (.int .i64 0)), (.t (.int .i64 0)), (.t (.str [])), .nilS, .nilS, (.t (.int .i64 0)), (.t (.int .i64 0)), (.t (.str [])), .nilS, .nilS, (.t (.int .i64 0)), .nilS, (.t (.int .i64 0)), .nilS, .nilS])⟩, ⟨none, none, .st (.agg [.str, (.int .i64), (.int .i64), (.int .i64), (.int .i64), .str, .slc, .slc, (.int .i64), (.int .i64), .str, .slc, .slc, (.int .i64), (.int .i64), .str, .slc, .slc, (.int .i64), .slc, (.int .i64), .slc, .slc]) (.s 9) (.s 22)⟩, ⟨(some 10), none, .mov (.s 23)⟩])
 (.seq (.seq (.reg [⟨(some 24), none, .mov (.s 10)⟩, ⟨(some 25), none, .un .not (.s 24)⟩])
 (.cond (.s 25)
 (.seq (.reg [⟨(some 26), none, .mov (.s 3)⟩, ⟨(some 27), none, .call false 80 .any [(.c (.t (.int .i64 41))), (.s 26)]⟩, ⟨(some 8), none, .mov (.s 27)⟩])
 .ret)
 .skip))
 (.seq (.reg [⟨(some 28), none, .fa 3 (.s 6)⟩, ⟨(some 29), none, .ld .slc (.s 28)⟩, ⟨(some 30), none, .len (.s 29)⟩, ⟨(some 31), none, .fa 2 (.s 9)⟩, ⟨(some 32), none, .ld (.int .i64) (.s 31)⟩, ⟨(some 33), none, .bin .neq (.s 30) (.s 32)⟩])
 (.cond (.s 33)
 (.seq (.reg [⟨(some 34), none, .mov (.s 3)⟩, ⟨(some 35), none, .call false 80 .any [(.c (.t (.int .i64 42))), (.s 34)]⟩, ⟨(some 8), none, .mov (.s 35)⟩])
 .ret)
 .skip))))
 (.seq (.seq (.reg [⟨(some 37), none, .bin .eql (.s 14) (.c (.t (.int .i64 26)))⟩, ⟨(some 36), none, .mov (.s 37)⟩])
 (.cond (.s 36)
 .skip
 (.seq (.reg [⟨(some 38), none, .bin .eql (.s 14) (.c (.t (.int .i64 27)))⟩, ⟨(some 36), none, .mov (.s 38)⟩])
 (.cond (.s 36)
 .skip
 (.reg [⟨(some 39), none, .bin .eql (.s 14) (.c (.t (.int .i64 28)))⟩, ⟨(some 36), none, .mov (.s 39)⟩])))))
 (.cond (.s 36)
 (.seq (.reg [⟨(some 41), none, .ld (.agg [.slc]) (.s 4)⟩, ⟨(some 42), none, .fa 2 (.s 6)⟩, ⟨(some 43), none, .ld .str (.s 42)⟩, ⟨(some 44), none, .call false 81 (.tup [(.agg [.str, (.int .i64), (.int .i64), (.int .i64), (.int .i64), .str, .slc, .slc, (.int .i64), (.int .i64), .str, .slc, .slc, (.int .i64), (.int .i64), .str, .slc, .slc, (.int .i64), .slc, (.int .i64), .slc, .slc]), .bool]) [(.s 41), (.s 43)]⟩, ⟨(some 40), none, .mov (.s 44)⟩, ⟨(some 45), none, .ext 0 (.s 40)⟩, ⟨(some 46), none, .ext 1 (.s 40)⟩, ⟨(some 11), none, .new (.agg [.str, (.int .i64), (.int .i64), (.int .i64), (.int .i64), .str, .slc, .slc, (.int .i64), (.int .i64), .str, .slc, .slc, (.int .i64), (.int .i64), .str, .slc, .slc, (.int .i64), .slc, (.int .i64), .slc, .slc]) (.agg [(.t (.str [])), (.t (.int .i64 0)), (.t (.int .i64 0)), (.t (.int .i64 0)), (.t (.int .i64 0)), (.t (.str [])), .nilS, .nilS, (.t (.int .i64 0)), (.t (.int .i64 0)), (.t (.str [])), .nilS, .nilS, (.t (.int .i64 0)), (.t (.int .i64 0)), (.t (.str [])), .nilS, .nilS, (.t (.int .i64 0)), .nilS, (.t (.int .i64 0)), .nilS, .nilS])⟩, ⟨none, none, .st (.agg [.str, (.int .i64), (.int .i64), (.int .i64), (.int .i64), .str, .slc, .slc, (.int .i64), (.int .i64), .str, .slc, .slc, (.int .i64), (.int .i64), .str, .slc, .slc, (.int .i64), .slc, (.int .i64), .slc, .slc]) (.s 11) (.s 45)⟩, ⟨(some 12), none, .mov (.s 46)⟩])
 (.seq (.seq (.dreg [⟨(some 47), none, .mov (.s 12)⟩, ⟨(some 48), none, .un .not (.s 47)⟩, ⟨(some 49), none, .mov (.s 48)⟩, ⟨(some 50), (some (49, true)), .mov (.s 1)⟩, ⟨(some 51), (some (49, true)), .eqs true .wptr (.s 50) (.c (.t .nilp))⟩, ⟨(some 52), none, .pick (.s 49) (.s 51) (.c (.t (.bool false)))⟩, ⟨(some 53), none, .mov (.s 52)⟩, ⟨(some 54), (some (53, true)), .fa 0 (.s 6)⟩, ⟨(some 55), (some (53, true)), .ld (.int .i64) (.s 54)⟩, ⟨(some 56), (some (53, true)), .bin .eql (.s 55) (.c (.t (.int .i64 26)))⟩, ⟨(some 57), none, .pick (.s 53) (.s 56) (.c (.t (.bool false)))⟩, ⟨(some 58), none, .mov (.s 57)⟩, ⟨(some 59), (some (58, true)), .fa 2 (.s 6)⟩, ⟨(some 60), (some (58, true)), .ld .str (.s 59)⟩, ⟨(some 61), (some (58, true)), .mov (.s 1)⟩, ⟨(some 62), (some (58, true)), .nonnil (.s 61)⟩, ⟨(some 63), (some (58, true)), .fa 0 (.s 62)⟩, ⟨(some 64), (some (58, true)), .ld .str (.s 63)⟩, ⟨(some 65), (some (58, true)), .bin .eql (.s 60) (.s 64)⟩, ⟨(some 66), none, .pick (.s 58) (.s 65) (.c (.t (.bool false)))⟩, ⟨(some 67), none, .mov (.s 66)⟩, ⟨(some 68), (some (67, true)), .ld (.agg [.slc]) (.s 4)⟩, ⟨(some 69), (some (67, true)), .fa 2 (.s 6)⟩, ⟨(some 70), (some (67, true)), .ld .str (.s 69)⟩, ⟨(some 71), (some (67, true)), .call false 82 (.int .i64) [(.s 68), (.s 70)]⟩, ⟨(some 72), (some (67, true)), .bin .lss (.s 71) (.c (.t (.int .i64 0)))⟩, ⟨(some 73), none, .pick (.s 67) (.s 72) (.c (.t (.bool false)))⟩] [0, 1, 3, 7, 15, 31, 63, 127, 255, 511, 1023, 2047, 4095, 8191, 4095, 20479, 53247, 118783, 262143, 524287, 1048575, 2097151, 2097151, 6291455, 16777215, 33554431, 67108863])
 (.cond (.s 73)
 (.reg [⟨(some 74), none, .mov (.s 1)⟩, ⟨(some 75), none, .nonnil (.s 74)⟩, ⟨(some 76), none, .ld (.agg [.str, (.int .i64), (.int .i64), (.int .i64), (.int .i64), .str, .slc, .slc, (.int .i64), (.int .i64), .str, .slc, .slc, (.int .i64), (.int .i64), .str, .slc, .slc, (.int .i64), .slc, (.int .i64), .slc, .slc]) (.s 75)⟩, ⟨none, none, .st (.agg [.str, (.int .i64), (.int .i64), (.int .i64), (.int .i64), .str, .slc, .slc, (.int .i64), (.int .i64), .str, .slc, .slc, (.int .i64), (.int .i64), .str, .slc, .slc, (.int .i64), .slc, (.int .i64), .slc, .slc]) (.s 11) (.s 76)⟩, ⟨(some 12), none, .mov (.c (.t (.bool true)))⟩])
 .skip))
 (.block 1 (.seq (.reg [⟨(some 78), none, .mov (.s 12)⟩, ⟨(some 79), none, .un .not (.s 78)⟩, ⟨(some 77), none, .mov (.s 79)⟩])
 (.cond (.s 77)
 (.seq (.reg [⟨(some 80), none, .mov (.s 3)⟩, ⟨(some 81), none, .call false 80 .any [(.c (.t (.int .i64 41))), (.s 80)]⟩, ⟨(some 8), none, .mov (.s 81)⟩])
 .ret)
 (.seq (.seq (.reg [⟨(some 83), none, .fa 3 (.s 6)⟩, ⟨(some 84), none, .ld .slc (.s 83)⟩, ⟨(some 85), none, .len (.s 84)⟩, ⟨(some 86), none, .fa 2 (.s 11)⟩, ⟨(some 87), none, .ld (.int .i64) (.s 86)⟩, ⟨(some 88), none, .bin .neq (.s 85) (.s 87)⟩, ⟨(some 82), none, .mov (.s 88)⟩])
 (.cond (.s 82)
 .skip
 (.seq (.reg [⟨(some 89), none, .fa 0 (.s 6)⟩, ⟨(some 90), none, .ld (.int .i64) (.s 89)⟩, ⟨(some 91), none, .bin .eql (.s 90) (.c (.t (.int .i64 27)))⟩, ⟨(some 92), none, .mov (.s 91)⟩, ⟨(some 93), (some (92, true)), .fa 1 (.s 6)⟩, ⟨(some 94), (some (92, true)), .ld (.int .i64) (.s 93)⟩, ⟨(some 95), (some (92, true)), .fa 22 (.s 11)⟩, ⟨(some 96), (some (92, true)), .ld .slc (.s 95)⟩, ⟨(some 97), (some (92, true)), .len (.s 96)⟩, ⟨(some 98), (some (92, true)), .bin .geq (.s 94) (.s 97)⟩, ⟨(some 99), none, .pick (.s 92) (.s 98) (.c (.t (.bool false)))⟩, ⟨(some 82), none, .mov (.s 99)⟩])
 (.cond (.s 82)
 .skip
 (.reg [⟨(some 100), none, .fa 0 (.s 6)⟩, ⟨(some 101), none, .ld (.int .i64) (.s 100)⟩, ⟨(some 102), none, .bin .eql (.s 101) (.c (.t (.int .i64 28)))⟩, ⟨(some 103), none, .mov (.s 102)⟩, ⟨(some 104), (some (103, true)), .fa 4 (.s 6)⟩, ⟨(some 105), (some (103, true)), .ld .slc (.s 104)⟩, ⟨(some 106), (some (103, true)), .len (.s 105)⟩, ⟨(some 107), (some (103, true)), .bin .sub (.s 106) (.c (.t (.int .i64 3)))⟩, ⟨(some 108), (some (103, true)), .fa 22 (.s 11)⟩, ⟨(some 109), (some (103, true)), .ld .slc (.s 108)⟩, ⟨(some 110), (some (103, true)), .len (.s 109)⟩, ⟨(some 111), (some (103, true)), .bin .neq (.s 107) (.s 110)⟩, ⟨(some 112), none, .pick (.s 103) (.s 111) (.c (.t (.bool false)))⟩, ⟨(some 82), none, .mov (.s 112)⟩])))))
 (.cond (.s 82)
 (.seq (.reg [⟨(some 113), none, .mov (.s 3)⟩, ⟨(some 114), none, .call false 80 .any [(.c (.t (.int .i64 42))), (.s 113)]⟩, ⟨(some 8), none, .mov (.s 114)⟩])
 .ret)
 .skip)))))))
 .skip))))))
 (.seq (.reg [⟨(some 8), none, .mov (.c (.t .nili))⟩])
 .ret))),
 [.slot 8]⟩
theorem ok51 : compF Tryz.prog 51 [] (Cfg.mk [] [] [] [] []) = some ir51 := by kernel_rfl


def tabN : Tab := .leaf 51 ir51
theorem tabNOk : tabN.Ok Tryz.prog := ⟨_, _, ok51⟩
def S35n : List AV → Heap → Option (AV × Heap) := S35 tabN.env 40
theorem sum35n : SumOk Tryz.prog 35 C35 S35n := sum35 tabNOk 40

end Go.Proofs.Dw.Za
end

/-
  THE RECKONED CODE as a table: printed by program.
-/
section
set_option maxRecDepth 100000
namespace Go.Proofs.Dw.Za
open Go.Proofs

def tab : Tab := (.node 58 (.node 33 (.node 22 (.node 13 (.node 11 (.node 6 (.leaf 5 ir5) (.leaf 6 ir6)) (.node 12 (.leaf 11 ir11) (.root 12 ir12))) (.node 19 (.node 18 (.leaf 13 ir13) (.leaf 18 ir18)) (.node 20 (.leaf 19 ir19) (.node 21 (.leaf 20 ir20) (.leaf 21 ir21))))) (.node 27 (.node 24 (.node 23 (.leaf 22 ir22) (.root 23 ir23)) (.node 25 (.leaf 24 ir24) (.leaf 25 ir25))) (.node 30 (.node 28 (.leaf 27 ir27) (.root 28 ir28)) (.node 31 (.leaf 30 ir30) (.node 32 (.leaf 31 ir31) (.leaf 32 ir32)))))) (.node 45 (.node 38 (.node 35 (.node 34 (.leaf 33 ir33) (.leaf 34 ir34)) (.node 37 (.sum 35 C35 S35n) (.leaf 37 ir37))) (.node 40 (.node 39 (.sum 38 C38 S38) (.leaf 39 ir39)) (.node 42 (.leaf 40 ir40) (.node 44 (.leaf 42 ir42) (.leaf 44 ir44))))) (.node 50 (.node 47 (.node 46 (.leaf 45 ir45) (.leaf 46 ir46)) (.node 48 (.leaf 47 ir47) (.node 49 (.leaf 48 ir48) (.leaf 49 ir49)))) (.node 54 (.node 53 (.leaf 50 ir50) (.leaf 53 ir53)) (.node 55 (.leaf 54 ir54) (.node 56 (.leaf 55 ir55) (.leaf 56 ir56))))))) (.node 106 (.node 71 (.node 64 (.node 62 (.node 61 (.leaf 58 ir58) (.leaf 61 ir61)) (.node 63 (.leaf 62 ir62) (.leaf 63 ir63))) (.node 67 (.node 65 (.leaf 64 ir64) (.root 65 ir65)) (.node 68 (.leaf 67 ir67) (.node 70 (.leaf 68 ir68) (.leaf 70 ir70))))) (.node 87 (.node 84 (.node 72 (.leaf 71 ir71) (.leaf 72 ir72)) (.node 85 (.leaf 84 ir84) (.leaf 85 ir85))) (.node 93 (.node 88 (.leaf 87 ir87) (.leaf 88 ir88)) (.node 104 (.root 93 ir93) (.node 105 (.leaf 104 ir104) (.leaf 105 ir105)))))) (.node 142 (.node 117 (.node 114 (.node 113 (.leaf 106 ir106) (.root 113 ir113)) (.node 116 (.leaf 114 ir114) (.leaf 116 ir116))) (.node 124 (.node 122 (.leaf 117 ir117) (.leaf 122 ir122)) (.node 140 (.leaf 124 ir124) (.node 141 (.leaf 140 ir140) (.sum 141 C141 S141))))) (.node 176 (.node 154 (.node 146 (.leaf 142 ir142) (.leaf 146 ir146)) (.node 161 (.leaf 154 ir154) (.node 170 (.root 161 ir161) (.leaf 170 ir170)))) (.node 181 (.node 177 (.leaf 176 ir176) (.leaf 177 ir177)) (.node 203 (.leaf 181 ir181) (.node 212 (.leaf 203 ir203) (.leaf 212 ir212))))))))
theorem tabOk : tab.Ok Tryz.prog := ⟨⟨⟨⟨⟨⟨⟨_, _, ok5⟩, ⟨_, _, ok6⟩⟩, ⟨⟨_, _, ok11⟩, ⟨_, _, ok12⟩⟩⟩, ⟨⟨⟨_, _, ok13⟩, ⟨_, _, ok18⟩⟩, ⟨⟨_, _, ok19⟩, ⟨⟨_, _, ok20⟩, ⟨_, _, ok21⟩⟩⟩⟩⟩, ⟨⟨⟨⟨_, _, ok22⟩, ⟨_, _, ok23⟩⟩, ⟨⟨_, _, ok24⟩, ⟨_, _, ok25⟩⟩⟩, ⟨⟨⟨_, _, ok27⟩, ⟨_, _, ok28⟩⟩, ⟨⟨_, _, ok30⟩, ⟨⟨_, _, ok31⟩, ⟨_, _, ok32⟩⟩⟩⟩⟩⟩, ⟨⟨⟨⟨⟨_, _, ok33⟩, ⟨_, _, ok34⟩⟩, ⟨(sum35n), ⟨_, _, ok37⟩⟩⟩, ⟨⟨(sum38), ⟨_, _, ok39⟩⟩, ⟨⟨_, _, ok40⟩, ⟨⟨_, _, ok42⟩, ⟨_, _, ok44⟩⟩⟩⟩⟩, ⟨⟨⟨⟨_, _, ok45⟩, ⟨_, _, ok46⟩⟩, ⟨⟨_, _, ok47⟩, ⟨⟨_, _, ok48⟩, ⟨_, _, ok49⟩⟩⟩⟩, ⟨⟨⟨_, _, ok50⟩, ⟨_, _, ok53⟩⟩, ⟨⟨_, _, ok54⟩, ⟨⟨_, _, ok55⟩, ⟨_, _, ok56⟩⟩⟩⟩⟩⟩⟩, ⟨⟨⟨⟨⟨⟨_, _, ok58⟩, ⟨_, _, ok61⟩⟩, ⟨⟨_, _, ok62⟩, ⟨_, _, ok63⟩⟩⟩, ⟨⟨⟨_, _, ok64⟩, ⟨_, _, ok65⟩⟩, ⟨⟨_, _, ok67⟩, ⟨⟨_, _, ok68⟩, ⟨_, _, ok70⟩⟩⟩⟩⟩, ⟨⟨⟨⟨_, _, ok71⟩, ⟨_, _, ok72⟩⟩, ⟨⟨_, _, ok84⟩, ⟨_, _, ok85⟩⟩⟩, ⟨⟨⟨_, _, ok87⟩, ⟨_, _, ok88⟩⟩, ⟨⟨_, _, ok93⟩, ⟨⟨_, _, ok104⟩, ⟨_, _, ok105⟩⟩⟩⟩⟩⟩, ⟨⟨⟨⟨⟨_, _, ok106⟩, ⟨_, _, ok113⟩⟩, ⟨⟨_, _, ok114⟩, ⟨_, _, ok116⟩⟩⟩, ⟨⟨⟨_, _, ok117⟩, ⟨_, _, ok122⟩⟩, ⟨⟨_, _, ok124⟩, ⟨⟨_, _, ok140⟩, (sum141)⟩⟩⟩⟩, ⟨⟨⟨⟨_, _, ok142⟩, ⟨_, _, ok146⟩⟩, ⟨⟨_, _, ok154⟩, ⟨⟨_, _, ok161⟩, ⟨_, _, ok170⟩⟩⟩⟩, ⟨⟨⟨_, _, ok176⟩, ⟨_, _, ok177⟩⟩, ⟨⟨_, _, ok181⟩, ⟨⟨_, _, ok203⟩, ⟨_, _, ok212⟩⟩⟩⟩⟩⟩⟩⟩

end Go.Proofs.Dw.Za
end

/-
  CertSizes: accepted (26), whose deferred call recovers.
-/
section
set_option maxRecDepth 100000
namespace Go.Proofs.Dw.Za
open Go.Proofs

/-- tenet/cert.accepted -/
def dr26 : DInfo := ⟨6,
 (.pre (.reg [⟨(some 2), none, .new .bool (.t (.bool false))⟩])
 (.dfr [⟨(some 3), none, .mkf 36 [] [(.s 2)]⟩] 3
 (.seq (.reg [⟨(some 4), none, .mov (.s 0)⟩, ⟨(some 5), none, .callvw (.s 4) (.tup []) []⟩])
 (.seq (.reg [⟨none, none, .st .bool (.s 2) (.c (.t (.bool true)))⟩])
 .ret)))),
 [.cell 2 .bool]⟩
theorem okd26 : compDF Tryz.prog 26 [] (Cfg.mk [] [] [5] [] []) = some dr26 := by kernel_rfl
/-- tenet/cert.accepted$1 -/
def rr36 : RInfo := ⟨15, (some (4, [1])),
 (.seq (.reg [⟨(some 5), none, .mov (.s 1)⟩, ⟨(some 6), none, .eqs true .ifc (.s 5) (.c (.t .nili))⟩])
 (.cond (.s 6)
 (.seq (.seq (.reg [⟨(some 8), none, .mov (.s 1)⟩, ⟨(some 9), none, .tas true 75 (.agg []) (.t (.agg [])) (.s 8)⟩, ⟨(some 7), none, .mov (.s 9)⟩, ⟨(some 10), none, .ext 0 (.s 7)⟩, ⟨(some 11), none, .ext 1 (.s 7)⟩, ⟨(some 2), none, .new (.agg []) (.t (.agg []))⟩, ⟨none, none, .st (.agg []) (.s 2) (.s 10)⟩, ⟨(some 3), none, .mov (.s 11)⟩])
 (.seq (.reg [⟨(some 12), none, .mov (.s 3)⟩, ⟨(some 13), none, .un .not (.s 12)⟩])
 (.cond (.s 13)
 (.reg [⟨(some 14), none, .mov (.s 1)⟩, ⟨none, none, .pan (.s 14)⟩])
 .skip)))
 (.reg [⟨none, none, .st .bool (.s 0) (.c (.t (.bool false)))⟩]))
 .skip))⟩
theorem okr36 : compRF Tryz.prog 36 [] (Cfg.mk [] [] [] [] []) = some rr36 := by kernel_rfl


def ri26 (g : Nat) : Option RInfo := bif Nat.beq g 36 then some rr36 else none
theorem ri26_ok : ∀ g ri, ri26 g = some ri → ∃ live rs, compRF Tryz.prog g live rs = some ri := fun g ri h => by
  unfold ri26 at h
  obtain ⟨hb, h⟩ := bif_some h
  cases h
  have := Nat.eq_of_beq_eq_true hb
  subst this
  exact ⟨_, _, okr36⟩
def S26 : List AV → Heap → Option (AV × Heap) := runD (Tab.env tab) 60 dr26 ri26
theorem sum26 : SumOk Tryz.prog 26 (fun _ _ => true) S26 := sumD (Tab.envOk tabOk) mixed okd26 ri26_ok 60

def env1 : Env := ⟨(Tab.env tab).code, fun f => bif Nat.beq f 26 then true else (Tab.env tab).has f, (Tab.env tab).root, fun f a H => bif Nat.beq f 26 then true else (Tab.env tab).cond f a H, fun f a H => bif Nat.beq f 26 then S26 a H else (Tab.env tab).sum f a H⟩

theorem env1Ok : EnvOk Tryz.prog env1 where
  code := (Tab.envOk tabOk).code
  sum := fun g args H v H' h0 h1 h2 => by
    cases hb : Nat.beq g 26 with
    | true =>
      have h2 : (bif Nat.beq g 26 then S26 args H else (Tab.env tab).sum g args H) = some (v, H') := h2
      rw [hb, cond_true] at h2
      rw [Nat.eq_of_beq_eq_true hb]
      exact sum26 args H v H' rfl h2
    | false =>
      have h0 : (bif Nat.beq g 26 then true else (Tab.env tab).has g) = true := h0
      have h1 : (bif Nat.beq g 26 then true else (Tab.env tab).cond g args H) = true := h1
      have h2 : (bif Nat.beq g 26 then S26 args H else (Tab.env tab).sum g args H) = some (v, H') := h2
      rw [hb, cond_false] at h0 h1 h2
      exact (Tab.envOk tabOk).sum g args H v H' h0 h1 h2

end Go.Proofs.Dw.Za
end
