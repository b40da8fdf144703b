/-
  QUOT: lists joined: the tables.
-/
import Derived.Test.YtfkidinbolmkiaaQdIr1
import Derived.Test.YtfkidinbolmkiaaQcSums
set_option linter.unusedSimpArgs false
set_option linter.unusedVariables false
set_option maxRecDepth 100000
namespace Go.Proofs.Bw.Qd
open Go.Proofs

def C96 (args : List AV) (H : Heap) : Bool :=
  match args, H with
  | [.nilS, .t (.int .i64 k)], [] => decide (0 < k) && decide (k < 1000)
  | _, _ => false
def S96 (args : List AV) (H : Heap) : Option (AV × Heap) :=
  match args, H with
  | [.nilS, .t (.int .i64 k)], [] => some (.hsub 0 0 0, [.tre (.int .i64) (List.replicate k.toNat (.int .i64 0))])
  | _, _ => none

def tab4 : Tab := .node 96 (.leaf 69 ir69) (.leaf 96 ir96)
theorem tab4Ok : tab4.Ok Try.prog := ⟨⟨_, _, ok69⟩, ⟨_, _, ok96⟩⟩

theorem r96h (n : Nat) (k : Int) : evR (Tab.env tab4) n 96 [AV.nilS, AV.t (Tree.int IntKind.i64 k)] [] =
  bif decide (k < 0) then none
else
  bif decide (IntKind.wrap IntKind.i64 (k - IntKind.wrap IntKind.i64 (0 - (↑(0 : Nat) : Int))) > 0) then
    bif
        decide (1 ≤ IntKind.wrap IntKind.i64 (k - IntKind.wrap IntKind.i64 (0 - (↑(0 : Nat) : Int)))) &&
          decide (IntKind.wrap IntKind.i64 (k - IntKind.wrap IntKind.i64 (0 - (↑(0 : Nat) : Int))) * (↑(8 : Nat) : Int) ≤ 140737488355328) then
      some
        (AV.hsub 0 0 0,
          [HObj.tre (Sh.int IntKind.i64)
              (List.replicate (Int.toNat (IntKind.wrap IntKind.i64 (k - IntKind.wrap IntKind.i64 (0 - (↑(0 : Nat) : Int))))) (Tree.int IntKind.i64 0))])
    else none
  else some (AV.nilS, []) := by kernel_rfl

theorem sum96 : SumOk Try.prog 96 C96 S96 := run_sum tab4Ok (by kernel_rfl) fun args H r hC hS => by
  unfold C96 at hC
  split at hC
  · rename_i k
    simp only [S96] at hS
    cases hS
    simp only [Bool.and_eq_true, decide_eq_true_eq] at hC
    have w0 : IntKind.wrap .i64 (0 - (↑(0 : Nat) : Int)) = 0 := w64 (by omega)
    have w1 : IntKind.wrap .i64 (k - 0) = k := by rw [Int.sub_zero]; exact w64 (by omega)
    refine ⟨5, ?_⟩
    show evR tab4.env 4 96 _ _ = _
    rw [r96h, w0, w1, bif_neg (by simp; omega), bif_pos (by simp; omega), bif_pos (by simp; omega)]
  · cases hC

def tab3 : Tab := .node 96 (.leaf 69 ir69) (.sum 96 C96 S96)
theorem tab3Ok : tab3.Ok Try.prog := ⟨⟨_, _, ok69⟩, sum96⟩

end Go.Proofs.Bw.Qd
