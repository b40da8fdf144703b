/-
  QUOT: the sort of a list of numbers (a row of fewer than 128), as a summary.
-/
import Derived.Test.YtfkidinbolmkiaaQcIr1
import Derived.Test.YtfkidinbolmkiaaQcSrt
import Derived.Test.YtfkidinbolmkiaaBw4
set_option linter.unusedSimpArgs false
set_option linter.unusedVariables false
set_option maxRecDepth 100000
namespace Go.Proofs.Bw.Qc
open Go.Proofs

def tab0 : Tab := .node 107 (.node 106 (.leaf 95 ir95) (.sum 106 sortC sortA)) (.node 122 (.leaf 107 ir107) (.leaf 122 ir122))
theorem tab0Ok : tab0.Ok Try.prog := ⟨⟨⟨_, _, ok95⟩, srt106⟩, ⟨_, _, ok107⟩, ⟨_, _, ok122⟩⟩

/-- A row of fewer than 128 numbers. -/
def rowC (l : List Tree) : Bool := allI l && Nat.blt l.length 128

def C95 (args : List AV) (H : Heap) : Bool :=
  match args, H with
  | [.hsl 0 none], [.tre (.int .i64) l] => rowC l
  | _, _ => false

def S95 (args : List AV) (H : Heap) : Option (AV × Heap) :=
  match args, H with
  | [.hsl 0 none], [.tre (.int .i64) l] => some (.t (.tup []), [.tre (.int .i64) (sortT l)])
  | _, _ => none

def lenOk (n : Nat) : Bool :=
  match evP tab0.env 4 107 [.int .u64 n] with
  | some (.int .i64 z) => limOk n z
  | _ => false

theorem lenAll : (List.range 128).all lenOk = true := by kernel_rfl

theorem len_small {n : Nat} (h : n < 128) : ∃ z, evP tab0.env 4 107 [.int .u64 n] = some (.int .i64 z) ∧ limOk n z = true := by
  have := List.all_eq_true.1 lenAll n (List.mem_range.2 h)
  unfold lenOk at this
  split at this
  · rename_i z hz; exact ⟨z, hz, this⟩
  · cases this

theorem r95h (n : Nat) (l : List Tree) : evR (Tab.env tab0) n 95 [AV.hsl 0 none] [HObj.tre (Sh.int IntKind.i64) l] =
  Option.bind (evP (Tab.env tab0) n 107 [Tree.int IntKind.u64 (IntKind.wrap IntKind.u64 (↑(List.length l) : Int))]) fun y =>
  bif Sh.ok (Sh.int IntKind.i64) y then
    bif
        true && true &&
          (true && (true && (true && true)) &&
            (allI l &&
              (decide ((0 : Int) = 0) &&
                (decide ((↑(List.length l) : Int) = (↑(List.length l) : Int)) &&
                  (Nat.ble (Nat.succ (List.length l)) 4611686018427387904 && limOk (List.length l) (Tree.toInt y)))))) then
      some (AV.t (Tree.tup []), [HObj.tre (Sh.int IntKind.i64) (sortT l)])
    else none
  else none := by kernel_rfl

theorem rowC_spec {l : List Tree} (h : rowC l = true) : allI l = true ∧ l.length < 128 := by
  simp only [rowC, Bool.and_eq_true] at h
  exact ⟨h.1, by simpa using h.2⟩

theorem sum95 : SumOk Try.prog 95 C95 S95 := run_sum tab0Ok (by kernel_rfl) fun args H r hC hS => by
  unfold C95 at hC
  split at hC
  · rename_i l
    simp only [S95] at hS
    cases hS
    obtain ⟨h1, h2⟩ := rowC_spec hC
    obtain ⟨z, hz, hl⟩ := len_small h2
    refine ⟨5, ?_⟩
    show evR tab0.env 4 95 _ _ = _
    rw [r95h, wu64 (by omega), hz, Option.bind_some, ok_int, cond_true, bif_pos]
    simp [h1, hl]; omega
  · cases hC

end Go.Proofs.Bw.Qc
