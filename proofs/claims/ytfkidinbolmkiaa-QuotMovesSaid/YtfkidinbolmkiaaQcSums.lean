/-
  QUOT: lists that are made, compacted, thinned out: summaries.
-/
import Derived.Test.YtfkidinbolmkiaaQcS2
set_option linter.unusedSimpArgs false
set_option linter.unusedVariables false
namespace Go.Proofs.Bw.Qc
open Go.Proofs

theorem allI_first {l : List Tree} (h : allI l = true) : firstOk (.int .i64) l = true := by
  cases l with
  | nil => rfl
  | cons x r => cases x <;> first | rfl | cases h

theorem row_ints {l : List Tree} (h : rowC l = true) : l = T (l.map Tree.toInt) ∧ (l.map Tree.toInt).length < 128 := by
  obtain ⟨h1, h2⟩ := rowC_spec h
  exact ⟨allI_map h1, by simpa using h2⟩

/-- A list without repetitions that lie side by side. -/
def cmpT (l : List Tree) : List Tree := T (cmpct (l.map Tree.toInt))
/-- What of a list is in another one. -/
def thinT (b l : List Tree) : List Tree := T ((l.map Tree.toInt).filter (isIn (b.map Tree.toInt)))

def C68 (args : List AV) (H : Heap) : Bool :=
  match args, H with
  | [.t (.slc l)], [] => rowC l
  | _, _ => false
def S68 (args : List AV) (H : Heap) : Option (AV × Heap) :=
  match args, H with
  | [.t (.slc l)], [] => some (.hsl 0 none, [.tre (.int .i64) (sortT l)])
  | _, _ => none

theorem sum68 : SumOk Try.prog 68 C68 S68 := run_sum tab1Ok (by kernel_rfl) fun args H r hC hS => by
  unfold C68 at hC
  split at hC
  · rename_i l
    simp only [S68] at hS
    cases hS
    obtain ⟨h1, h2⟩ := rowC_spec hC
    refine ⟨5, ?_⟩
    show evR tab1.env 4 68 _ _ = _
    rw [r68h, allI_first h1, cond_true, bif_pos (by simp; omega), bif_pos (by simpa using hC)]
  · cases hC

def C98 (args : List AV) (H : Heap) : Bool :=
  match args, H with
  | [.hsl 0 none], [.tre (.int .i64) l] => rowC l
  | _, _ => false
def S98 (args : List AV) (H : Heap) : Option (AV × Heap) :=
  match args, H with
  | [.hsl 0 none], [.tre (.int .i64) l] => some (.hsl 1 none, [.dead, .tre (.int .i64) (cmpT l)])
  | _, _ => none

theorem sum98 : SumOk Try.prog 98 C98 S98 := run_cut tab1Ok (by kernel_rfl) fun args H r hC hS => by
  unfold C98 at hC
  split at hC
  · rename_i l
    simp only [S98] at hS
    cases hS
    obtain ⟨h1, h2⟩ := row_ints hC
    obtain ⟨v, row, m, e1, e2, e3, e4⟩ := s98 (l.map Tree.toInt) (by omega)
    rw [← h1] at e1
    exact ⟨1000 + 1, v, _, 0, m, .int .i64, row, (runFn_evR (n := 1000)).trans e1, rfl, e2, e4, by rw [show cmpT l = row.take m from e3.symm]; rfl⟩
  · cases hC

def C73 (args : List AV) (H : Heap) : Bool :=
  match args, H with
  | [.hsl 0 none, .fn 74 [] [.href 1 0 0]], [.tre (.int .i64) l, .tre .slc [.slc b]] => rowC l && rowC b
  | _, _ => false
def S73 (args : List AV) (H : Heap) : Option (AV × Heap) :=
  match args, H with
  | [.hsl 0 none, .fn 74 [] [.href 1 0 0]], [.tre (.int .i64) l, .tre .slc [.slc b]] => some (.hsl 2 none, [.dead, .tre .slc [.slc b], .tre (.int .i64) (thinT b l)])
  | _, _ => none

theorem sum73 : SumOk Try.prog 73 C73 S73 := run_cut tab1Ok (by kernel_rfl) fun args H r hC hS => by
  unfold C73 at hC
  split at hC
  · rename_i l b
    simp only [S73] at hS
    cases hS
    rw [Bool.and_eq_true] at hC
    obtain ⟨h1, h2⟩ := row_ints hC.1
    obtain ⟨h3, h4⟩ := row_ints hC.2
    obtain ⟨v, row, m, e1, e2, e3, e4⟩ := s73 (l.map Tree.toInt) (b.map Tree.toInt) (by omega) (by omega)
    rw [← h1, ← h3] at e1
    exact ⟨2000 + 1, v, _, 0, m, .int .i64, row, (runFn_evR (n := 2000)).trans e1, rfl, e2, e4, by rw [show thinT b l = row.take m from e3.symm]; rfl⟩
  · cases hC

def tab2 : Tab := .node 98 (.leaf 72 ir72) (.sum 98 C98 S98)
theorem tab2Ok : tab2.Ok Try.prog := ⟨⟨_, _, ok72⟩, sum98⟩

theorem r72h (n : Nat) (l : List Tree) : evR (Tab.env tab2) n 72 [AV.hsl 0 none] [HObj.tre (Sh.int IntKind.i64) l] =
    bif true && true && rowC l then some (AV.hsl 1 none, [HObj.dead, HObj.tre (Sh.int IntKind.i64) (cmpT l)]) else none := by kernel_rfl

theorem sum72 : SumOk Try.prog 72 C98 S98 := run_sum tab2Ok (by kernel_rfl) fun args H r hC hS => by
  unfold C98 at hC
  split at hC
  · rename_i l
    simp only [S98] at hS
    cases hS
    refine ⟨5, ?_⟩
    show evR tab2.env 4 72 _ _ = _
    rw [r72h, bif_pos (by simpa using hC)]
  · cases hC

end Go.Proofs.Bw.Qc
