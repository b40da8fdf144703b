/-
  QUOT: lists joined: a summary.
-/
import Derived.Test.YtfkidinbolmkiaaQdTab
set_option linter.unusedSimpArgs false
set_option linter.unusedVariables false
set_option maxRecDepth 1000000
namespace Go.Proofs.Bw.Qd
open Go.Proofs

theorem r69u (a : List Tree) (b : List Tree) : evR (Tab.env tab3) 6 69 [AV.t (Tree.slc [Tree.slc a, Tree.slc b])] [] =
  bif decide (IntKind.wrap IntKind.i64 (0 + (↑(List.length a : Nat) : Int)) < 0) then none
else
  bif decide (IntKind.wrap IntKind.i64 (IntKind.wrap IntKind.i64 (0 + (↑(List.length a : Nat) : Int)) + (↑(List.length b) : Int)) < 0) then none
  else
    bif
        true && true &&
          (decide (0 < IntKind.wrap IntKind.i64 (IntKind.wrap IntKind.i64 (0 + (↑(List.length a : Nat) : Int)) + (↑(List.length b) : Int))) &&
            decide (IntKind.wrap IntKind.i64 (IntKind.wrap IntKind.i64 (0 + (↑(List.length a : Nat) : Int)) + (↑(List.length b) : Int)) < 1000)) then
      bif firstOk (Sh.int IntKind.i64) a then
        bif
            Nat.beq 1 1 &&
              (Nat.ble 0
                  (List.length
                    (List.replicate (Int.toNat (IntKind.wrap IntKind.i64 (IntKind.wrap IntKind.i64 (0 + (↑(List.length a : Nat) : Int)) + (↑(List.length b) : Int))))
                      (Tree.int IntKind.i64 0))) &&
                Nat.ble ((0 + List.length a) * 8) 140737488355328) then
          bif firstOk (Sh.int IntKind.i64) b then
            bif Nat.beq 1 1 && Nat.ble ((List.length a + List.length b) * 8) 140737488355328 then some (AV.hsl 0 none, [HObj.tre (Sh.int IntKind.i64) (a ++ b)])
            else none
          else none
        else none
      else none
    else none := by kernel_rfl


theorem r69z : runFn tab4.env 8 69 [AV.t (Tree.slc [Tree.slc [], Tree.slc []])] [] = some (.hsl 0 none, [.tre (.int .i64) []]) := by kernel_rfl

def C69 (args : List AV) (H : Heap) : Bool :=
  match args, H with
  | [.t (.slc [.slc a, .slc b])], [] => Qc.rowC a && Qc.rowC b
  | _, _ => false
def S69 (args : List AV) (H : Heap) : Option (AV × Heap) :=
  match args, H with
  | [.t (.slc [.slc a, .slc b])], [] => some (.hsl 0 none, [.tre (.int .i64) (a ++ b)])
  | _, _ => none

theorem join_run {a b : List Tree} (ha : Qc.rowC a = true) (hb : Qc.rowC b = true) (h : 0 < a.length + b.length) : runFn tab3.env 7 69 [AV.t (Tree.slc [Tree.slc a, Tree.slc b])] [] = some (.hsl 0 none, [.tre (.int .i64) (a ++ b)]) := by
  obtain ⟨h1, h2⟩ := Qc.rowC_spec ha
  obtain ⟨h3, h4⟩ := Qc.rowC_spec hb
  have w1 : IntKind.wrap .i64 (0 + (a.length : Int)) = a.length := by rw [w64 (by omega)]; omega
  have w2 : IntKind.wrap .i64 ((a.length : Int) + (b.length : Int)) = ((a.length + b.length : Nat) : Int) := by rw [w64 (by omega)]; omega
  show evR tab3.env 6 69 _ _ = _
  rw [r69u, w1, w2, bif_neg (by simp), bif_neg (by simp; omega), bif_pos (by simp; omega), Qc.allI_first h1, cond_true, bif_pos (by simp; omega), Qc.allI_first h3, cond_true, bif_pos (by simp; omega)]

theorem calls_of_run {t : Tab} (ht : t.Ok Try.prog) (hm : Try.prog.follows .mixedOrders = true) {k g : Nat} {args : List AV} {H H' : Heap} {v : AV} (h : runFn t.env k g args H = some (v, H')) :
    callable Try.prog g = true ∧ ∀ (φ : Phi) (w : World) (I : Nat → Prop) (vals : Array Value), RepL φ (rdH H) w I args vals.toList → Sim φ I (rdH H) w → Calls Try.prog g vals w (Comes' φ I H w v H') :=
  (runFn_sound (Tab.envOk ht) hm k).rf g args H v H' rfl h

theorem sum69 : SumOk Try.prog 69 C69 S69 := fun args H v H' h0 hs => by
  unfold C69 at h0
  split at h0
  · rename_i a b
    rw [Bool.and_eq_true] at h0
    by_cases hz : 0 < a.length + b.length
    · have hr := join_run h0.1 h0.2 hz
      simp only [S69] at hs
      cases hs
      exact calls_of_run tab3Ok (by kernel_rfl) hr
    · have ea : a = [] := List.eq_nil_of_length_eq_zero (by omega)
      have eb : b = [] := List.eq_nil_of_length_eq_zero (by omega)
      subst ea; subst eb
      have hr := r69z
      simp only [S69] at hs
      cases hs
      exact calls_of_run tab4Ok (by kernel_rfl) hr
  · cases h0

end Go.Proofs.Bw.Qd
