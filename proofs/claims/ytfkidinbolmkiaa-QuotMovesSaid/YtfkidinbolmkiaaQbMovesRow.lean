/-
  THE ROW OF QuotMoves, out of its Pure: printed by program.
-/
import Derived.Test.YtfkidinbolmkiaaQbTab
import Derived.Test.YtfkidinbolmkiaaBw4
import Derived.Test.YtfkidinbolmkiaaRows
import Derived.WalkKit
import Derived.ProofKit
import Derived.OpenShut
import Derived.ChangeOld
import Derived.Below
import Derived.SizedLaws
set_option linter.unusedSimpArgs false
set_option linter.unusedVariables false
set_option maxRecDepth 100000
set_option linter.unusedVariables false
namespace Go.Proofs.Bw.Qb
open Go.Proofs Go.Proofs.Ytfkidinbolmkiaa Go.ChangeShapes Go.WideShapes Go.ChangeAt Go.RowKit

/-- What is left to show of QuotMoves. -/
def QuotMovesPure : Prop := ∀ x0 x1 x2 x3 : Tree, WT Try.prog 23 x0 → WT Try.prog 23 x1 → WT Try.prog 22 x2 → WT Try.prog 44 x3 → ∃ k, evP tab.env k 9 [x0, x1, x2, x3] = some (.bool true)

theorem QuotMovesOwn : ownKnob Try.prog.godebug = none := by kernel_rfl
theorem QuotMovesLaidOut : laidOutB Try.prog = true := by kernel_rfl
theorem QuotMovesKids : kidsB Try.prog [23,22,44,21] = true := by kernel_rfl
theorem QuotMovesMixed : Try.prog.follows .mixedOrders = true := by kernel_rfl

theorem QuotMovesLifted (pure : QuotMovesPure) (os : Os) (started : os.Started) (H : Type) (enc : TypeId × Value → H) :
    ReturnsInHanded {} Try.checked os 9 .any (Rows.quotMovesSpec.pre6 enc Try.prog Try.f9 Rows.quotMovesRow.domain false) (Rows.quotMovesSpec.post enc Try.prog Try.f9 false true false false) := by
  refine returnsInHanded_of_change_sized (C := Try.checked) QuotMovesOwn started (by kernel_rfl) Try.func9
    (ChangeSpec.witness6 (enc := enc) (C := Try.checked) false ⟨#[], #[.agg #[.int .u32 0, .int .u32 0], .agg #[.int .u32 0, .int .u32 0], .int .u32 0, .slice none 0 0], []⟩ 8 (by kernel_rfl) (by kernel_rfl) (by kernel_rfl) (by kernel_rfl)) ?_
  intro W base args ds gs before hval0 hW hcnd hsz0 _
  have hsz : (DataW.weightsEach Try.prog (Try.f9.params.toList ++ Rows.quotMovesSpec.plain.varTypes Try.prog) (ds ++ gs)).all (· ≤ reachBytes) = true := hsz0
  have hval : ∀ (j : Nat) t v, Try.f9.params[j]? = some t → args[j]? = some v → Value.okWide Try.prog W .any base t v := hval0
  have hW' := hW
  obtain ⟨p, q, hA0, hV, rfl, hfz, hnd⟩ := hW
  have hA : DataW.TrodAll enc Try.prog W 0 (fun _ => true) true Try.f9.params.toList args.toList ds p := hA0
  rw [Try.params9] at hA hval hsz
  obtain ⟨v0, vs0, d0, ds0, p0, q0, hargs, rfl, rfl, h0, r0⟩ := trodAll_cons hA
  obtain ⟨v1, vs1, d1, ds1, p1, q1, rfl, rfl, rfl, h1, r1⟩ := trodAll_cons r0
  obtain ⟨v2, vs2, d2, ds2, p2, q2, rfl, rfl, rfl, h2, r2⟩ := trodAll_cons r1
  obtain ⟨v3, vs3, d3, ds3, p3, q3, rfl, rfl, rfl, h3, r3⟩ := trodAll_cons r2
  obtain ⟨rfl, rfl, rfl⟩ := trodAll_nil r3
  obtain rfl : args = #[v0, v1, v2, v3] := by cases args; simp_all
  obtain ⟨rfl, rfl⟩ := trodVars_none hV
  obtain ⟨x0, t0, w0⟩ := arg_read (L := [23,22,44,21]) QuotMovesKids (t := 23) (by decide) (hval 0 23 v0 rfl rfl) h0 (weightsEach_get (i := 0) hsz rfl rfl)
  have lt0 : ∀ x ∈ p0, x.block < W.heap.size := by obtain ⟨m, hm⟩ := h0; exact DataW.trod_lt m _ _ _ hm
  obtain ⟨x1, t1, w1⟩ := arg_read (L := [23,22,44,21]) QuotMovesKids (t := 23) (by decide) (hval 1 23 v1 rfl rfl) h1 (weightsEach_get (i := 1) hsz rfl rfl)
  have lt1 : ∀ x ∈ p1, x.block < W.heap.size := by obtain ⟨m, hm⟩ := h1; exact DataW.trod_lt m _ _ _ hm
  obtain ⟨x2, t2, w2⟩ := arg_read (L := [23,22,44,21]) QuotMovesKids (t := 22) (by decide) (hval 2 22 v2 rfl rfl) h2 (weightsEach_get (i := 2) hsz rfl rfl)
  have lt2 : ∀ x ∈ p2, x.block < W.heap.size := by obtain ⟨m, hm⟩ := h2; exact DataW.trod_lt m _ _ _ hm
  obtain ⟨x3, t3, w3⟩ := arg_read (L := [23,22,44,21]) QuotMovesKids (t := 44) (by decide) (hval 3 44 v3 rfl rfl) h3 (weightsEach_get (i := 3) hsz rfl rfl)
  have lt3 : ∀ x ∈ p3, x.block < W.heap.size := by obtain ⟨m, hm⟩ := h3; exact DataW.trod_lt m _ _ _ hm
  obtain ⟨k, hk⟩ := pure x0 x1 x2 x3 w0 w1 w2 w3
  refine (law_calls (Tab.envOk tabOk) QuotMovesMixed hk (vals := #[v0, v1, v2, v3]) (RepTL.cons t0 (RepTL.cons t1 (RepTL.cons t2 (RepTL.cons t3 RepTL.nil'))))).mono fun e W' ⟨he, bel⟩ => ?_
  subst he
  exact ⟨_, rfl, _, _, _, [], _, [], hW', trodAll_mk1 (shut_bool Try.underlying4 _), (trodAll_cons_mk (Below.trod QuotMovesLaidOut (by kernel_rfl) (of_decide_eq_true (by kernel_rfl)) h0 bel lt0) (trodAll_cons_mk (Below.trod QuotMovesLaidOut (by kernel_rfl) (of_decide_eq_true (by kernel_rfl)) h1 bel lt1) (trodAll_cons_mk (Below.trod QuotMovesLaidOut (by kernel_rfl) (of_decide_eq_true (by kernel_rfl)) h2 bel lt2) (trodAll_cons_mk (Below.trod QuotMovesLaidOut (by kernel_rfl) (of_decide_eq_true (by kernel_rfl)) h3 bel lt3) trodAll_mk0)))), rfl, bel.frame _, fun h => by cases h⟩

theorem QuotMovesRow (pure : QuotMovesPure) : Rows.QuotMovesSaid :=
  OpenClaim.holds_of_wide 9 Try.f9 rfl rfl rfl rfl rfl rfl rfl ⟨rfl, rfl, rfl, rfl, rfl⟩ rfl rfl rfl rfl rfl (by kernel_rfl) Try.func9 (by kernel_rfl)
    (of_decide_eq_true (by kernel_rfl)) (by unfold Func.isWrapper; first | (rw [if_pos (by decide +kernel)]; kernel_rfl) | (rw [if_neg (by decide +kernel)]; exact ⟨rfl, rfl⟩))
    (fun os started H enc _ => QuotMovesLifted pure os started H enc)
end Go.Proofs.Bw.Qb
