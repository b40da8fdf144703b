/-
  THE ROW OF SimpleKeeps, out of its Pure: printed by program.
-/
import Derived.Test.YtkfcancichadgaaSaTab
import Derived.Test.YtkfcancichadgaaAw4
import Derived.Test.YtkfcancichadgaaRows
import Derived.Test.YtkfcancichadgaaSaBulk
import Derived.JoinedCond
import Derived.Deep.CondSized
import Derived.WalkKit
import Derived.ProofKit
import Derived.OpenShut
import Derived.ChangeOld
import Derived.Below
import Derived.SizedLaws
set_option linter.unusedSimpArgs false
set_option linter.unusedVariables false
set_option maxRecDepth 100000
set_option linter.unusedVariables false
namespace Go.Proofs.Aw.Sa
open Go.Proofs Go.Proofs.Ytkfcancichadgaa Go.ChangeShapes Go.WideShapes Go.ChangeAt Go.RowKit

/-- What is left to show of SimpleKeeps. -/
def SimpleKeepsPure : Prop := ∀ x0 x1 : Tree, WT Try.prog 22 x0 → WT Try.prog 27 x1 → tsz x0 + tsz x1 ≤ 1048576 → ∃ k, evP tab.env k 6 [x0, x1] = some (.bool true)

theorem SimpleKeepsOwn : ownKnob Try.prog.godebug = none := by kernel_rfl
theorem SimpleKeepsLaidOut : laidOutB Try.prog = true := by kernel_rfl
theorem SimpleKeepsKids : kidsB Try.prog [27,25,24,22,3,9] = true := by kernel_rfl
theorem SimpleKeepsNoArr : ∀ t, t ∈ [27,25,24,22,3,9] → ∀ n e, Try.prog.underlying t ≠ some (.array n e) := by
  intro t ht n e h
  simp only [List.mem_cons, List.not_mem_nil, or_false] at ht
  rcases ht with rfl | rfl | rfl | rfl | rfl | rfl <;> first | (rw [Try.underlying27] at h; cases h) | (rw [Try.underlying25] at h; cases h) | (rw [Try.underlying24] at h; cases h) | (rw [Try.underlying22] at h; cases h) | (rw [Try.underlying3] at h; cases h) | (rw [Try.underlying9] at h; cases h)
theorem SimpleKeepsMixed : Try.prog.follows .mixedOrders = true := by kernel_rfl

theorem SimpleKeepsLifted (pure : SimpleKeepsPure) (os : Os) (started : os.Started) (H : Type) (enc : TypeId × Value → H) (F : Stop.Interp) :
    ReturnsInHanded {} Try.checked os 6 .any ((Rows.OpenSpec.upto Rows.simpleKeepsSpec).pre6 enc Try.prog Try.f6 Rows.simpleKeepsUptoRow.domain false) (((Rows.OpenSpec.upto Rows.simpleKeepsSpec).at F).post enc Try.prog Try.f6 false true false false) := by
  refine returnsInHanded_of_cond_sized (C := Try.checked) (s := (Rows.OpenSpec.upto Rows.simpleKeepsSpec)) (k := Rows.uptoSmall) rfl SimpleKeepsOwn started (by kernel_rfl) Try.func6
    (OpenSpec.witness (enc := enc) (C := Try.checked) (s := (Rows.OpenSpec.upto Rows.simpleKeepsSpec)) (k := Rows.uptoSmall) rfl false ⟨#[], #[.slice none 0 0, .agg #[.int .i64 0, .int .i64 0, .string ⟨#[]⟩, .slice none 0 0, .slice none 0 0]], []⟩ 8 (by kernel_rfl) (by kernel_rfl) (by kernel_rfl) (x := ([.nil, .agg [.lit (.int .i64 0), .lit (.int .i64 0), .agg [.lit (.string []), .nil], .nil]], [], [])) (by kernel_rfl) rfl (by kernel_rfl)) ?_
  intro W base args ds gs before hval0 hW hcnd hkk hsz0 _
  have hsz : (DataW.weightsEach Try.prog (Try.f6.params.toList ++ Rows.simpleKeepsSpec.plain.varTypes Try.prog) (ds ++ gs)).all (· ≤ reachBytes) = true := hsz0
  have hval : ∀ (j : Nat) t v, Try.f6.params[j]? = some t → args[j]? = some v → Value.okWide Try.prog W .any base t v := hval0
  have hW' := hW
  obtain ⟨p, q, hA0, hV, rfl, hfz, hnd⟩ := hW
  have hA : DataW.TrodAll enc Try.prog W 0 (fun _ => true) true Try.f6.params.toList args.toList ds p := hA0
  rw [Try.params6] at hA hval hsz
  obtain ⟨v0, vs0, d0, ds0, p0, q0, hargs, rfl, rfl, h0, r0⟩ := trodAll_cons hA
  obtain ⟨v1, vs1, d1, ds1, p1, q1, rfl, rfl, rfl, h1, r1⟩ := trodAll_cons r0
  obtain ⟨rfl, rfl, rfl⟩ := trodAll_nil r1
  obtain rfl : args = #[v0, v1] := by cases args; simp_all
  obtain ⟨rfl, rfl⟩ := trodVars_none hV
  obtain ⟨x0, t0, w0, b0⟩ := arg_readB (L := [27,25,24,22,3,9]) SimpleKeepsKids SimpleKeepsNoArr (t := 22) (by decide) (hval 0 22 v0 rfl rfl) h0 (weightsEach_get (i := 0) hsz rfl rfl)
  have lt0 : ∀ x ∈ p0, x.block < W.heap.size := by obtain ⟨m, hm⟩ := h0; exact DataW.trod_lt m _ _ _ hm
  obtain ⟨x1, t1, w1, b1⟩ := arg_readB (L := [27,25,24,22,3,9]) SimpleKeepsKids SimpleKeepsNoArr (t := 27) (by decide) (hval 1 27 v1 rfl rfl) h1 (weightsEach_get (i := 1) hsz rfl rfl)
  have lt1 : ∀ x ∈ p1, x.block < W.heap.size := by obtain ⟨m, hm⟩ := h1; exact DataW.trod_lt m _ _ _ hm
  have hbk : tsz x0 + tsz x1 ≤ 1048576 := by
    have hq := of_decide_eq_true hkk
    simp only [List.append_nil, Rows.uptoBulkAll] at hq
    omega
  obtain ⟨k, hk⟩ := pure x0 x1 w0 w1 hbk
  refine (law_calls (Tab.envOk tabOk) SimpleKeepsMixed hk (vals := #[v0, v1]) (RepTL.cons t0 (RepTL.cons t1 RepTL.nil'))).mono fun e W' ⟨he, bel⟩ => ?_
  subst he
  exact ⟨_, rfl, _, _, _, [], _, [], hW', trodAll_mk1 (shut_bool Try.underlying4 _), (trodAll_cons_mk (Below.trod SimpleKeepsLaidOut (by kernel_rfl) (of_decide_eq_true (by kernel_rfl)) h0 bel lt0) (trodAll_cons_mk (Below.trod SimpleKeepsLaidOut (by kernel_rfl) (of_decide_eq_true (by kernel_rfl)) h1 bel lt1) trodAll_mk0)), rfl, bel.frame _, fun h => by cases h⟩

theorem SimpleKeepsRow (pure : SimpleKeepsPure) : Rows.SimpleKeepsUptoSaid :=
  OpenClaim.holds_of_cond 6 Try.f6 rfl rfl rfl rfl rfl rfl rfl ⟨rfl, rfl, rfl, rfl, rfl⟩ rfl rfl rfl rfl rfl (by kernel_rfl) Try.func6 (by kernel_rfl)
    (of_decide_eq_true (by kernel_rfl)) (by unfold Func.isWrapper; first | (rw [if_pos (by decide +kernel)]; kernel_rfl) | (rw [if_neg (by decide +kernel)]; exact ⟨rfl, rfl⟩))
    (fun os started H enc _ F => SimpleKeepsLifted pure os started H enc F)
end Go.Proofs.Aw.Sa
