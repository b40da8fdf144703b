/-
  THE ROW OF SimpleSubsts, out of its Pure: printed by program.
-/
import Derived.Test.YtkfcancichadgaaSaTab
import Derived.Test.YtkfcancichadgaaAw4
import Derived.Test.YtkfcancichadgaaRows
import Derived.Test.YtkfcancichadgaaSaBulk
import Derived.JoinedCond
import Derived.Deep.CondSized
import Derived.WalkKit
import Derived.ProofKit
import Derived.OpenShut
import Derived.ChangeOld
import Derived.Below
import Derived.SizedLaws
set_option linter.unusedSimpArgs false
set_option linter.unusedVariables false
set_option maxRecDepth 100000
set_option linter.unusedVariables false
namespace Go.Proofs.Aw.Sa
open Go.Proofs Go.Proofs.Ytkfcancichadgaa Go.ChangeShapes Go.WideShapes Go.ChangeAt Go.RowKit

/-- What is left to show of SimpleSubsts. -/
def SimpleSubstsPure : Prop := ∀ x0 x1 x2 : Tree, WT Try.prog 22 x0 → WT Try.prog 27 x1 → WT Try.prog 27 x2 → tsz x0 + tsz x1 + tsz x2 ≤ 1048576 → ∃ k, evP tab.env k 4 [x0, x1, x2] = some (.bool true)

theorem SimpleSubstsOwn : ownKnob Try.prog.godebug = none := by kernel_rfl
theorem SimpleSubstsLaidOut : laidOutB Try.prog = true := by kernel_rfl
theorem SimpleSubstsKids : kidsB Try.prog [27,25,24,22,3,9] = true := by kernel_rfl
theorem SimpleSubstsNoArr : ∀ t, t ∈ [27,25,24,22,3,9] → ∀ n e, Try.prog.underlying t ≠ some (.array n e) := by
  intro t ht n e h
  simp only [List.mem_cons, List.not_mem_nil, or_false] at ht
  rcases ht with rfl | rfl | rfl | rfl | rfl | rfl <;> first | (rw [Try.underlying27] at h; cases h) | (rw [Try.underlying25] at h; cases h) | (rw [Try.underlying24] at h; cases h) | (rw [Try.underlying22] at h; cases h) | (rw [Try.underlying3] at h; cases h) | (rw [Try.underlying9] at h; cases h)
theorem SimpleSubstsMixed : Try.prog.follows .mixedOrders = true := by kernel_rfl

theorem SimpleSubstsLifted (pure : SimpleSubstsPure) (os : Os) (started : os.Started) (H : Type) (enc : TypeId × Value → H) (F : Stop.Interp) :
    ReturnsInHanded {} Try.checked os 4 .any ((Rows.OpenSpec.upto Rows.simpleSubstsSpec).pre6 enc Try.prog Try.f4 Rows.simpleSubstsUptoRow.domain false) (((Rows.OpenSpec.upto Rows.simpleSubstsSpec).at F).post enc Try.prog Try.f4 false true false false) := by
  refine returnsInHanded_of_cond_sized (C := Try.checked) (s := (Rows.OpenSpec.upto Rows.simpleSubstsSpec)) (k := Rows.uptoSmall) rfl SimpleSubstsOwn started (by kernel_rfl) Try.func4
    (OpenSpec.witness (enc := enc) (C := Try.checked) (s := (Rows.OpenSpec.upto Rows.simpleSubstsSpec)) (k := Rows.uptoSmall) rfl false ⟨#[], #[.slice none 0 0, .agg #[.int .i64 0, .int .i64 0, .string ⟨#[]⟩, .slice none 0 0, .slice none 0 0], .agg #[.int .i64 0, .int .i64 0, .string ⟨#[]⟩, .slice none 0 0, .slice none 0 0]], []⟩ 8 (by kernel_rfl) (by kernel_rfl) (by kernel_rfl) (x := ([.nil, .agg [.lit (.int .i64 0), .lit (.int .i64 0), .agg [.lit (.string []), .nil], .nil], .agg [.lit (.int .i64 0), .lit (.int .i64 0), .agg [.lit (.string []), .nil], .nil]], [], [])) (by kernel_rfl) rfl (by kernel_rfl)) ?_
  intro W base args ds gs before hval0 hW hcnd hkk hsz0 _
  have hsz : (DataW.weightsEach Try.prog (Try.f4.params.toList ++ Rows.simpleSubstsSpec.plain.varTypes Try.prog) (ds ++ gs)).all (· ≤ reachBytes) = true := hsz0
  have hval : ∀ (j : Nat) t v, Try.f4.params[j]? = some t → args[j]? = some v → Value.okWide Try.prog W .any base t v := hval0
  have hW' := hW
  obtain ⟨p, q, hA0, hV, rfl, hfz, hnd⟩ := hW
  have hA : DataW.TrodAll enc Try.prog W 0 (fun _ => true) true Try.f4.params.toList args.toList ds p := hA0
  rw [Try.params4] at hA hval hsz
  obtain ⟨v0, vs0, d0, ds0, p0, q0, hargs, rfl, rfl, h0, r0⟩ := trodAll_cons hA
  obtain ⟨v1, vs1, d1, ds1, p1, q1, rfl, rfl, rfl, h1, r1⟩ := trodAll_cons r0
  obtain ⟨v2, vs2, d2, ds2, p2, q2, rfl, rfl, rfl, h2, r2⟩ := trodAll_cons r1
  obtain ⟨rfl, rfl, rfl⟩ := trodAll_nil r2
  obtain rfl : args = #[v0, v1, v2] := by cases args; simp_all
  obtain ⟨rfl, rfl⟩ := trodVars_none hV
  obtain ⟨x0, t0, w0, b0⟩ := arg_readB (L := [27,25,24,22,3,9]) SimpleSubstsKids SimpleSubstsNoArr (t := 22) (by decide) (hval 0 22 v0 rfl rfl) h0 (weightsEach_get (i := 0) hsz rfl rfl)
  have lt0 : ∀ x ∈ p0, x.block < W.heap.size := by obtain ⟨m, hm⟩ := h0; exact DataW.trod_lt m _ _ _ hm
  obtain ⟨x1, t1, w1, b1⟩ := arg_readB (L := [27,25,24,22,3,9]) SimpleSubstsKids SimpleSubstsNoArr (t := 27) (by decide) (hval 1 27 v1 rfl rfl) h1 (weightsEach_get (i := 1) hsz rfl rfl)
  have lt1 : ∀ x ∈ p1, x.block < W.heap.size := by obtain ⟨m, hm⟩ := h1; exact DataW.trod_lt m _ _ _ hm
  obtain ⟨x2, t2, w2, b2⟩ := arg_readB (L := [27,25,24,22,3,9]) SimpleSubstsKids SimpleSubstsNoArr (t := 27) (by decide) (hval 2 27 v2 rfl rfl) h2 (weightsEach_get (i := 2) hsz rfl rfl)
  have lt2 : ∀ x ∈ p2, x.block < W.heap.size := by obtain ⟨m, hm⟩ := h2; exact DataW.trod_lt m _ _ _ hm
  have hbk : tsz x0 + tsz x1 + tsz x2 ≤ 1048576 := by
    have hq := of_decide_eq_true hkk
    simp only [List.append_nil, Rows.uptoBulkAll] at hq
    omega
  obtain ⟨k, hk⟩ := pure x0 x1 x2 w0 w1 w2 hbk
  refine (law_calls (Tab.envOk tabOk) SimpleSubstsMixed hk (vals := #[v0, v1, v2]) (RepTL.cons t0 (RepTL.cons t1 (RepTL.cons t2 RepTL.nil')))).mono fun e W' ⟨he, bel⟩ => ?_
  subst he
  exact ⟨_, rfl, _, _, _, [], _, [], hW', trodAll_mk1 (shut_bool Try.underlying4 _), (trodAll_cons_mk (Below.trod SimpleSubstsLaidOut (by kernel_rfl) (of_decide_eq_true (by kernel_rfl)) h0 bel lt0) (trodAll_cons_mk (Below.trod SimpleSubstsLaidOut (by kernel_rfl) (of_decide_eq_true (by kernel_rfl)) h1 bel lt1) (trodAll_cons_mk (Below.trod SimpleSubstsLaidOut (by kernel_rfl) (of_decide_eq_true (by kernel_rfl)) h2 bel lt2) trodAll_mk0))), rfl, bel.frame _, fun h => by cases h⟩

theorem SimpleSubstsRow (pure : SimpleSubstsPure) : Rows.SimpleSubstsUptoSaid :=
  OpenClaim.holds_of_cond 4 Try.f4 rfl rfl rfl rfl rfl rfl rfl ⟨rfl, rfl, rfl, rfl, rfl⟩ rfl rfl rfl rfl rfl (by kernel_rfl) Try.func4 (by kernel_rfl)
    (of_decide_eq_true (by kernel_rfl)) (by unfold Func.isWrapper; first | (rw [if_pos (by decide +kernel)]; kernel_rfl) | (rw [if_neg (by decide +kernel)]; exact ⟨rfl, rfl⟩))
    (fun os started H enc _ F => SimpleSubstsLifted pure os started H enc F)
end Go.Proofs.Aw.Sa
