/-
  SIMPLE: a law's arguments are terms, lists of types, numbers.
-/
import Derived.Test.YtkfcancichadgaaSaShape
import Derived.Test.YtkfcancichadgaaSaBulk
import Derived.Test.YtkfcancichadgaaSaS3
import Derived.KernelRfl
set_option linter.unusedSimpArgs false
set_option linter.unusedVariables false
namespace Go.Proofs.Aw.Sa
open Go.Proofs

theorem types : Types Try.prog 27 25 24 22 3 9 where
  uL := ⟨_, _, _, _, Try.underlying27, by kernel_rfl, by kernel_rfl, by kernel_rfl, by kernel_rfl, by kernel_rfl, by kernel_rfl, by kernel_rfl, by kernel_rfl⟩
  uLs := by kernel_rfl
  uT := ⟨_, _, Try.underlying24, by kernel_rfl, by kernel_rfl, by kernel_rfl, by kernel_rfl⟩
  uTs := by kernel_rfl
  uI := by kernel_rfl
  uS := by kernel_rfl
  cL := by kernel_rfl
  cLs := by kernel_rfl
  cT := by kernel_rfl
  cTs := by kernel_rfl
  cI := by kernel_rfl
  cS := by kernel_rfl
  aL := by kernel_rfl
  aT := by kernel_rfl
  aLs := by kernel_rfl
  aTs := by kernel_rfl

mutual
theorem tsz_T : ∀ t : Ty, sizeT t ≤ tsz (encT t)
  | .mk s l => by
    have := tszs_T l
    simp only [encT, tsz, tszs, sizeT]
    omega
theorem tszs_T : ∀ l : List Ty, sizeTs l ≤ tszs (encTs l)
  | [] => Nat.le_refl _
  | t :: r => by
    have h1 := tsz_T t
    have h2 := tszs_T r
    simp only [encTs, tszs, sizeTs]
    omega
end

mutual
theorem tsz_L : ∀ t : Lam, wL t ≤ tsz (encL t)
  | .mk o n (.mk s u) l => by
    have h1 := tszs_L l
    have h2 := tszs_T u
    simp only [encL, tsz, tszs, wL, sizeT]
    omega
theorem tszs_L : ∀ l : List Lam, wLs l ≤ tszs (encLs l)
  | [] => Nat.le_refl _
  | t :: r => by
    have h1 := tsz_L t
    have h2 := tszs_L r
    simp only [encLs, tszs, wLs]
    omega
end

theorem argL {x : Tree} (h : WT Try.prog 27 x) : ∃ t, x = encL t ∧ okL t ∧ wL t ≤ tsz x := by
  obtain ⟨t, rfl, ht⟩ := lam_of types h
  exact ⟨t, rfl, ht, tsz_L t⟩

theorem argTs {x : Tree} (h : WT Try.prog 22 x) : ∃ l, x = .slc (encTs l) ∧ okTs l ∧ l.length ≤ maxLen ∧ sizeTs l ≤ tsz x := by
  obtain ⟨l, rfl, ht, hl⟩ := tys_of' types h
  exact ⟨l, rfl, ht, hl, by have := tszs_T l; simp only [tsz]; omega⟩

theorem argI {x : Tree} (h : WT Try.prog 3 x) : ∃ n, x = I n ∧ fits .i64 n := h.isInt (by kernel_rfl) (by kernel_rfl)
theorem argU {x : Tree} (h : WT Try.prog 5 x) : ∃ n, x = .int .u8 n ∧ fits .u8 n := h.isInt (by kernel_rfl) (by kernel_rfl)

end Go.Proofs.Aw.Sa
