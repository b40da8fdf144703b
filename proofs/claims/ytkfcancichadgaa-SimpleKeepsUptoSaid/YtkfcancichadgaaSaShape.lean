/-
  SIMPLE: well-typed trees of the types Lam and Ty are trees of terms and types.
-/
import Derived.Test.YtkfcancichadgaaSaData
set_option linter.unusedSimpArgs false
set_option linter.unusedVariables false
namespace Go.Proofs.Aw.Sa
open Go.Proofs

/-- What a program says of the types: Lam, its slices, Ty, its slices, int, string. -/
structure Types (P : Program) (tL tLs tT tTs tI tS : TypeId) : Prop where
  uL : ∃ f1 f2 f3 f4 : Field, P.underlying tL = some (.struct #[f1, f2, f3, f4]) ∧ f1.type = tI ∧ f2.type = tI ∧ f3.type = tT ∧ f4.type = tLs ∧ f1.offset = 0 ∧ f2.offset = 1 ∧ f3.offset = 2 ∧ f4.offset = 4
  uLs : P.underlying tLs = some (.slice tL)
  uT : ∃ f1 f2 : Field, P.underlying tT = some (.struct #[f1, f2]) ∧ f1.type = tS ∧ f2.type = tTs ∧ f1.offset = 0 ∧ f2.offset = 1
  uTs : P.underlying tTs = some (.slice tT)
  uI : P.underlying tI = some (.int .i64)
  uS : P.underlying tS = some .string
  cL : P.cellsOf tL = 5
  cLs : P.cellsOf tLs = 1
  cT : P.cellsOf tT = 2
  cTs : P.cellsOf tTs = 1
  cI : P.cellsOf tI = 1
  cS : P.cellsOf tS = 1
  aL : tyAgg P tL = some true
  aT : tyAgg P tT = some true
  aLs : tyAgg P tLs = some false
  aTs : tyAgg P tTs = some false

mutual
/-- Numbers that fit, and lists and names that are not too long for any machine. -/
def okT : Ty → Prop
  | .mk s l => s.length ≤ reachBytes ∧ l.length ≤ maxLen ∧ okTs l
def okTs : List Ty → Prop
  | [] => True
  | t :: r => okT t ∧ okTs r
end

mutual
def okL : Lam → Prop
  | .mk o n t l => fits .i64 o ∧ fits .i64 n ∧ okT t ∧ l.length ≤ maxLen ∧ okLs l
def okLs : List Lam → Prop
  | [] => True
  | t :: r => okL t ∧ okLs r
end

def cellsT (t : Ty) : List Tree := [.str t.name, .slc (encTs t.parts)]
def cellsL (t : Lam) : List Tree := [.int .i64 t.op, .int .i64 t.num, .str t.ty.name, .slc (encTs t.ty.parts), .slc (encLs t.parts)]

theorem encT_cells (t : Ty) : encT t = .agg (cellsT t) := by cases t; rfl
theorem encL_cells (t : Lam) : encL t = .agg (cellsL t) := by
  cases t with
  | mk o n t l => cases t; rfl

/-- What a list of cells of a type is. -/
def Is (tL tLs tT tTs tI tS : TypeId) (t : TypeId) (cs : List Tree) : Prop :=
  (t = tL → ∃ l, cs = cellsL l ∧ okL l) ∧ (t = tLs → ∃ ls, cs = [.slc (encLs ls)] ∧ okLs ls ∧ ls.length ≤ maxLen) ∧
  (t = tT → ∃ l, cs = cellsT l ∧ okT l) ∧ (t = tTs → ∃ ls, cs = [.slc (encTs ls)] ∧ okTs ls ∧ ls.length ≤ maxLen)

theorem lams_of {P : Program} {tL tLs tT tTs tI tS : TypeId} (T : Types P tL tLs tT tTs tI tS) : ∀ {es : List Tree}, (∀ x, x ∈ es → x.fl = true ∧ x = mkTree P tL x.cells) → (∀ x, x ∈ es → Is tL tLs tT tTs tI tS tL x.cells) → ∃ ls, es = encLs ls ∧ okLs ls
  | [], _, _ => ⟨[], rfl, trivial⟩
  | x :: es, h1, h2 => by
    obtain ⟨l, hl, ol⟩ := (h2 x (by simp)).1 rfl
    obtain ⟨ls, hs, os⟩ := lams_of T (es := es) (fun y hy => h1 y (by simp [hy])) (fun y hy => h2 y (by simp [hy]))
    have e := (h1 x (by simp)).2
    rw [hl] at e
    simp only [mkTree, T.aL] at e
    exact ⟨l :: ls, by rw [encLs, ← hs, encL_cells, ← e], ol, os⟩

theorem tys_of {P : Program} {tL tLs tT tTs tI tS : TypeId} (T : Types P tL tLs tT tTs tI tS) : ∀ {es : List Tree}, (∀ x, x ∈ es → x.fl = true ∧ x = mkTree P tT x.cells) → (∀ x, x ∈ es → Is tL tLs tT tTs tI tS tT x.cells) → ∃ ls, es = encTs ls ∧ okTs ls
  | [], _, _ => ⟨[], rfl, trivial⟩
  | x :: es, h1, h2 => by
    obtain ⟨l, hl, ol⟩ := (h2 x (by simp)).2.2.1 rfl
    obtain ⟨ls, hs, os⟩ := tys_of T (es := es) (fun y hy => h1 y (by simp [hy])) (fun y hy => h2 y (by simp [hy]))
    have e := (h1 x (by simp)).2
    rw [hl] at e
    simp only [mkTree, T.aT] at e
    exact ⟨l :: ls, by rw [encTs, ← hs, encT_cells, ← e], ol, os⟩

theorem is_of {P : Program} {tL tLs tT tTs tI tS : TypeId} (T : Types P tL tLs tT tTs tI tS) {t : TypeId} {cs : List Tree} (h : TV P t cs) : Is tL tLs tT tTs tI tS t cs := by
  obtain ⟨f1, f2, f3, f4, uL, e1, e2, e3, e4, o1, o2, o3, o4⟩ := T.uL
  obtain ⟨g1, g2, uT, k1, k2, p1, p2⟩ := T.uT
  have uLs := T.uLs
  have uTs := T.uTs
  induction h with
  | bool t b h => refine ⟨?_, ?_, ?_, ?_⟩ <;> rintro rfl <;> simp_all
  | int t k n h hw => refine ⟨?_, ?_, ?_, ?_⟩ <;> rintro rfl <;> simp_all
  | str t s h hl => refine ⟨?_, ?_, ?_, ?_⟩ <;> rintro rfl <;> simp_all
  | array t n e cs h hl hf ih => refine ⟨?_, ?_, ?_, ?_⟩ <;> rintro rfl <;> simp_all
  | slc t e es h hl hm h1 h2 ih =>
    refine ⟨?_, ?_, ?_, ?_⟩
    · rintro rfl; rw [uL] at h; simp at h
    · rintro rfl
      rw [uLs] at h
      simp only [Option.some.injEq, TypeDesc.slice.injEq] at h
      subst h
      obtain ⟨ls, hs, os⟩ := lams_of T h1 ih
      subst hs
      exact ⟨ls, rfl, os, by simpa [encLs_map] using hm⟩
    · rintro rfl; rw [uT] at h; simp at h
    · rintro rfl
      rw [uTs] at h
      simp only [Option.some.injEq, TypeDesc.slice.injEq] at h
      subst h
      obtain ⟨ls, hs, os⟩ := tys_of T h1 ih
      subst hs
      exact ⟨ls, rfl, os, by simpa [encTs_map] using hm⟩
  | struct t fs cs h hl hf ih =>
    refine ⟨?_, ?_, ?_, ?_⟩
    · rintro rfl
      rw [uL] at h
      simp only [Option.some.injEq, TypeDesc.struct.injEq] at h
      subst h
      rw [T.cL] at hl
      match cs, hl with
      | [c0, c1, c2, c3, c4], _ =>
        have a1 := hf f1 (by simp)
        have a2 := hf f2 (by simp)
        have a3 := ih f3 (by simp)
        have a4 := ih f4 (by simp)
        rw [e1, o1, T.cI] at a1
        rw [e2, o2, T.cI] at a2
        rw [e3, o3, T.cT] at a3
        rw [e4, o4, T.cLs] at a4
        obtain ⟨o, ho, fo⟩ := a1.isInt T.uI
        obtain ⟨n, hn, fn⟩ := a2.isInt T.uI
        obtain ⟨ty, ht, ot⟩ := a3.2.2.1 rfl
        obtain ⟨ls, hs, os, om⟩ := a4.2.1 rfl
        cases ty with
        | mk s l =>
          simp [cellsT, Ty.name, Ty.parts] at ho hn ht hs
          obtain ⟨ht1, ht2⟩ := ht
          subst ho; subst hn; subst ht1; subst ht2; subst hs
          exact ⟨.mk o n (.mk s l) ls, rfl, fo, fn, ot, om, os⟩
    · rintro rfl; rw [uLs] at h; simp at h
    · rintro rfl
      rw [uT] at h
      simp only [Option.some.injEq, TypeDesc.struct.injEq] at h
      subst h
      rw [T.cT] at hl
      match cs, hl with
      | [c0, c1], _ =>
        have a1 := hf g1 (by simp)
        have a2 := ih g2 (by simp)
        rw [k1, p1, T.cS] at a1
        rw [k2, p2, T.cTs] at a2
        obtain ⟨ls, hs, os, om⟩ := a2.2.2.2 rfl
        simp at hs a1
        subst hs
        have hs : ∃ s, c0 = .str s ∧ s.length ≤ reachBytes := by
          have uS := T.uS
          clear ih hf uL uT uLs uTs
          generalize hc : [c0] = cs at a1
          cases a1 with
          | str _ s h hl =>
            simp only [List.cons.injEq, and_true] at hc
            exact ⟨s, hc, hl⟩
          | bool _ b h => rw [uS] at h; simp at h
          | int _ k n h hw => rw [uS] at h; simp at h
          | slc _ e es h => rw [uS] at h; simp at h
          | struct _ fs _ h => rw [uS] at h; simp at h
          | array _ n e _ h => rw [uS] at h; simp at h
        obtain ⟨s, rfl, hl⟩ := hs
        exact ⟨.mk s ls, rfl, hl, om, os⟩
    · rintro rfl; rw [uTs] at h; simp at h

/-- A well-typed tree of the type Lam. -/
theorem lam_of {P : Program} {tL tLs tT tTs tI tS : TypeId} (T : Types P tL tLs tT tTs tI tS) {x : Tree} (h : WT P tL x) : ∃ l, x = encL l ∧ okL l := by
  obtain ⟨_, e, v⟩ := h
  obtain ⟨l, hl, ol⟩ := (is_of T v).1 rfl
  rw [hl] at e
  simp only [mkTree, T.aL] at e
  exact ⟨l, by rw [encL_cells]; exact e, ol⟩

/-- A well-typed tree of the type []Ty. -/
theorem tys_of' {P : Program} {tL tLs tT tTs tI tS : TypeId} (T : Types P tL tLs tT tTs tI tS) {x : Tree} (h : WT P tTs x) : ∃ l, x = .slc (encTs l) ∧ okTs l ∧ l.length ≤ maxLen := by
  obtain ⟨_, e, v⟩ := h
  obtain ⟨l, hl, ol⟩ := (is_of T v).2.2.2 rfl
  rw [hl] at e
  simp only [mkTree, T.aTs, List.headD_cons] at e
  exact ⟨l, e, ol⟩

end Go.Proofs.Aw.Sa
