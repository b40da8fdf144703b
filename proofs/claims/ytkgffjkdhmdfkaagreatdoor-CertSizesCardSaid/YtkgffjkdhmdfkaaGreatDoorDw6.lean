/- THE ABSTRACT WALK: a reckoning of the code on trees, and why it is right. -/
import Derived.Test.YtkgffjkdhmdfkaaGreatDoorDw5
set_option linter.unusedSimpArgs false
set_option linter.unusedVariables false

/-
  NUMBERS: words of 64 bits; products of words.
-/
section
namespace Go.Proofs.Dw

theorem ofInt64_toNat {x : Int} (h0 : 0 ≤ x) (h1 : x < 18446744073709551616) : (BitVec.ofInt 64 x).toNat = x.toNat := by
  rw [BitVec.toNat_ofInt]
  show (x % 18446744073709551616).toNat = x.toNat
  rw [Int.emod_eq_of_lt h0 h1]

theorem and_mask32 {x : Int} (h0 : 0 ≤ x) (h1 : x < 18446744073709551616) : IntKind.wrap .u64 ((BitVec.ofInt 64 x &&& BitVec.ofInt 64 4294967295).toNat) = x % 4294967296 := by
  rw [BitVec.toNat_and, ofInt64_toNat h0 h1, show (BitVec.ofInt 64 4294967295).toNat = 2 ^ 32 - 1 from rfl, Nat.and_two_pow_sub_one_eq_mod]
  rw [wu64 (by omega)]
  omega

theorem fdiv32 {x : Int} (h0 : 0 ≤ x) : Int.fdiv x (2 ^ min (Int.toNat 32) 64) = x / 4294967296 := by
  show Int.fdiv x 4294967296 = _
  rw [Int.fdiv_eq_ediv_of_nonneg _ (by omega)]

/-- The product of two words, its high part by the schoolbook. -/
theorem mul64_high {a b : Int} (ha0 : 0 ≤ a) (ha : a < 18446744073709551616) (hb0 : 0 ≤ b) (hb : b < 18446744073709551616) :
    ∃ w0 t v, w0 = (a % 4294967296) * (b % 4294967296) ∧ 0 ≤ w0 ∧ w0 ≤ 18446744065119617025 ∧ t = (a / 4294967296) * (b % 4294967296) + w0 / 4294967296 ∧ 0 ≤ t ∧ t < 18446744073709551616 ∧
      v = t % 4294967296 + (a % 4294967296) * (b / 4294967296) ∧ 0 ≤ v ∧ v < 18446744073709551616 ∧
      0 ≤ (a / 4294967296) * (b % 4294967296) ∧ (a / 4294967296) * (b % 4294967296) < 18446744073709551616 ∧ 0 ≤ (a % 4294967296) * (b / 4294967296) ∧ (a % 4294967296) * (b / 4294967296) < 18446744073709551616 ∧
      0 ≤ (a / 4294967296) * (b / 4294967296) ∧ (a / 4294967296) * (b / 4294967296) ≤ 18446744065119617025 ∧ 
      (a / 4294967296) * (b / 4294967296) + t / 4294967296 + v / 4294967296 = a * b / 18446744073709551616 := by
  have e1 : a = 4294967296 * (a / 4294967296) + a % 4294967296 := (Int.mul_ediv_add_emod a 4294967296).symm
  have e2 : b = 4294967296 * (b / 4294967296) + b % 4294967296 := (Int.mul_ediv_add_emod b 4294967296).symm
  have q1 : 0 ≤ a / 4294967296 ∧ a / 4294967296 ≤ 4294967295 := by omega
  have q2 : 0 ≤ b / 4294967296 ∧ b / 4294967296 ≤ 4294967295 := by omega
  have r1 : 0 ≤ a % 4294967296 ∧ a % 4294967296 ≤ 4294967295 := by omega
  have r2 : 0 ≤ b % 4294967296 ∧ b % 4294967296 ≤ 4294967295 := by omega
  generalize a / 4294967296 = x1 at *
  generalize b / 4294967296 = y1 at *
  generalize a % 4294967296 = x0 at *
  generalize b % 4294967296 = y0 at *
  have m (x y : Int) (hx : 0 ≤ x ∧ x ≤ 4294967295) (hy : 0 ≤ y ∧ y ≤ 4294967295) : 0 ≤ x * y ∧ x * y ≤ 18446744065119617025 :=
    ⟨Int.mul_nonneg hx.1 hy.1, Int.le_trans (Int.mul_le_mul hx.2 hy.2 hy.1 (by omega)) (by omega)⟩
  have m00 := m x0 y0 r1 r2
  have m01 := m x0 y1 r1 q2
  have m10 := m x1 y0 q1 r2
  have m11 := m x1 y1 q1 q2
  have e : a * b = 18446744073709551616 * (x1 * y1) + 4294967296 * (x1 * y0) + 4294967296 * (x0 * y1) + x0 * y0 := by
    rw [e1, e2, Int.mul_add, Int.add_mul, Int.add_mul]
    have h1 : 4294967296 * x1 * (4294967296 * y1) = 18446744073709551616 * (x1 * y1) := by
      rw [Int.mul_assoc, Int.mul_left_comm x1]; omega
    have h2 : x0 * (4294967296 * y1) = 4294967296 * (x0 * y1) := Int.mul_left_comm ..
    have h3 : 4294967296 * x1 * y0 = 4294967296 * (x1 * y0) := Int.mul_assoc ..
    omega
  generalize x0 * y0 = p00 at *
  generalize x0 * y1 = p01 at *
  generalize x1 * y0 = p10 at *
  generalize x1 * y1 = p11 at *
  rw [e]
  refine ⟨p00, p10 + p00 / 4294967296, (p10 + p00 / 4294967296) % 4294967296 + p01, rfl, ?_, ?_, rfl, ?_, ?_, rfl, ?_, ?_, ?_, ?_, ?_, ?_, ?_, ?_, ?_⟩ <;> omega

/-- What a word of 64 bits is to be. -/
def isU (x : Int) : Prop := 0 ≤ x ∧ x < 18446744073709551616

theorem natne (x : Nat) : ((x : Int) != 0) = !decide (x = 0) := by
  by_cases hx : x = 0
  · subst hx; rfl
  · simp [hx]

theorem or_zero {a b : Int} (ha : isU a) (hb : isU b) : (IntKind.wrap .u64 ((BitVec.ofInt 64 a ||| BitVec.ofInt 64 b).toNat) != 0) = (a != 0 || b != 0) := by
  rw [BitVec.toNat_or, ofInt64_toNat ha.1 ha.2, ofInt64_toNat hb.1 hb.2]
  obtain ⟨a0, a1⟩ := ha
  obtain ⟨b0, b1⟩ := hb
  obtain ⟨a, rfl⟩ := Int.eq_ofNat_of_zero_le a0
  obtain ⟨b, rfl⟩ := Int.eq_ofNat_of_zero_le b0
  have hl : a ||| b < 2 ^ 64 := Nat.or_lt_two_pow (by omega) (by omega)
  simp only [Int.toNat_natCast]
  rw [wu64 (by omega)]
  have h : (a ||| b) = 0 ↔ a = 0 ∧ b = 0 := Nat.or_eq_zero_iff
  generalize a ||| b = c at h
  rw [natne, natne, natne]
  by_cases h0 : c = 0
  · have := h.1 h0
    simp [h0, this.1, this.2]
  · by_cases h1 : a = 0
    · by_cases h2 : b = 0
      · exact absurd (h.2 ⟨h1, h2⟩) h0
      · simp [h0, h2]
    · simp [h0, h1]

end Go.Proofs.Dw
end

/-
  THE ABSTRACT WALK, 38: what well-typed trees of plain types look like.
-/
section
namespace Go.Proofs.Dw

/-- A whole number that fits its kind. -/
def fits (k : IntKind) (n : Int) : Prop := k.min ≤ n ∧ n ≤ k.max

theorem TV.isInt {P : Program} {t : TypeId} {cs : List Tree} {k : IntKind} (h : TV P t cs) (u : P.underlying t = some (.int k)) : ∃ n, cs = [.int k n] ∧ fits k n := by
  cases h with
  | int _ k' n h hw =>
    rw [u] at h
    injection h with h
    injection h with h
    subst h
    refine ⟨n, rfl, ?_⟩
    simpa [Lit.wf, fits] using hw
  | _ => simp_all

theorem WT.isInt {P : Program} {t : TypeId} {x : Tree} {k : IntKind} (h : WT P t x) (u : P.underlying t = some (.int k)) (ha : tyAgg P t = some false) : ∃ n, x = .int k n ∧ fits k n := by
  obtain ⟨_, e, v⟩ := h
  obtain ⟨n, hc, hn⟩ := v.isInt u
  rw [hc] at e
  simp only [mkTree, ha, List.headD_cons] at e
  exact ⟨n, e, hn⟩

/-- An array of two numbers. -/
theorem WT.isPair {P : Program} {t e : TypeId} {x : Tree} {k : IntKind} (h : WT P t x) (u : P.underlying t = some (.array 2 e)) (ue : P.underlying e = some (.int k)) (ha : tyAgg P t = some true)
    (hc : P.cellsOf t = 2) (hc1 : P.cellsOf e = 1) : ∃ a b, x = .agg [.int k a, .int k b] ∧ fits k a ∧ fits k b := by
  obtain ⟨_, e', v⟩ := h
  generalize x.cells = cs at *
  simp only [mkTree, ha] at e'
  cases v with
  | array _ n e1 _ h hl hf =>
    rw [u] at h
    injection h with h
    injection h with h h'
    subst h; subst h'
    rw [hc1] at hf
    rw [hc] at hl
    match cs, hl with
    | [c0, c1], _ =>
      obtain ⟨a, ea, fa⟩ := (hf 0 (by omega)).isInt ue
      obtain ⟨b, eb, fb⟩ := (hf 1 (by omega)).isInt ue
      simp at ea eb
      subst ea; subst eb
      exact ⟨a, b, e', fa, fb⟩
  | _ => simp_all

/-- A record of two numbers. -/
theorem WT.isRec2 {P : Program} {t : TypeId} {x : Tree} {k : IntKind} {f g : Field} (h : WT P t x) (u : P.underlying t = some (.struct #[f, g])) (uf : P.underlying f.type = some (.int k)) (ug : P.underlying g.type = some (.int k))
    (ha : tyAgg P t = some true) (hc : P.cellsOf t = 2) (hf1 : P.cellsOf f.type = 1) (hg1 : P.cellsOf g.type = 1) (of : f.offset = 0) (og : g.offset = 1) : ∃ a b, x = .agg [.int k a, .int k b] ∧ fits k a ∧ fits k b := by
  obtain ⟨_, e', v⟩ := h
  generalize x.cells = cs at *
  simp only [mkTree, ha] at e'
  cases v with
  | struct _ fs _ h hl hf =>
    rw [u] at h
    injection h with h
    injection h with h
    subst h
    rw [hc] at hl
    match cs, hl with
    | [c0, c1], _ =>
      have h0 := hf f (by simp)
      have h1 := hf g (by simp)
      rw [of, hf1] at h0
      rw [og, hg1] at h1
      obtain ⟨a, ea, fa⟩ := h0.isInt uf
      obtain ⟨b, eb, fb⟩ := h1.isInt ug
      simp at ea eb
      subst ea; subst eb
      exact ⟨a, b, e', fa, fb⟩
  | _ => simp_all

theorem ints_of {P : Program} {e : TypeId} {k : IntKind} (ue : P.underlying e = some (.int k)) (he : tyAgg P e = some false) : ∀ {es : List Tree}, (∀ x, x ∈ es → x.fl = true ∧ x = mkTree P e x.cells) → (∀ x, x ∈ es → TV P e x.cells) → ∃ l : List Int, es = l.map (.int k) ∧ ∀ n, n ∈ l → fits k n
  | [], _, _ => ⟨[], rfl, fun _ h => by cases h⟩
  | x :: es, h1, h2 => by
    obtain ⟨n, ex, fx⟩ := WT.isInt (k := k) ⟨(h1 x (by simp)).1, (h1 x (by simp)).2, h2 x (by simp)⟩ ue he
    obtain ⟨l, el, fl⟩ := ints_of ue he (es := es) (fun y hy => h1 y (by simp [hy])) (fun y hy => h2 y (by simp [hy]))
    refine ⟨n :: l, by rw [ex, el]; rfl, fun m hm => ?_⟩
    cases List.mem_cons.1 hm with
    | inl q => rw [q]; exact fx
    | inr q => exact fl m q

/-- A slice of numbers. -/
theorem WT.isInts {P : Program} {t e : TypeId} {x : Tree} {k : IntKind} (h : WT P t x) (u : P.underlying t = some (.slice e)) (ue : P.underlying e = some (.int k)) (ha : tyAgg P t = some false) (he : tyAgg P e = some false) :
    ∃ l : List Int, x = .slc (l.map (.int k)) ∧ l.length ≤ maxLen ∧ l.length * P.bytesOf e ≤ reachBytes ∧ ∀ n, n ∈ l → fits k n := by
  obtain ⟨_, e', v⟩ := h
  generalize x.cells = cs at *
  cases v with
  | slc _ e1 es h hl hm h1 h2 =>
    rw [u] at h
    injection h with h
    injection h with h
    subst h
    simp only [mkTree, ha, List.headD_cons] at e'
    obtain ⟨l, el, fl⟩ := ints_of ue he h1 h2
    subst el
    simp only [List.length_map] at hl hm
    exact ⟨l, e', hm, hl, fl⟩
  | _ => simp_all

end Go.Proofs.Dw
end
