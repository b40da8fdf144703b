/-
  SIMPLE, specs 13: a rule at a node, the program's and the reference's.
-/
import Derived.Test.YtkfcancichadgaaSaS12
import Derived.Test.YtkfcancichadgaaSaE3
set_option linter.unusedSimpArgs false
set_option linter.unusedVariables false
namespace Go.Proofs.Aw.Sa
open Go.Proofs

theorem step_b {α β : Type} {x : Option α} {y : α} {f : α → Option β} {r : Option β} (h : x = some y) (k : f y = r) : x.bind f = r := by rw [h]; exact k
theorem step_t {α : Type} {c : Bool} {x y r : α} (h : c = true) (k : x = r) : (bif c then x else y) = r := by rw [h]; exact k
theorem step_f {α : Type} {c : Bool} {x y r : α} (h : c = false) (k : y = r) : (bif c then x else y) = r := by rw [h]; exact k

def lamZ : Lam := .mk 0 0 tyZero []
theorem encZ : encL lamZ = .agg [I 0, I 0, .str [], .slc [], .slc []] := rfl
theorem encNum (n : Int) : encL (lNum n) = .agg [I 4, I n, .str [], .slc [], .slc []] := rfl

theorem s64' (x : Lam) (k : Int) : Ev E 2 64 [encL x, I k] (.bool (x.op == k && (x.parts.length : Int) == partsN k)) := by
  have := s64 x.op x.num k x.ty.name (encTs x.ty.parts) (encLs x.parts)
  rw [← encL_eta x, lenL] at this
  exact this

theorem s68' (x : Lam) : Ev E 2 68 [encL x] (.bool (partsN x.op == (x.parts.length : Int))) := by
  have := s68 x.op x.num x.ty.name (encTs x.ty.parts) (encLs x.parts)
  rw [← encL_eta x, lenL] at this
  exact this

theorem s69' (x : Lam) : Ev E 3 69 [encL x] (.bool (x.op == 4 && x.parts.isEmpty)) :=
  Ev.mk fun n hn => by
    have h := s68' x n (by omega)
    rw [encL_eta x] at h
    rw [encL_eta x, e69]
    by_cases c : x.op = 4
    · rw [bif_pos (by simp [c]), h, c]
      simp only [Option.bind_some, ok_bool, cond_true, toBool_bool]
      rw [show partsN 4 = 0 from rfl]
      cases x.parts with
      | nil => rfl
      | cons a l =>
        have : ((0 : Int) == ((l.length + 1 : Nat) : Int)) = false := by simp; omega
        simp only [List.length_cons, this]
        rfl
    · rw [bif_neg (by simp [c])]
      simp [c]

theorem lk0 (x : Lam) (d : Tree) : Tree.toInt (List.headD (Tree.cs (encL x)) d) = x.op := by rw [encL_eta]; rfl
theorem lk1 (x : Lam) (d : Tree) : Tree.toInt (List.headD (List.tail (Tree.cs (encL x))) d) = x.num := by rw [encL_eta]; rfl
theorem lk4 (x : Lam) (d : Tree) : Tree.elems (List.headD (List.tail (List.tail (List.tail (List.tail (Tree.cs (encL x)))))) d) = encLs x.parts := by rw [encL_eta]; rfl

theorem ruleL_3 (m : Int) (t : Ty) (l : List Lam) : ruleL (.mk 3 m t l) = rule3 l := rfl
theorem ruleL_5 (m : Int) (t : Ty) (l : List Lam) : ruleL (.mk 5 m t l) = rule5 l := rfl
theorem ruleL_6 (m : Int) (t : Ty) (l : List Lam) : ruleL (.mk 6 m t l) = rule6 l := rfl
theorem ruleL_8 (m : Int) (t : Ty) (l : List Lam) : ruleL (.mk 8 m t l) = rule8 l := rfl
theorem ruleL_9 (m : Int) (t : Ty) (l : List Lam) : ruleL (.mk 9 m t l) = rule9 l := rfl
theorem ruleL_no {o m : Int} {t : Ty} {l : List Lam} (h3 : o ≠ 3) (h5 : o ≠ 5) (h6 : o ≠ 6) (h8 : o ≠ 8) (h9 : o ≠ 9) : ruleL (.mk o m t l) = none := by
  unfold ruleL
  rw [if_neg (show ¬ (Lam.mk o m t l).op = 3 from h3), if_neg (show ¬ (Lam.mk o m t l).op = 5 from h5), if_neg (show ¬ (Lam.mk o m t l).op = 6 from h6), if_neg (show ¬ (Lam.mk o m t l).op = 8 from h8), if_neg (show ¬ (Lam.mk o m t l).op = 9 from h9)]

theorem rule3_some {x a b : Lam} (hb : x.parts = [b]) (h : x.op = 2) : rule3 [x, a] = some (subst 0 a 0 b) := by
  simp [rule3, hb, h]
theorem rule3_none {x a : Lam} (h : ¬ (x.op = 2 ∧ (x.parts.length : Int) = 1)) : rule3 [x, a] = none := by
  unfold rule3
  simp only
  split
  · rename_i b hb
    rw [if_neg (fun h2 => h ⟨h2, by rw [hb]; rfl⟩)]
  · rfl
theorem rule8_some {x a b : Lam} (hb : x.parts = [a, b]) (h : x.op = 7) : rule8 [x] = some a := by
  simp [rule8, hb, h]
theorem rule9_some {x a b : Lam} (hb : x.parts = [a, b]) (h : x.op = 7) : rule9 [x] = some b := by
  simp [rule9, hb, h]
theorem rule8_none {x : Lam} (h : ¬ (x.op = 7 ∧ (x.parts.length : Int) = 2)) : rule8 [x] = none := by
  unfold rule8
  simp only
  split
  · rename_i a b hb
    rw [if_neg (fun h2 => h ⟨h2, by rw [hb]; rfl⟩)]
  · rfl
theorem rule9_none {x : Lam} (h : ¬ (x.op = 7 ∧ (x.parts.length : Int) = 2)) : rule9 [x] = none := by
  unfold rule9
  simp only
  split
  · rename_i a b hb
    rw [if_neg (fun h2 => h ⟨h2, by rw [hb]; rfl⟩)]
  · rfl
theorem rule5_eq (x : Lam) : rule5 [x] = (if x.op = 4 ∧ x.parts.isEmpty = true ∧ 0 ≤ x.num ∧ x.num ≤ 1099511627776 then some (lNum (x.num + 1)) else none) := rfl
theorem rule6_eq (x f a : Lam) : rule6 [x, f, a] = (if x.op = 4 ∧ x.parts.isEmpty = true then (if x.num ≤ 0 then some a else some (.mk 3 0 tyZero [f, .mk 6 0 tyZero [lNum (x.num - 1), f, a]])) else none) := rfl
theorem rule5_none {x : Lam} (h : ¬ (x.op = 4 ∧ x.parts.isEmpty = true)) : rule5 [x] = none := by
  rw [rule5_eq]
  rw [if_neg (fun q => h ⟨q.1, q.2.1⟩)]
theorem rule6_none {x f a : Lam} (h : ¬ (x.op = 4 ∧ x.parts.isEmpty = true)) : rule6 [x, f, a] = none := by
  rw [rule6_eq]
  rw [if_neg h]

theorem ruleL_len {o m : Int} {t : Ty} {l : List Lam} (h : (l.length : Int) ≠ partsN o) : ruleL (.mk o m t l) = none := by
  by_cases c3 : o = 3
  · subst c3
    rw [ruleL_3]
    rcases l with _ | ⟨x, _ | ⟨a, _ | ⟨b, l⟩⟩⟩ <;> first | rfl | (exfalso; exact h rfl)
  by_cases c5 : o = 5
  · subst c5
    rw [ruleL_5]
    rcases l with _ | ⟨x, _ | ⟨a, l⟩⟩ <;> first | rfl | (exfalso; exact h rfl)
  by_cases c6 : o = 6
  · subst c6
    rw [ruleL_6]
    rcases l with _ | ⟨x, _ | ⟨a, _ | ⟨b, _ | ⟨c, l⟩⟩⟩⟩ <;> first | rfl | (exfalso; exact h rfl)
  by_cases c8 : o = 8
  · subst c8
    rw [ruleL_8]
    rcases l with _ | ⟨x, _ | ⟨a, l⟩⟩ <;> first | rfl | (exfalso; exact h rfl)
  by_cases c9 : o = 9
  · subst c9
    rw [ruleL_9]
    rcases l with _ | ⟨x, _ | ⟨a, l⟩⟩ <;> first | rfl | (exfalso; exact h rfl)
  exact ruleL_no c3 c5 c6 c8 c9

mutual
/-- All numbers fit. -/
def fitsL : Lam → Prop
  | .mk _ n _ l => (-9223372036854775808 ≤ n ∧ n < 9223372036854775808) ∧ fitsLs l
def fitsLs : List Lam → Prop
  | [] => True
  | t :: r => fitsL t ∧ fitsLs r
end

/-- Small enough for a step. -/
structure Fit (t : Lam) : Prop where
  size : sizeL t ≤ 20000
  w : wL t ≤ 2000000
  nums : numsLe 2147483648 t
  fits : fitsL t

theorem len1 {l : List Lam} (h : (l.length : Int) = 1) : ∃ x, l = [x] := by
  rcases l with _ | ⟨x, _ | ⟨a, l⟩⟩
  · simp at h
  · exact ⟨x, rfl⟩
  · simp at h; omega
theorem len2 {l : List Lam} (h : (l.length : Int) = 2) : ∃ x y, l = [x, y] := by
  rcases l with _ | ⟨x, _ | ⟨a, _ | ⟨b, l⟩⟩⟩
  · simp at h
  · simp at h
  · exact ⟨x, a, rfl⟩
  · simp at h; omega
theorem len3 {l : List Lam} (h : (l.length : Int) = 3) : ∃ x y z, l = [x, y, z] := by
  rcases l with _ | ⟨x, _ | ⟨a, _ | ⟨b, _ | ⟨c, l⟩⟩⟩⟩
  · simp at h
  · simp at h
  · simp at h
  · exact ⟨x, a, b, rfl⟩
  · simp at h; omega

def outT (r : Option Lam) (z : Lam) : Tree :=
  match r with
  | some x => .tup [encL x, .bool true]
  | none => .tup [encL z, .bool false]
def stepT (t : Lam) (z : Lam) : Tree := outT (ruleL t) z

/-- What a redex is fit for. -/
theorem Fit.redex {m : Int} {t : Ty} {x a b : Lam} (h : Fit (.mk 3 m t [x, a])) (hb : x.parts = [b]) :
    (∃ c, Ev E c 17 [encL b, I 0, encL a] (encL (subst 0 a 0 b))) ∧ (∃ c, Ev E c 33 [encL b, I 0, encL a] (encL (subst 0 a 0 b))) := by
  obtain ⟨h1, h2, h3, _⟩ := h
  cases x with
  | mk xo xm xt xl =>
  simp only [Lam.parts] at hb
  subst hb
  simp only [sizeL, sizeLs, wL, wLs, numsLe, numsLes] at h1 h2 h3
  have hmul : sizeL b * wL a ≤ 20000 * 2000000 := Nat.mul_le_mul (by omega) (by omega)
  have e : (if (0 : Int) < 0 then b else subst 0 a 0 b) = subst 0 a 0 b := rfl
  constructor
  · have := s17 b 0 a (by omega) h3.2.1.2.1 (by omega) h3.2.2.1 (by omega)
    rwa [e] at this
  · have := s33 b 0 a (by omega) (numsLe_mono b h3.2.1.2.1 (by omega)) (by omega) (by omega) (numsLe_mono a h3.2.2.1 (by omega)) (by omega)
    rwa [e] at this
where
  numsLe_mono : ∀ (t : Lam) {B C : Int}, numsLe B t → B ≤ C → numsLe C t
  | .mk o m t l, B, C, h, hc => by
    unfold numsLe at h ⊢
    exact ⟨fun e => Int.le_trans (h.1 e) hc, numsLes_mono l h.2 hc⟩
  numsLes_mono : ∀ (l : List Lam) {B C : Int}, numsLes B l → B ≤ C → numsLes C l
  | [], B, C, _, _ => trivial
  | t :: r, B, C, h, hc => by
    unfold numsLes at h ⊢
    exact ⟨numsLe_mono t h.1 hc, numsLes_mono r h.2 hc⟩

theorem isOf (x : Lam) (k j : Int) (hk : partsN k = j) : (x.op == k && (x.parts.length : Int) == partsN k) = decide (x.op = k ∧ (x.parts.length : Int) = j) := by
  rw [hk, Bool.decide_and]
  rfl
theorem isEmptyOf (x : Lam) : decide (x.op = 4 ∧ (x.parts.length : Int) = 0) = decide (x.op = 4 ∧ x.parts.isEmpty = true) := by
  cases x.parts with
  | nil => simp
  | cons a l =>
    have : ¬ (((a :: l).length : Int) = 0) := by simp; omega
    simp
    intro _
    omega

/-- A rule, the program's. -/
theorem s67 (t : Lam) (h : Fit t) : ∃ c, Ev E c 67 [encL t] (stepT t lamZ) := by
  cases t with
  | mk o m t l =>
  by_cases hlen : (l.length : Int) = partsN o
  case neg =>
    refine ⟨10, Ev.mk fun n hn => ?_⟩
    have hc : ((l.length : Int) != partsN o) = true := by simp [hlen]
    unfold stepT
    rw [ruleL_len hlen, encL_eta (.mk o m t l)]
    simp only [Lam.op, Lam.num, Lam.ty, Lam.parts]
    rw [e67, lenL]
    exact step_b (s73 o n (by omega)) (step_t rfl (step_t hc rfl))
  case pos =>
  have hc : ((l.length : Int) != partsN o) = false := by simp [hlen]
  have start : ∀ n, 5 ≤ n → ∀ r, evQ E n 67 [.agg [I o, I m, .str t.name, .slc (encTs t.parts), .slc (encLs l)]] = r → evQ E n 67 [encL (.mk o m t l)] = r := fun n _ r h => by rw [encL_eta (.mk o m t l)]; exact h
  by_cases c3 : o = 3
  · subst c3
    obtain ⟨x, a, rfl⟩ := len2 hlen
    unfold stepT
    rw [ruleL_3]
    by_cases hx : x.op = 2 ∧ (x.parts.length : Int) = 1
    · obtain ⟨b, hb⟩ := len1 hx.2
      obtain ⟨⟨c, h17⟩, _⟩ := h.redex hb
      refine ⟨c + 20, Ev.mk fun n hn => start n (by omega) _ ?_⟩
      have h64 := s64' x 2 n (by omega)
      rw [isOf x 2 1 rfl, decide_eq_true hx] at h64
      rw [e67, lenL, rule3_some hb hx.1]
      simp only [encLs]
      refine step_b (s73 3 n (by omega)) (step_t rfl (step_f hc (step_t rfl (step_b (y := encL x) rfl (step_t (okL_sh x) ?_)))))
      rw [lookL]
      refine step_b h64 (step_t rfl (step_t rfl ?_))
      rw [lk4, hb]
      simp only [encLs]
      refine step_b (y := encL b) rfl (step_t (okL_sh b) (step_b (y := encL a) rfl (step_t (okL_sh a) ?_)))
      rw [lookL, lookL]
      refine step_b (h17 n (by omega)) (step_t (okL_sh _) ?_)
      rw [lookL]
      rfl
    · refine ⟨20, Ev.mk fun n hn => start n (by omega) _ ?_⟩
      have h64 := s64' x 2 n (by omega)
      rw [isOf x 2 1 rfl, decide_eq_false hx] at h64
      rw [e67, lenL, rule3_none hx]
      simp only [encLs]
      refine step_b (s73 3 n (by omega)) (step_t rfl (step_f hc (step_t rfl (step_b (y := encL x) rfl (step_t (okL_sh x) ?_)))))
      rw [lookL]
      exact step_b h64 (step_t rfl (step_f rfl rfl))
  have d3 : (o == 3) = false := by simp [c3]
  by_cases c5 : o = 5
  · subst c5
    obtain ⟨x, rfl⟩ := len1 hlen
    unfold stepT
    rw [ruleL_5]
    refine ⟨20, Ev.mk fun n hn => start n (by omega) _ ?_⟩
    have h64 := s64' x 4 n (by omega)
    rw [isOf x 4 0 rfl, isEmptyOf] at h64
    rw [e67, lenL]
    simp only [encLs]
    refine step_b (s73 5 n (by omega)) (step_t rfl (step_f hc (step_f rfl (step_t rfl (step_b (y := encL x) rfl (step_t (okL_sh x) ?_))))))
    rw [lookL, lk1]
    refine step_b h64 (step_t rfl ?_)
    by_cases hx : x.op = 4 ∧ x.parts.isEmpty = true
    · refine step_t (decide_eq_true hx) ?_
      by_cases hn0 : 0 ≤ x.num
      · refine step_t (decide_eq_true hn0) ?_
        by_cases hn1 : x.num ≤ 1099511627776
        · refine step_t (decide_eq_true hn1) ?_
          have : rule5 [x] = some (lNum (x.num + 1)) := by rw [rule5_eq]; rw [if_pos ⟨hx.1, hx.2, hn0, hn1⟩]
          rw [this, w64 (by omega)]
          rfl
        · refine step_f (decide_eq_false hn1) ?_
          have : rule5 [x] = none := by rw [rule5_eq]; rw [if_neg (fun q => hn1 q.2.2.2)]
          rw [this]; rfl
      · refine step_f (decide_eq_false hn0) ?_
        have : rule5 [x] = none := by rw [rule5_eq]; rw [if_neg (fun q => hn0 q.2.2.1)]
        rw [this]; rfl
    · refine step_f (decide_eq_false hx) ?_
      rw [rule5_none hx]; rfl
  have d5 : (o == 5) = false := by simp [c5]
  by_cases c6 : o = 6
  · subst c6
    obtain ⟨x, f, a, rfl⟩ := len3 hlen
    unfold stepT
    rw [ruleL_6]
    refine ⟨20, Ev.mk fun n hn => start n (by omega) _ ?_⟩
    have h64 := s64' x 4 n (by omega)
    rw [isOf x 4 0 rfl, isEmptyOf] at h64
    rw [e67, lenL]
    simp only [encLs]
    refine step_b (s73 6 n (by omega)) (step_t rfl (step_f hc (step_f rfl (step_f rfl (step_t rfl (step_b (y := encL x) rfl (step_t (okL_sh x) (step_b (y := encL f) rfl (step_t (okL_sh f) (step_b (y := encL a) rfl (step_t (okL_sh a) ?_)))))))))))
    rw [lookL, lk1]
    refine step_b h64 (step_t rfl ?_)
    by_cases hx : x.op = 4 ∧ x.parts.isEmpty = true
    · refine step_f (by show (!decide (x.op = 4 ∧ x.parts.isEmpty = true)) = false; rw [decide_eq_true hx]; rfl) ?_
      by_cases hn0 : x.num ≤ 0
      · refine step_t (decide_eq_true hn0) ?_
        have : rule6 [x, f, a] = some a := by rw [rule6_eq]; rw [if_pos hx, if_pos hn0]
        rw [lookL, this]
        rfl
      · refine step_f (decide_eq_false hn0) ?_
        have : rule6 [x, f, a] = some (.mk 3 0 tyZero [f, .mk 6 0 tyZero [lNum (x.num - 1), f, a]]) := by rw [rule6_eq]; rw [if_pos hx, if_neg hn0]
        rw [lookL, lookL, this, w64 (by have := h.fits; simp only [fitsL, fitsLs] at this; cases x; simp only [fitsL, Lam.num] at *; omega)]
        rfl
    · refine step_t (by show (!decide (x.op = 4 ∧ x.parts.isEmpty = true)) = true; rw [decide_eq_false hx]; rfl) ?_
      rw [rule6_none hx]; rfl
  have d6 : (o == 6) = false := by simp [c6]
  by_cases c8 : o = 8
  · subst c8
    obtain ⟨x, rfl⟩ := len1 hlen
    unfold stepT
    rw [ruleL_8]
    refine ⟨20, Ev.mk fun n hn => start n (by omega) _ ?_⟩
    have h64 := s64' x 7 n (by omega)
    rw [isOf x 7 2 rfl] at h64
    rw [e67, lenL]
    simp only [encLs]
    refine step_b (s73 8 n (by omega)) (step_t rfl (step_f hc (step_f rfl (step_f rfl (step_f rfl (step_t rfl (step_b (y := encL x) rfl (step_t (okL_sh x) ?_))))))))
    rw [lookL, lk4]
    refine step_b h64 (step_t rfl ?_)
    by_cases hx : x.op = 7 ∧ (x.parts.length : Int) = 2
    · obtain ⟨a, b, hab⟩ := len2 hx.2
      rw [rule8_some hab hx.1]
      refine step_t (decide_eq_true hx) (step_t rfl ?_)
      rw [hab]
      refine ((step_b (y := encL a) rfl (step_t (okL_sh a) ?_)))
      rw [lookL]
      rfl
    · refine step_f (decide_eq_false hx) ?_
      rw [rule8_none hx]; rfl
  have d8 : (o == 8) = false := by simp [c8]
  by_cases c9 : o = 9
  · subst c9
    obtain ⟨x, rfl⟩ := len1 hlen
    unfold stepT
    rw [ruleL_9]
    refine ⟨20, Ev.mk fun n hn => start n (by omega) _ ?_⟩
    have h64 := s64' x 7 n (by omega)
    rw [isOf x 7 2 rfl] at h64
    rw [e67, lenL]
    simp only [encLs]
    refine step_b (s73 9 n (by omega)) (step_t rfl (step_f hc (step_f rfl (step_f rfl (step_f rfl (step_f rfl (step_t rfl (step_b (y := encL x) rfl (step_t (okL_sh x) ?_)))))))))
    rw [lookL, lk4]
    refine step_b h64 (step_t rfl ?_)
    by_cases hx : x.op = 7 ∧ (x.parts.length : Int) = 2
    · obtain ⟨a, b, hab⟩ := len2 hx.2
      rw [rule9_some hab hx.1]
      refine step_t (decide_eq_true hx) (step_t rfl ?_)
      rw [hab]
      refine ((step_b (y := encL b) rfl (step_t (okL_sh b) ?_)))
      rw [lookL]
      rfl
    · refine step_f (decide_eq_false hx) ?_
      rw [rule9_none hx]; rfl
  have d9 : (o == 9) = false := by simp [c9]
  refine ⟨20, Ev.mk fun n hn => start n (by omega) _ ?_⟩
  unfold stepT
  rw [e67, lenL, ruleL_no c3 c5 c6 c8 c9]
  exact step_b (s73 o n (by omega)) (step_t rfl (step_f hc (step_f d3 (step_f d5 (step_f d6 (step_f d8 (step_f d9 rfl)))))))

/-- A rule, the reference's. -/
theorem s47 (t : Lam) (h : Fit t) : ∃ c, Ev E c 47 [encL t] (stepT t t) := by
  cases t with
  | mk o m t l =>
  have start : ∀ n r, evQ E n 47 [.agg [I o, I m, .str t.name, .slc (encTs t.parts), .slc (encLs l)]] = r → evQ E n 47 [encL (.mk o m t l)] = r := fun n r h => by rw [encL_eta (.mk o m t l)]; exact h
  have back : ∀ r, r = none → some (.tup [.agg [I o, I m, .str t.name, .slc (encTs t.parts), .slc (encLs l)], .bool false]) = some (outT r (.mk o m t l)) := fun r hr => by subst hr; unfold outT; rw [encL_eta (.mk o m t l)]; rfl
  have h68 : ∀ n, 2 ≤ n → evP (Tab.env tab) n 68 [.agg [I o, I m, .str t.name, .slc (encTs t.parts), .slc (encLs l)]] = some (.bool (partsN o == (l.length : Int))) := fun n hn => by
    have := s68' (.mk o m t l) n hn
    rw [encL_eta (.mk o m t l)] at this
    exact this
  unfold stepT
  by_cases hlen : (l.length : Int) = partsN o
  case neg =>
    refine ⟨10, Ev.mk fun n hn => start n _ ?_⟩
    have hc : (!(partsN o == (l.length : Int))) = true := by simp; exact fun q => hlen q.symm
    rw [e47, lenL]
    refine step_b (h68 n (by omega)) (step_t rfl (step_t hc (back _ (ruleL_len hlen))))
  case pos =>
  have hc : (!(partsN o == (l.length : Int))) = false := by simp [hlen]
  cases l with
  | nil =>
    have hr : ruleL (.mk o m t []) = none := by
      by_cases c3 : o = 3
      · subst c3; rfl
      by_cases c5 : o = 5
      · subst c5; rfl
      by_cases c6 : o = 6
      · subst c6; rfl
      by_cases c8 : o = 8
      · subst c8; rfl
      by_cases c9 : o = 9
      · subst c9; rfl
      exact ruleL_no c3 c5 c6 c8 c9
    refine ⟨10, Ev.mk fun n hn => start n _ ?_⟩
    rw [e47, lenL]
    exact step_b (h68 n (by omega)) (step_t rfl (step_f hc (step_t rfl (back _ hr))))
  | cons x l' =>
  have hz : (((x :: l').length : Int) == 0) = false := by simp; omega
  have h69 := s69' x
  have h68x := s68' x
  by_cases c3 : o = 3
  · subst c3
    obtain ⟨x', a, hl⟩ := len2 hlen
    simp only [List.cons.injEq] at hl
    obtain ⟨rfl, rfl⟩ := hl
    rw [ruleL_3] at *
    by_cases hx : x.op = 2 ∧ (x.parts.length : Int) = 1
    · obtain ⟨b, hb⟩ := len1 hx.2
      obtain ⟨_, ⟨c, h33⟩⟩ := h.redex hb
      refine ⟨c + 20, Ev.mk fun n hn => start n _ ?_⟩
      have k := h68x n (by omega)
      have e : (partsN x.op == (x.parts.length : Int)) = true := by rw [hx.1, hx.2]; rfl
      rw [e] at k
      rw [e47, lenL, rule3_some hb hx.1]
      simp only [encLs]
      refine step_b (h68 n (by omega)) (step_t rfl (step_f hc (step_f hz (step_b (y := encL x) rfl (step_t (okL_sh x) (step_t rfl ?_))))))
      rw [lookL, lk0]
      refine step_t (by simp [hx.1]) (step_b k (step_t rfl (step_t rfl ?_)))
      rw [lk4, hb]
      simp only [encLs]
      refine step_b (y := encL b) rfl (step_t (okL_sh b) (step_b (y := encL a) rfl (step_t (okL_sh a) ?_)))
      rw [lookL, lookL]
      refine step_b (h33 n (by omega)) (step_t (okL_sh _) ?_)
      rw [lookL]
      rfl
    · refine ⟨20, Ev.mk fun n hn => start n _ ?_⟩
      have k := h68x n (by omega)
      rw [e47, lenL]
      simp only [encLs] at back ⊢
      refine step_b (h68 n (by omega)) (step_t rfl (step_f hc (step_f hz (step_b (y := encL x) rfl (step_t (okL_sh x) (step_t rfl ?_))))))
      rw [lookL, lk0]
      by_cases h2 : x.op = 2
      · have e : (partsN x.op == (x.parts.length : Int)) = false := by
          rw [h2, show partsN 2 = 1 from rfl]
          simp
          intro q
          exact hx ⟨h2, by omega⟩
        rw [e] at k
        exact step_t (by simp [h2]) (step_b k (step_t rfl (step_f rfl (back _ (rule3_none hx)))))
      · exact step_f (by simp [h2]) (back _ (rule3_none hx))
  have d3 : (o == 3) = false := by simp [c3]
  by_cases c5 : o = 5
  · subst c5
    obtain ⟨x', hl⟩ := len1 hlen
    simp only [List.cons.injEq] at hl
    obtain ⟨rfl, rfl⟩ := hl
    rw [ruleL_5] at *
    refine ⟨20, Ev.mk fun n hn => start n _ ?_⟩
    have k := h69 n (by omega)
    rw [e47, lenL]
    simp only [encLs] at back ⊢
    refine step_b (h68 n (by omega)) (step_t rfl (step_f hc (step_f hz (step_b (y := encL x) rfl (step_t (okL_sh x) (step_f rfl (step_t rfl ?_)))))))
    rw [lookL, lk1]
    refine step_b k (step_t rfl ?_)
    by_cases hx : x.op = 4 ∧ x.parts.isEmpty = true
    · refine step_t (by show (x.op == 4 && x.parts.isEmpty) = true; simp [hx.1, hx.2]) ?_
      by_cases hn0 : 0 ≤ x.num
      · refine step_t (decide_eq_true hn0) ?_
        by_cases hn1 : x.num ≤ 1099511627776
        · refine step_t (decide_eq_true hn1) ?_
          have : rule5 [x] = some (lNum (x.num + 1)) := by rw [rule5_eq]; rw [if_pos ⟨hx.1, hx.2, hn0, hn1⟩]
          rw [this, w64 (by omega)]
          rfl
        · refine step_f (decide_eq_false hn1) ?_
          exact back _ (by rw [rule5_eq]; rw [if_neg (fun q => hn1 q.2.2.2)])
      · refine step_f (decide_eq_false hn0) ?_
        exact back _ (by rw [rule5_eq]; rw [if_neg (fun q => hn0 q.2.2.1)])
    · refine step_f (by show (x.op == 4 && x.parts.isEmpty) = false; rw [Bool.and_eq_false_iff]; by_cases q : x.op = 4
                        · right; cases hq : x.parts.isEmpty with
                          | false => rfl
                          | true => exact absurd ⟨q, hq⟩ hx
                        · left; simp [q]) ?_
      exact back _ (rule5_none hx)
  have d5 : (o == 5) = false := by simp [c5]
  by_cases c6 : o = 6
  · subst c6
    obtain ⟨x', f, a, hl⟩ := len3 hlen
    simp only [List.cons.injEq] at hl
    obtain ⟨rfl, rfl⟩ := hl
    rw [ruleL_6] at *
    refine ⟨20, Ev.mk fun n hn => start n _ ?_⟩
    have k := h69 n (by omega)
    rw [e47, lenL]
    simp only [encLs] at back ⊢
    refine step_b (h68 n (by omega)) (step_t rfl (step_f hc (step_f hz (step_b (y := encL x) rfl (step_t (okL_sh x) (step_f rfl (step_f rfl (step_t rfl ?_))))))))
    rw [lookL, lk1]
    refine step_b k (step_t rfl ?_)
    by_cases hx : x.op = 4 ∧ x.parts.isEmpty = true
    · have hxb : (x.op == 4 && x.parts.isEmpty) = true := by simp [hx.1, hx.2]
      refine step_t hxb ?_
      by_cases hn0 : x.num < 1
      · refine step_t (decide_eq_true hn0) ?_
        have : rule6 [x, f, a] = some a := by rw [rule6_eq]; rw [if_pos hx, if_pos (by omega)]
        refine step_b (y := encL a) rfl (step_t (okL_sh a) ?_)
        rw [lookL, this]
        rfl
      · refine step_f (decide_eq_false hn0) ?_
        have : rule6 [x, f, a] = some (.mk 3 0 tyZero [f, .mk 6 0 tyZero [lNum (x.num - 1), f, a]]) := by rw [rule6_eq]; rw [if_pos hx, if_neg (by omega)]
        refine step_b k (step_t rfl (step_t hxb (step_b (y := encL f) rfl (step_t (okL_sh f) (step_b (y := encL a) rfl (step_t (okL_sh a) (step_b (y := encL f) rfl (step_t (okL_sh f) ?_))))))))
        rw [lookL, lookL, this, w64 (by have := h.fits; simp only [fitsL, fitsLs] at this; cases x; simp only [fitsL, Lam.num] at *; omega)]
        rfl
    · have hxb : (x.op == 4 && x.parts.isEmpty) = false := by
        rw [Bool.and_eq_false_iff]
        by_cases q : x.op = 4
        · right; cases hq : x.parts.isEmpty with
          | false => rfl
          | true => exact absurd ⟨q, hq⟩ hx
        · left; simp [q]
      refine step_f hxb (step_b k (step_t rfl (step_f hxb (back _ (rule6_none hx)))))
  have d6 : (o == 6) = false := by simp [c6]
  by_cases c8 : o = 8
  · subst c8
    obtain ⟨x', hl⟩ := len1 hlen
    simp only [List.cons.injEq] at hl
    obtain ⟨rfl, rfl⟩ := hl
    rw [ruleL_8] at *
    refine ⟨20, Ev.mk fun n hn => start n _ ?_⟩
    have k := h68x n (by omega)
    rw [e47, lenL]
    simp only [encLs] at back ⊢
    refine step_b (h68 n (by omega)) (step_t rfl (step_f hc (step_f hz (step_b (y := encL x) rfl (step_t (okL_sh x) (step_f rfl (step_f rfl (step_f rfl (step_t rfl ?_)))))))))
    rw [lookL, lk0, lk4]
    by_cases h7 : x.op = 7
    · refine step_t (by simp [h7]) (step_b k (step_t rfl ?_))
      by_cases h2 : (x.parts.length : Int) = 2
      · obtain ⟨a, b, hab⟩ := len2 h2
        refine step_t (by show (partsN x.op == (x.parts.length : Int)) = true; rw [h7, h2]; rfl) (step_t rfl ?_)
        rw [rule8_some hab h7, hab]
        refine step_b (y := encL a) rfl (step_t (okL_sh a) ?_)
        rw [lookL]
        rfl
      · refine step_f (by show (partsN x.op == (x.parts.length : Int)) = false; rw [h7, show partsN 7 = 2 from rfl]; simp; omega) ?_
        exact back _ (rule8_none (fun q => h2 q.2))
    · exact step_f (by simp [h7]) (back _ (rule8_none (fun q => h7 q.1)))
  have d8 : (o == 8) = false := by simp [c8]
  by_cases c9 : o = 9
  · subst c9
    obtain ⟨x', hl⟩ := len1 hlen
    simp only [List.cons.injEq] at hl
    obtain ⟨rfl, rfl⟩ := hl
    rw [ruleL_9] at *
    refine ⟨20, Ev.mk fun n hn => start n _ ?_⟩
    have k := h68x n (by omega)
    rw [e47, lenL]
    simp only [encLs] at back ⊢
    refine step_b (h68 n (by omega)) (step_t rfl (step_f hc (step_f hz (step_b (y := encL x) rfl (step_t (okL_sh x) (step_f rfl (step_f rfl (step_f rfl (step_f rfl (step_t rfl ?_))))))))))
    rw [lookL, lk0, lk4]
    by_cases h7 : x.op = 7
    · refine step_t (by simp [h7]) (step_b k (step_t rfl ?_))
      by_cases h2 : (x.parts.length : Int) = 2
      · obtain ⟨a, b, hab⟩ := len2 h2
        refine step_t (by show (partsN x.op == (x.parts.length : Int)) = true; rw [h7, h2]; rfl) (step_t rfl ?_)
        rw [rule9_some hab h7, hab]
        refine step_b (y := encL b) rfl (step_t (okL_sh b) ?_)
        rw [lookL]
        rfl
      · refine step_f (by show (partsN x.op == (x.parts.length : Int)) = false; rw [h7, show partsN 7 = 2 from rfl]; simp; omega) ?_
        exact back _ (rule9_none (fun q => h2 q.2))
    · exact step_f (by simp [h7]) (back _ (rule9_none (fun q => h7 q.1)))
  have d9 : (o == 9) = false := by simp [c9]
  refine ⟨20, Ev.mk fun n hn => start n _ ?_⟩
  rw [e47, lenL]
  simp only [encLs] at back ⊢
  exact step_b (h68 n (by omega)) (step_t rfl (step_f hc (step_f hz (step_b (y := encL x) rfl (step_t (okL_sh x) (step_f d3 (step_f d5 (step_f d6 (step_f d8 (step_f d9 (back _ (ruleL_no c3 c5 c6 c8 c9))))))))))))

end Go.Proofs.Aw.Sa
