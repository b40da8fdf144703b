/-
  SIMPLE, specs 12: how heavy terms are.
-/
import Derived.Test.YtkfcancichadgaaSaS11
set_option linter.unusedSimpArgs false
set_option linter.unusedVariables false
namespace Go.Proofs.Aw.Sa
open Go.Proofs

mutual
theorem l14 : ∀ (r : List Ty), sizeTs r ≤ 100000000 → ∀ (pre : List Ty) (lim a : Int), (0 ≤ lim ∧ lim ≤ 1000000) → (0 ≤ a ∧ a ≤ lim + 1 + sizeTs pre) → sizeTs (pre ++ r) ≤ 100000000 → (a ≤ lim → a = sizeTs pre) →
    ∃ (c : Nat) (x : Int), (∀ n, c ≤ n → ∀ q, r.length < q → L14_0 n q (encTs (pre ++ r)) lim a (pre.length : Nat) = some (I x)) ∧ 0 ≤ x ∧ x ≤ lim + 1 + sizeTs (pre ++ r) ∧ (x ≤ lim → x = sizeTs (pre ++ r))
  | [], _, pre, lim, a, hlim, ha, hp, he => ⟨0, a, fun n hn q hq => by
      obtain ⟨q, rfl⟩ : ∃ k, q = k + 1 := ⟨q - 1, by omega⟩
      rw [show q + 1 = Nat.succ q from rfl, l14_0, bif_neg (by rw [lenT]; simp)], ha.1, by simpa using ha.2, by simpa using he⟩
  | x0 :: r, hw, pre, lim, a, hlim, ha, hp, he => by
    have t14x := t14 x0
    cases x0 with
    | mk s l =>
    simp only [sizeTs, sizeT] at hw
    have hpa : ∀ (a b : List Ty), sizeTs (a ++ b) = sizeTs a + sizeTs b := by
      intro a b
      induction a with
      | nil => simp [sizeTs]
      | cons x a ih => simp only [List.cons_append, sizeTs, ih]; omega
    have hlen : (pre ++ Ty.mk s l :: r).length = pre.length + (r.length + 1) := by simp
    have hl2 := len_sizeTs (pre ++ Ty.mk s l :: r)
    rw [hlen] at hl2
    have hall : sizeTs (pre ++ Ty.mk s l :: r) = sizeTs pre + (1 + sizeTs l) + sizeTs r := by rw [hpa]; simp only [sizeTs, sizeT]; omega
    have hpp : sizeTs (pre ++ [Ty.mk s l]) = sizeTs pre + (1 + sizeTs l) := by rw [hpa]; simp only [sizeTs, sizeT]; omega
    have hpl : pre.length < (pre ++ Ty.mk s l :: r).length := by simp
    have hok : Sh.ok (Sh.agg [Sh.str, Sh.slc]) (Tree.agg [Tree.str s, Tree.slc (encTs l)]) = true := okT_sh (.mk s l)
    by_cases c : a ≤ lim
    · by_cases c3 : (s.length : Int) > 100
      · refine ⟨0, lim + 1, fun n hn q hq => ?_, by omega, by omega, fun h => by omega⟩
        obtain ⟨q, rfl⟩ : ∃ k, q = k + 1 := ⟨q - 1, by simp at hq; omega⟩
        rw [show q + 1 = Nat.succ q from rfl, l14_0, bif_pos (by rw [lenT]; exact decide_eq_true (by omega)), bif_pos (by exact decide_eq_true c), bif_pos (by exact decide_eq_true (by omega)), Int.toNat_natCast, nthT, Option.bind_some, okT_sh, cond_true]
        simp only [encT, cs_agg, List.headD_cons, List.tail_cons, toStr_str, elems_slc]
        rw [bif_pos (by exact decide_eq_true c3), w64 (by omega)]
      · obtain ⟨c1, x, hx, k1, k2, k3⟩ := t14x (by unfold sizeT; omega) (lim - a) (by omega)
        simp only [Ty.parts] at hx k2 k3
        obtain ⟨c2, y, hy, j1, j2, j3⟩ := l14 r (by omega) (pre ++ [Ty.mk s l]) lim (a + 1 + x) hlim ⟨by omega, by rw [hpp]; omega⟩ (by simpa using hp) (fun hle => by rw [hpp]; have := k3 (by omega); have := he c; omega)
        refine ⟨c1 + c2, y, fun n hn q hq => ?_, j1, by simpa using j2, by simpa using j3⟩
        obtain ⟨q, rfl⟩ : ∃ k, q = k + 1 := ⟨q - 1, by simp at hq; omega⟩
        rw [show q + 1 = Nat.succ q from rfl, l14_0, bif_pos (by rw [lenT]; exact decide_eq_true (by omega)), bif_pos (by exact decide_eq_true c), bif_pos (by exact decide_eq_true (by omega)), Int.toNat_natCast, nthT, Option.bind_some, okT_sh, cond_true]
        simp only [encT, cs_agg, List.headD_cons, List.tail_cons, toStr_str, elems_slc]
        rw [bif_neg (by exact decide_eq_false c3), bif_pos (by exact decide_eq_true (by omega)), Option.bind_some, hok, cond_true]
        simp only [cs_agg, List.headD_cons, List.tail_cons, toStr_str, elems_slc]
        rw [w64 (x := lim - a) (by omega), hx n (by omega)]
        simp only [Option.bind_some, ok_int, cond_true, toInt_int]
        rw [w64 (x := a + 1) (by omega), w64 (x := a + 1 + x) (by omega), w64 (by omega)]
        have e := hy n (by omega) q (by simp at hq; omega)
        simpa using e
    · refine ⟨0, a, fun n hn q hq => ?_, ha.1, by rw [hall]; omega, fun h => absurd h c⟩
      obtain ⟨q, rfl⟩ : ∃ k, q = k + 1 := ⟨q - 1, by simp at hq; omega⟩
      rw [show q + 1 = Nat.succ q from rfl, l14_0, bif_pos (by rw [lenT]; exact decide_eq_true (by omega)), bif_neg (by exact decide_eq_false c)]
theorem t14 : ∀ (t : Ty), sizeT t ≤ 100000000 → ∀ lim : Int, (0 ≤ lim ∧ lim ≤ 1000000) → ∃ (c : Nat) (x : Int), Ev E c 14 [.slc (encTs t.parts), I lim] (I x) ∧ 0 ≤ x ∧ x ≤ lim + 1 + sizeTs t.parts ∧ (x ≤ lim → x = sizeTs t.parts)
  | .mk s l, hw, lim, hlim => by
    have hw' : sizeTs l ≤ 100000000 := by unfold sizeT at hw; omega
    obtain ⟨c, x, hx, k1, k2, k3⟩ := l14 l hw' [] lim 0 hlim (by simp [sizeTs]; omega) (by simpa using hw') (fun _ => by simp [sizeTs])
    refine ⟨c + l.length + 3, x, Ev.mk fun n hn => ?_, k1, by simpa [Ty.parts, Lam.parts] using k2, by simpa [Ty.parts, Lam.parts] using k3⟩
    have hx := hx n (by omega) n (by omega)
    show evQ E n 14 [.slc (encTs l), I lim] = some (I x)
    rw [e14]
    simpa using hx
end

theorem s14 : ∀ (l : List Ty), sizeTs l ≤ 100000000 → ∀ lim : Int, (0 ≤ lim ∧ lim ≤ 1000000) → ∃ (c : Nat) (x : Int), Ev E c 14 [.slc (encTs l), I lim] (I x) ∧ 0 ≤ x ∧ x ≤ lim + 1 + sizeTs l ∧ (x ≤ lim → x = sizeTs l)
  | l, hw, lim, hlim => by
    obtain ⟨c, x, hx, k1, k2, k3⟩ := l14 l hw [] lim 0 hlim (by simp [sizeTs]; omega) (by simpa using hw) (fun _ => by simp [sizeTs])
    refine ⟨c + l.length + 3, x, Ev.mk fun n hn => ?_, k1, by simpa using k2, by simpa using k3⟩
    have hx := hx n (by omega) n (by omega)
    rw [e14]
    simpa using hx

mutual
/-- All types of a term of at most B nodes. -/
def tyLe (B : Nat) : Lam → Prop
  | .mk _ _ t l => sizeT t ≤ B ∧ tyLes B l
def tyLes (B : Nat) : List Lam → Prop
  | [] => True
  | t :: r => tyLe B t ∧ tyLes B r
end

theorem sizeTs_one (t : Ty) : sizeTs [t] = sizeT t := by simp [sizeTs]

mutual
theorem l37 : ∀ (r : List Lam), wLs r ≤ 50000000 → ∀ (pre : List Lam) (lim a : Int), (-1000000000000 ≤ lim ∧ lim ≤ 1000000000000) → (0 ≤ a ∧ a ≤ (if lim < 0 then 0 else lim) + 1 + 82 * sizeLs pre) → wLs (pre ++ r) ≤ 50000000 → (a ≤ lim → tyLes 80 pre) →
    ∃ (c : Nat) (x : Int), (∀ n, c ≤ n → ∀ q, r.length < q → L37_0 n q (encLs (pre ++ r)) lim a (pre.length : Nat) = some (I x)) ∧ 0 ≤ x ∧ x ≤ (if lim < 0 then 0 else lim) + 1 + 82 * sizeLs (pre ++ r) ∧ (x ≤ lim → tyLes 80 (pre ++ r))
  | [], _, pre, lim, a, hlim, ha, hp, he => ⟨0, a, fun n hn q hq => by
      obtain ⟨q, rfl⟩ : ∃ k, q = k + 1 := ⟨q - 1, by omega⟩
      rw [show q + 1 = Nat.succ q from rfl, l37_0, bif_neg (by rw [lenL]; simp)], ha.1, by simpa using ha.2, by simpa using he⟩
  | x0 :: r, hw, pre, lim, a, hlim, ha, hp, he => by
    have t37x := t37 x0
    cases x0 with
    | mk o m t l =>
    simp only [wLs, wL] at hw
    have hpa : ∀ (a b : List Lam), sizeLs (a ++ b) = sizeLs a + sizeLs b := by
      intro a b
      induction a with
      | nil => simp [sizeLs]
      | cons x a ih => simp only [List.cons_append, sizeLs, ih]; omega
    have hta : ∀ (a b : List Lam), tyLes 80 (a ++ b) ↔ tyLes 80 a ∧ tyLes 80 b := by
      intro a b
      induction a with
      | nil => simp [tyLes]
      | cons x a ih => simp only [List.cons_append, tyLes, ih]; exact ⟨fun h => ⟨⟨h.1, h.2.1⟩, h.2.2⟩, fun h => ⟨h.1.1, h.1.2, h.2⟩⟩
    have hsw : ∀ a : List Lam, sizeLs a ≤ wLs a := by
      intro a
      have : ∀ (x : Lam), sizeL x ≤ wL x := fun x => sizeL_wL x
      induction a with
      | nil => simp [sizeLs, wLs]
      | cons x a ih => have := this x; simp only [sizeLs, wLs]; omega
    have hlen : (pre ++ Lam.mk o m t l :: r).length = pre.length + (r.length + 1) := by simp
    have hl2 := len_sizeLs (pre ++ Lam.mk o m t l :: r)
    have hs3 := hsw (pre ++ Lam.mk o m t l :: r)
    rw [hlen] at hl2
    have hall : sizeLs (pre ++ Lam.mk o m t l :: r) = sizeLs pre + (1 + sizeLs l) + sizeLs r := by rw [hpa]; simp only [sizeLs, sizeL]; omega
    have hpp : sizeLs (pre ++ [Lam.mk o m t l]) = sizeLs pre + (1 + sizeLs l) := by rw [hpa]; simp only [sizeLs, sizeL]; omega
    have hpl : pre.length < (pre ++ Lam.mk o m t l :: r).length := by simp
    by_cases c : a ≤ lim
    · have hl0 : ¬ lim < 0 := by omega
      rw [if_neg hl0] at ha ⊢
      obtain ⟨c0, x0, hx0, k1, k2, k3⟩ := s14 [t] (by rw [sizeTs_one]; omega) 80 (by omega)
      have hT : Tree.agg [Tree.str (Tree.toStr (List.headD (List.tail (List.tail (Tree.cs (encL (Lam.mk o m t l))))) (Tree.bool false))), Tree.slc (Tree.elems (List.headD (List.tail (List.tail (List.tail (Tree.cs (encL (Lam.mk o m t l)))))) (Tree.bool false)))] = encT t := by
        cases t with
        | mk s u => rfl
      have hL : Tree.elems (List.headD (List.tail (List.tail (List.tail (List.tail (Tree.cs (encL (Lam.mk o m t l))))))) (Tree.bool false)) = encLs l := by
        cases t with
        | mk s u => rfl
      have hx0' : ∀ n, c0 ≤ n → evP (Tab.env tab) n 14 [.slc [encT t], I 80] = some (I x0) := fun n hn => by simpa [encTs] using hx0 n hn
      rw [sizeTs_one] at k2 k3
      have start : ∀ n q, c0 ≤ n → L37_0 n (q + 1) (encLs (pre ++ Lam.mk o m t l :: r)) lim a (pre.length : Nat) =
          (bif decide (x0 > 80) then some (I (lim + 1)) else
            (evP (Tab.env tab) n 37 [.slc (encLs l), I (IntKind.wrap .i64 (lim - (a + 1 + x0)))]).bind fun y_4 =>
              bif Sh.ok (Sh.int .i64) y_4 then L37_0 n q (encLs (pre ++ Lam.mk o m t l :: r)) lim (IntKind.wrap .i64 (a + 1 + x0 + Tree.toInt y_4)) (IntKind.wrap .i64 ((pre.length : Nat) + 1)) else none) := by
        intro n q hn
        rw [show q + 1 = Nat.succ q from rfl, l37_0, bif_pos (by rw [lenL]; exact decide_eq_true (by omega)), bif_pos (by exact decide_eq_true c), bif_pos (by exact decide_eq_true (by omega)), Int.toNat_natCast, nthL]
        simp only [Option.bind_some, okL_sh, cond_true]
        rw [hT, hx0' n hn]
        simp only [Option.bind_some, ok_int, cond_true, toInt_int]
        rw [bif_pos (c := decide (0 ≤ ((pre.length : Nat) : Int))) (by exact decide_eq_true (by omega)), hL, w64 (x := lim + 1) (by omega), w64 (x := a + 1) (by omega), w64 (x := a + 1 + x0) (by omega)]
        rw [bif_pos (c := decide (0 ≤ ((pre.length : Nat) : Int))) (by exact decide_eq_true (by omega))]
        rfl
      by_cases c3 : x0 > 80
      · refine ⟨c0, lim + 1, fun n hn q hq => ?_, by omega, by omega, fun h => by omega⟩
        obtain ⟨q, rfl⟩ : ∃ k, q = k + 1 := ⟨q - 1, by simp at hq; omega⟩
        rw [start n q hn, bif_pos (by exact decide_eq_true c3)]
      · have hst := k3 (by omega)
        obtain ⟨c1, x, hx, j1, j2, j3⟩ := t37x (by unfold wL; omega) (lim - (a + 1 + x0)) (by omega)
        simp only [Lam.parts] at hx j2 j3
        have hsl := hsw l
        have j2' : a + 1 + x0 + x ≤ lim + 82 * (1 + sizeLs l) := by
          split at j2 <;> omega
        obtain ⟨c2, y, hy, i1, i2, i3⟩ := l37 r (by omega) (pre ++ [Lam.mk o m t l]) lim (a + 1 + x0 + x) hlim ⟨by omega, by rw [if_neg hl0, hpp]; omega⟩ (by simpa using hp) (fun hle => by
          rw [hta]
          exact ⟨he c, by unfold tyLes tyLe; exact ⟨⟨by omega, j3 (by omega)⟩, trivial⟩⟩)
        rw [if_neg hl0] at i2
        refine ⟨c0 + c1 + c2, y, fun n hn q hq => ?_, i1, by simpa using i2, by simpa using i3⟩
        obtain ⟨q, rfl⟩ : ∃ k, q = k + 1 := ⟨q - 1, by simp at hq; omega⟩
        rw [start n q (by omega), bif_neg (by exact decide_eq_false c3), w64 (x := lim - (a + 1 + x0)) (by omega), hx n (by omega)]
        simp only [Option.bind_some, ok_int, cond_true, toInt_int]
        rw [w64 (x := a + 1 + x0 + x) (by omega), w64 (by omega)]
        have e := hy n (by omega) q (by simp at hq; omega)
        simpa using e
    · refine ⟨0, a, fun n hn q hq => ?_, ha.1, by rw [hall]; split at ha <;> omega, fun h => absurd h c⟩
      obtain ⟨q, rfl⟩ : ∃ k, q = k + 1 := ⟨q - 1, by simp at hq; omega⟩
      rw [show q + 1 = Nat.succ q from rfl, l37_0, bif_pos (by rw [lenL]; exact decide_eq_true (by omega)), bif_neg (by exact decide_eq_false c)]
theorem t37 : ∀ (t : Lam), wL t ≤ 50000000 → ∀ lim : Int, (-1000000000000 ≤ lim ∧ lim ≤ 1000000000000) → ∃ (c : Nat) (x : Int), Ev E c 37 [.slc (encLs t.parts), I lim] (I x) ∧ 0 ≤ x ∧ x ≤ (if lim < 0 then 0 else lim) + 1 + 82 * sizeLs t.parts ∧ (x ≤ lim → tyLes 80 t.parts)
  | .mk o m t l, hw, lim, hlim => by
    have hw' : wLs l ≤ 50000000 := by unfold wL at hw; omega
    obtain ⟨c, x, hx, k1, k2, k3⟩ := l37 l hw' [] lim 0 hlim ⟨by omega, by simp only [sizeLs]; split <;> omega⟩ (by simpa using hw') (fun _ => by simp [tyLes])
    refine ⟨c + l.length + 3, x, Ev.mk fun n hn => ?_, k1, by simpa [Ty.parts, Lam.parts] using k2, by simpa [Ty.parts, Lam.parts] using k3⟩
    have hx := hx n (by omega) n (by omega)
    show evQ E n 37 [.slc (encLs l), I lim] = some (I x)
    rw [e37]
    simpa using hx
end

theorem s37 : ∀ (l : List Lam), wLs l ≤ 50000000 → ∀ lim : Int, (-1000000000000 ≤ lim ∧ lim ≤ 1000000000000) → ∃ (c : Nat) (x : Int), Ev E c 37 [.slc (encLs l), I lim] (I x) ∧ 0 ≤ x ∧ x ≤ (if lim < 0 then 0 else lim) + 1 + 82 * sizeLs l ∧ (x ≤ lim → tyLes 80 l)
  | l, hw, lim, hlim => by
    obtain ⟨c, x, hx, k1, k2, k3⟩ := l37 l hw [] lim 0 hlim ⟨by omega, by simp only [sizeLs]; split <;> omega⟩ (by simpa using hw) (fun _ => by simp [tyLes])
    refine ⟨c + l.length + 3, x, Ev.mk fun n hn => ?_, k1, by simpa using k2, by simpa using k3⟩
    have hx := hx n (by omega) n (by omega)
    rw [e37]
    simpa using hx

/-- What is not heavy has at most 120 nodes, each of its types at most 80. -/
theorem s10 (ts : List Lam) (hw : wLs ts ≤ 50000000) : ∃ c, ∃ b : Bool, Ev E c 10 [.slc (encLs ts)] (.bool b) ∧ (b = false → ∀ t, t ∈ ts → sizeL t ≤ 120 ∧ tyLe 80 t) := by
  have loop : ∀ (r pre : List Lam), wLs (pre ++ r) ≤ 50000000 → ∃ c, ∃ b : Bool, (∀ n, c ≤ n → ∀ q, r.length < q → L10_0 n q (encLs (pre ++ r)) (pre.length : Nat) = some (.bool b)) ∧ (b = false → ∀ t, t ∈ r → sizeL t ≤ 120 ∧ tyLe 80 t) := by
    intro r
    induction r with
    | nil =>
      intro pre hp
      refine ⟨0, false, fun n hn q hq => ?_, fun _ t ht => by simp at ht⟩
      obtain ⟨q, rfl⟩ : ∃ k, q = k + 1 := ⟨q - 1, by omega⟩
      rw [show q + 1 = Nat.succ q from rfl, l10_0, bif_neg (by rw [lenL]; simp)]
    | cons x r ih =>
      intro pre hp
      have hpa : ∀ (a b : List Lam), wLs (a ++ b) = wLs a + wLs b := by
        intro a b
        induction a with
        | nil => simp [wLs]
        | cons x a ih => simp only [List.cons_append, wLs, ih]; omega
      have hl := len_wLs (pre ++ x :: r)
      rw [hpa] at hp
      simp only [wLs] at hp
      have hlen : (pre ++ x :: r).length = pre.length + (r.length + 1) := by simp
      rw [hpa] at hl
      simp only [wLs] at hl
      rw [hlen] at hl
      have hsx := sizeL_wL x
      have h38 := s38 x (by omega)
      obtain ⟨c1, y, hy, y1, y2, y3⟩ := s37 [x] (by simp only [wLs]; omega) 720 (by omega)
      obtain ⟨c2, b2, h2, h2'⟩ := ih (pre ++ [x]) (by rw [List.append_assoc, List.singleton_append, hpa]; simp only [wLs]; omega)
      have hdrop : List.drop pre.length (List.take (pre.length + 1) (encLs (pre ++ x :: r))) = encLs [x] := by
        have : encLs (pre ++ x :: r) = encLs pre ++ (encL x :: encLs r) := by simp [encLs_map]
        rw [this]
        have hl3 := lenL pre
        rw [List.take_append, List.drop_append]
        simp [hl3, encLs]
      have start : ∀ n q, c1 + 2 * sizeL x + 2 ≤ n → L10_0 n (q + 1) (encLs (pre ++ x :: r)) (pre.length : Nat) =
          (bif decide (y > 720) then some (.bool true) else bif decide ((sizeL x : Int) > 120) then some (.bool true) else L10_0 n q (encLs (pre ++ x :: r)) ((pre.length + 1 : Nat) : Int)) := by
        intro n q hn
        rw [show q + 1 = Nat.succ q from rfl, l10_0, bif_pos (by rw [lenL]; exact decide_eq_true (by omega)), w64 (by omega), lenL, hlen, bif_pos (by rw [decide_eq_true (by omega), decide_eq_true (by omega), decide_eq_true (by omega)]; rfl)]
        rw [show (((pre.length : Nat) : Int) + 1) = ((pre.length + 1 : Nat) : Int) by omega, Int.toNat_natCast, Int.toNat_natCast, hdrop, firstL, cond_true, hy n (by omega)]
        simp only [Option.bind_some, ok_int, cond_true, toInt_int]
        rw [bif_pos (c := decide (0 ≤ ((pre.length : Nat) : Int))) (by exact decide_eq_true (by omega)), nthL, Option.bind_some, okL_sh, cond_true, lookL, h38 n (by omega)]
        simp only [Option.bind_some, ok_tup, oks_cons, ok_int, oks_nil, Bool.and_true, cond_true, tupl_tup, List.headD_cons, List.tail_cons, toInt_int]
        rfl
      by_cases d1 : y > 720
      · refine ⟨c1 + 2 * sizeL x + 2, true, fun n hn q hq => ?_, fun h => by cases h⟩
        obtain ⟨q, rfl⟩ : ∃ k, q = k + 1 := ⟨q - 1, by simp at hq; omega⟩
        rw [start n q hn, bif_pos (by exact decide_eq_true d1)]
      · by_cases d2 : (sizeL x : Int) > 120
        · refine ⟨c1 + 2 * sizeL x + 2, true, fun n hn q hq => ?_, fun h => by cases h⟩
          obtain ⟨q, rfl⟩ : ∃ k, q = k + 1 := ⟨q - 1, by simp at hq; omega⟩
          rw [start n q hn, bif_neg (by exact decide_eq_false d1), bif_pos (by exact decide_eq_true d2)]
        · refine ⟨c1 + c2 + 2 * sizeL x + 2, b2, fun n hn q hq => ?_, fun hb t ht => ?_⟩
          · obtain ⟨q, rfl⟩ : ∃ k, q = k + 1 := ⟨q - 1, by simp at hq; omega⟩
            rw [start n q (by omega), bif_neg (by exact decide_eq_false d1), bif_neg (by exact decide_eq_false d2)]
            have e := h2 n (by omega) q (by simp at hq; omega)
            simpa using e
          · rcases List.mem_cons.1 ht with rfl | ht
            · exact ⟨by omega, (y3 (by omega)).1⟩
            · exact h2' hb t ht
  obtain ⟨c, b, h, h'⟩ := loop ts [] (by simpa using hw)
  refine ⟨c + ts.length + 3, b, Ev.mk fun n hn => ?_, h'⟩
  have := h n (by omega) n (by omega)
  rw [e10]
  simpa using this

end Go.Proofs.Aw.Sa
