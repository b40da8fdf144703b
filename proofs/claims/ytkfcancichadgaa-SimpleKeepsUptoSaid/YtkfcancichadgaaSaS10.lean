/-
  SIMPLE, specs 10: variables replaced: the program's Shift and Subst.
-/
import Derived.Test.YtkfcancichadgaaSaS9
import Derived.Test.YtkfcancichadgaaSaE4
import Derived.Test.YtkfcancichadgaaSaE5
import Derived.Test.YtkfcancichadgaaSaMeta
set_option linter.unusedSimpArgs false
set_option linter.unusedVariables false
namespace Go.Proofs.Aw.Sa
open Go.Proofs

abbrev shT : Sh := Sh.agg [Sh.str, Sh.slc]
abbrev shL : Sh := Sh.agg [Sh.int IntKind.i64, Sh.int IntKind.i64, Sh.str, Sh.slc, Sh.slc]

theorem s64 (o m k : Int) (s : List UInt8) (u l : List Tree) : Ev E 2 64 [.agg [I o, I m, .str s, .slc u, .slc l], I k] (.bool (o == k && (l.length : Int) == partsN k)) :=
  Ev.mk fun n hn => by
    rw [e64, s73 k n (by omega)]
    by_cases h : o = k
    · rw [bif_pos (by simp [h])]
      simp [h]
    · rw [bif_neg (by simp [h])]
      simp [h]

theorem isLam (o : Int) (l : Nat) : (o == 2 && (l : Int) == partsN 2) = decide (bindsN o l = 1) := by
  unfold bindsN
  rw [show partsN 2 = 1 from rfl]
  by_cases h : o = 2 ∧ l = 1
  · rw [if_pos h]; simp [h.1, h.2]
  · rw [if_neg h]
    by_cases h2 : o = 2
    · have : ¬ l = 1 := fun e => h ⟨h2, e⟩
      simp [h2]
      omega
    · simp [h2]

theorem sizeT_wL (o m : Int) (t : Ty) (l : List Lam) : sizeT t ≤ wL (.mk o m t l) ∧ wLs l < wL (.mk o m t l) := by
  unfold wL; have := sizeT_pos t; omega

/-- What the function that replaces does, of Shift. -/
theorem s52 (o m : Int) (t : Ty) (l : List Lam) (dep fr d : Int) (hw : wL (.mk o m t l) ≤ 500000000000) (h1 : o = 1) (h2 : 0 ≤ m ∧ m ≤ 2147483648) (hfr : 0 ≤ fr ∧ fr ≤ 2147483648) (hd : -2147483648 ≤ d ∧ d ≤ 2147483648) (hdep : 0 ≤ dep ∧ dep ≤ 1000000000000000) :
    Ev E (2 * wL (.mk o m t l) + 5) 52 [encL (.mk o m t l), I dep, .ptr (I fr) 0, .ptr (I d) 0] (encL (.mk o (if o = 1 ∧ 0 ≤ m ∧ fr + dep ≤ m ∧ fr + dep ≤ m + d then m + d else m) t l)) := by
  refine Ev.mk fun n hn => ?_
  cases t with
  | mk s u =>
    have k1 := s42 (.mk o m (.mk s u) l) hw n (by omega)
    have k2 := s42 (.mk o (m + d) (.mk s u) l) (by unfold wL at hw ⊢; exact hw) n (by unfold wL at hn ⊢; omega)
    have look := lookL (.mk o m (.mk s u) l)
    have look2 := lookL (.mk o (m + d) (.mk s u) l)
    rw [encL] at k1 k2 look look2
    rw [encL, e52x, w64 (x := m - dep) (by omega), w64 (x := m - dep + d) (by omega), w64 (x := m + d) (by omega), k1, k2]
    have ok1 := okL_sh (.mk o m (.mk s u) l)
    have ok2 := okL_sh (.mk o (m + d) (.mk s u) l)
    rw [encL] at ok1 ok2
    simp only [Option.bind_some, ok1, ok2, cond_true, look, look2]
    by_cases c1 : m - dep ≥ fr
    · rw [bif_pos (by exact decide_eq_true c1)]
      by_cases c2 : m - dep + d ≥ fr
      · rw [bif_pos (by exact decide_eq_true c2), bif_pos (by exact decide_eq_true (by omega)), if_pos (by omega)]
        rfl
      · rw [bif_neg (by exact decide_eq_false c2), if_neg (by omega)]
        rfl
    · rw [bif_neg (by exact decide_eq_false c1), if_neg (by omega)]
      rfl

theorem wLs_shifts : ∀ (l : List Lam) (d k : Int), wLs (shifts d k l) = wLs l
  | [], d, k => rfl
  | t :: r, d, k => by
    unfold shifts wLs
    rw [wLs_shifts r]
    cases t with
    | mk o m t l =>
      unfold shift wL
      rw [wLs_shifts l]

theorem wL_shift (t : Lam) (d k : Int) : wL (shift d k t) = wL t := by
  have := wLs_shifts [t] d k
  simpa [shifts, wLs] using this

theorem lenN (acc : List Tree) (x : Tree) (r : List Tree) : nth (acc ++ x :: r) acc.length = some x := nth_app x r acc

theorem condRow (i n : Nat) (h : i < n) (l l' : List Sh) (hl : l.length = l'.length) : (decide ((0 : Int) ≤ (i : Nat)) && (decide (((i : Nat) : Int) < ((n : Nat) : Int)) && Nat.beq l.length l'.length)) = true := by
  rw [decide_eq_true (by omega), decide_eq_true (by omega), hl]
  simp

mutual
theorem s43x : ∀ (t : Lam) (fr d dep : Int), wL t ≤ 500000000000 → numsLe 2147483648 t → (0 ≤ fr ∧ fr ≤ 2147483648) → (-2147483648 ≤ d ∧ d ≤ 2147483648) → (0 ≤ dep ∧ dep + wL t ≤ 1000000000000000) →
    ∃ c, Ev E c 43 [encL t, I dep, .fn 52 [] [.ptr (I fr) 0, .ptr (I d) 0]] (encL (shift d (fr + dep) t))
  | .mk o m (.mk s u) l, fr, d, dep, hw, hm, hfr, hd, hdep => by
    have hl := len_wLs l
    have hsz := sizeT_pos (.mk s u)
    have hbn := bindsN_b o l.length
    unfold numsLe at hm
    have hw' := hw
    unfold wL at hw' hdep
    obtain ⟨c1, h1⟩ := l43x l fr d (dep + bindsN o l.length) (by omega) hm.2 hfr hd (by omega)
    have h41 := s41 (.mk s u) (by omega)
    have hsw := wLs_shifts l d (fr + dep + bindsN o l.length)
    have hlen := lenShifts d (fr + dep + bindsN o l.length) l
    refine ⟨c1 + l.length + 2 * sizeT (.mk s u) + 2 * wL (.mk o m (.mk s u) l) + 20, Ev.mk fun n hn => ?_⟩
    have h41 := h41 n (by omega)
    rw [encT] at h41
    have h64 := s64 o m 2 s (encTs u) (encLs l) n (by omega)
    rw [lenL, isLam] at h64
    rw [encL, e43x, h41]
    have ok := okT_sh (.mk s u)
    rw [encT] at ok
    simp only [Option.bind_some, ok, cond_true, cs_agg, List.headD_cons, List.tail_cons, toStr_str, elems_slc]
    rw [firstL, cond_true, lenL, bif_pos (by rw [Nat.ble_eq]; omega), h64]
    simp only [Option.bind_some, ok_bool, cond_true, toBool_bool]
    have fin : ∀ inn j1 j2 j3, inn = dep + bindsN o l.length → L43_0x n n dep fr d inn (l.length : Nat) 0 o m s (encTs u) (encLs l) j1 j2 j3 = some (encL (shift d (fr + dep) (.mk o m (.mk s u) l))) := by
      intro inn j1 j2 j3 hi
      subst hi
      obtain ⟨q, hq⟩ : ∃ q, n = q + l.length + 1 := ⟨n - l.length - 1, by omega⟩
      have e := h1 n (by omega) q [] 0 dep o m s (encTs u) j1 j2 j3 (by simp) (by simp; omega)
      rw [← hq] at e
      simp only [List.nil_append, Nat.zero_add, List.length_nil] at e
      rw [show ((0 : Nat) : Int) = 0 from rfl] at e
      rw [e, show q + 1 = Nat.succ q from rfl, l43_0x, bif_neg (by simp)]
      rw [show fr + (dep + bindsN o l.length) = fr + dep + bindsN o l.length by omega]
      unfold shift
      by_cases c1 : o = 1
      · rw [bif_pos (by simp [c1])]
        have hm1 := hm.1 c1
        by_cases c2 : m ≥ 0
        · rw [bif_pos (by exact decide_eq_true c2), bif_pos (by exact decide_eq_true hm1)]
          have h52 := s52 o m (.mk s u) (shifts d (fr + dep + bindsN o l.length) l) dep fr d (by unfold wL; rw [hsw]; omega) c1 ⟨c2, hm1⟩ hfr hd (by omega) n (by unfold wL at hn ⊢; rw [hsw]; omega)
          rw [encL] at h52
          rw [h52]
          simp only [Option.bind_some, okL_sh, cond_true]
          rw [lookL]
        · rw [bif_neg (by exact decide_eq_false c2), if_neg (by omega), encL]
      · rw [bif_neg (by simp [c1]), if_neg (by omega), encL]
    by_cases hb : bindsN o l.length = 1
    · rw [bif_pos (by simp [hb]), w64 (by omega)]
      exact fin _ _ _ _ (by omega)
    · rw [bif_neg (by simp [hb])]
      exact fin _ _ _ _ (by omega)
theorem l43x : ∀ (r : List Lam) (fr d inn : Int), wLs r ≤ 500000000000 → numsLes 2147483648 r → (0 ≤ fr ∧ fr ≤ 2147483648) → (-2147483648 ≤ d ∧ d ≤ 2147483648) → (0 ≤ inn ∧ inn + wLs r ≤ 1000000000000000) →
    ∃ c, ∀ n, c ≤ n → ∀ (q : Nat) (acc : List Tree) (i : Nat) (dep o m : Int) (s : List UInt8) (u : List Tree) (j1 j2 : Int) (j3 : List UInt8), i = acc.length → acc.length + r.length ≤ 1000000000000 →
      L43_0x n (q + r.length + 1) dep fr d inn ((acc.length + r.length : Nat) : Int) (i : Nat) o m s u (acc ++ encLs r) j1 j2 j3 =
      L43_0x n (q + 1) dep fr d inn ((acc.length + r.length : Nat) : Int) ((acc.length + r.length : Nat) : Int) o m s u (acc ++ encLs (shifts d (fr + inn) r)) j1 j2 j3
  | [], fr, d, inn, hw, hm, hfr, hd, hi => ⟨0, fun n hn q acc i dep o m s u j1 j2 j3 hia _ => by subst hia; rfl⟩
  | x :: r, fr, d, inn, hw, hm, hfr, hd, hi => by
    have hx := wL_pos x
    simp only [wLs] at hw hi
    unfold numsLes at hm
    obtain ⟨c1, h1⟩ := s43x x fr d inn (by omega) hm.1 hfr hd (by omega)
    obtain ⟨c2, h2⟩ := l43x r fr d inn (by omega) hm.2 hfr hd (by omega)
    refine ⟨c1 + c2, fun n hn q acc i dep o m s u j1 j2 j3 hia hb => ?_⟩
    subst hia
    simp only [List.length_cons] at hb ⊢
    have hlen : (acc ++ encLs (x :: r)).length = acc.length + (r.length + 1) := by simp [encLs, lenL]
    have e2 := h2 n (by omega) q (acc ++ [encL (shift d (fr + inn) x)]) (acc.length + 1) dep o m s u j1 j2 j3 (by simp) (by simp; omega)
    simp only [List.length_append, List.length_singleton, List.append_assoc, List.singleton_append] at e2
    have hN : nth (acc ++ encLs (x :: r)) acc.length = some (encL x) := by rw [encLs]; exact lenN _ _ _
    rw [show q + (r.length + 1) + 1 = Nat.succ (q + r.length + 1) from rfl, l43_0x, bif_pos (by exact decide_eq_true (by omega)), hlen, bif_pos (by exact condRow _ _ (by omega) _ _ rfl), Int.toNat_natCast, hN]
    simp only [Option.bind_some, okL_sh, cond_true]
    rw [lookL, h1 n (by omega)]
    simp only [Option.bind_some, okL_sh, cond_true]
    rw [bif_pos (by exact condRow _ _ (by omega) _ _ rfl), lookL, encLs, setN_app, w64 (by omega)]
    rw [show (((acc.length : Nat) : Int) + 1) = ((acc.length + 1 : Nat) : Int) by omega, show acc.length + (r.length + 1) = acc.length + 1 + r.length by omega, e2]
    rfl
end

mutual
theorem shift_far : ∀ (t : Lam) (d k B : Int), numsLe B t → B < k → shift d k t = t
  | .mk o m t l, d, k, B, hm, hk => by
    unfold numsLe at hm
    have hbn := bindsN_b o l.length
    unfold shift
    rw [shifts_far l d _ B hm.2 (by omega)]
    by_cases h : o = 1
    · have := hm.1 h
      rw [if_neg (by omega)]
    · rw [if_neg (by omega)]
theorem shifts_far : ∀ (l : List Lam) (d k B : Int), numsLes B l → B < k → shifts d k l = l
  | [], _, _, _, _, _ => rfl
  | t :: r, d, k, B, hm, hk => by
    unfold numsLes at hm
    unfold shifts
    rw [shift_far t d k B hm.1 hk, shifts_far r d k B hm.2 hk]
end

/-- The program's Shift. -/
theorem s31 (t : Lam) (d k : Int) (hw : wL t ≤ 500000000000) (hm : numsLe 2147483648 t) (hd : -2147483648 ≤ d ∧ d ≤ 2147483648) : ∃ c, Ev E c 31 [encL t, I d, I k] (encL (shift d (imax k 0) t)) := by
  have h42 := s42 t hw
  by_cases c1 : k > 2147483648
  · refine ⟨2 * wL t + 5, Ev.mk fun n hn => ?_⟩
    have e : imax k 0 = k := by unfold imax; rw [if_neg (by omega)]
    rw [e, shift_far t d k _ hm c1]
    have h42 := h42 n (by omega)
    cases t with
    | mk o m t l =>
      cases t with
      | mk s u =>
        have ok1 := okL_sh (.mk o m (.mk s u) l)
        have look := lookL (.mk o m (.mk s u) l)
        rw [encL] at h42 ok1 look
        rw [encL, e31, bif_pos (by exact decide_eq_true c1), h42]
        simp only [Option.bind_some, ok1, cond_true, look]
  · have e0 : 0 ≤ imax k 0 ∧ imax k 0 ≤ 2147483648 := by unfold imax; split <;> omega
    obtain ⟨c, h⟩ := s43x t (imax k 0) d 0 hw hm e0 hd (by omega)
    refine ⟨c + 1, Ev.mk fun n hn => ?_⟩
    have h := h n (by omega)
    rw [Int.add_zero] at h
    have ok1 := okL_sh (shift d (imax k 0) t)
    have look := lookL (shift d (imax k 0) t)
    cases t with
    | mk o m t l =>
      cases t with
      | mk s u =>
        rw [encL] at h
        rw [encL, e31, bif_neg (by exact decide_eq_false c1), bif_neg (by exact decide_eq_false (by omega)), bif_neg (by exact decide_eq_false (by omega)), h]
        simp only [Option.bind_some, ok1, cond_true, look]

theorem wL_mk (o m : Int) (t : Ty) (l : List Lam) : wL (.mk o m t l) = 1 + sizeT t + wLs l := rfl
theorem sizeL_mk (o m : Int) (t : Ty) (l : List Lam) : sizeL (.mk o m t l) = 1 + sizeLs l := rfl

/-! ### putting in -/
mutual
theorem wL_subst : ∀ (t : Lam) (a : Int) (s : Lam) (d : Int), wL (subst a s d t) ≤ wL t + sizeL t * wL s
  | .mk o m t l, a, s, d => by
    unfold subst
    split
    · rw [wL_shift, sizeL_mk, Nat.add_mul]; omega
    · have := wLs_substs l a s (d + bindsN o l.length)
      rw [wL_mk, wL_mk, sizeL_mk, Nat.add_mul]
      omega
theorem wLs_substs : ∀ (l : List Lam) (a : Int) (s : Lam) (d : Int), wLs (substs a s d l) ≤ wLs l + sizeLs l * wL s
  | [], a, s, d => by simp [substs, wLs]
  | t :: r, a, s, d => by
    have h1 := wL_subst t a s d
    have h2 := wLs_substs r a s d
    unfold substs wLs sizeLs
    rw [Nat.add_mul]
    omega
end

theorem lenSubsts (a : Int) (s : Lam) (d : Int) : ∀ l : List Lam, (substs a s d l).length = l.length
  | [] => rfl
  | t :: r => by simp [substs, lenSubsts a s d r]

/-- What the function that replaces does, of Subst. -/
theorem s44 (o m : Int) (t : Ty) (l : List Lam) (dep a : Int) (s : Lam) (hw : wL (.mk o m t l) ≤ 500000000000) (h2 : 0 ≤ m ∧ m ≤ 2147483648) (ha : 0 ≤ a ∧ a ≤ 2147483648) (hdep : 0 ≤ dep ∧ dep ≤ 2147483648)
    (hs : wL s ≤ 500000000000) (hsn : numsLe 2147483648 s) :
    ∃ c, Ev E c 44 [encL (.mk o m t l), I dep, .ptr (I a) 0, .ptr (encL s) 0] (encL (if m = a + dep then shift dep 0 s else .mk o (if m > a + dep then m - 1 else m) t l)) := by
  obtain ⟨c, h31⟩ := s31 s dep 0 hs hsn (by omega)
  refine ⟨c + 2 * wL (.mk o m t l) + 5, Ev.mk fun n hn => ?_⟩
  have h31 := h31 n (by omega)
  rw [show imax 0 0 = 0 from rfl] at h31
  cases t with
  | mk ss u =>
    have k1 := s42 (.mk o m (.mk ss u) l) hw n (by omega)
    have k2 := s42 (.mk o (m - 1) (.mk ss u) l) (by unfold wL at hw ⊢; exact hw) n (by unfold wL at hn ⊢; omega)
    have look := lookL (.mk o m (.mk ss u) l)
    have look2 := lookL (.mk o (m - 1) (.mk ss u) l)
    have ok1 := okL_sh (.mk o m (.mk ss u) l)
    have ok2 := okL_sh (.mk o (m - 1) (.mk ss u) l)
    have look3 := lookL (shift dep 0 s)
    have ok3 := okL_sh (shift dep 0 s)
    rw [encL] at k1 k2 look look2 ok1 ok2
    cases s with
    | mk so sn st sl =>
      cases st with
      | mk ss' su =>
        rw [encL] at h31
        rw [encL, encL, e44x, w64 (x := m - dep) (by omega), w64 (x := m - 1) (by omega), k1, k2, h31]
        simp only [Option.bind_some, ok1, ok2, ok3, cond_true, look, look2, look3]
        by_cases c1 : m = a + dep
        · rw [bif_pos (by simp; omega), if_pos c1]
        · rw [bif_neg (by simp; omega), if_neg c1]
          by_cases c2 : m > a + dep
          · rw [bif_pos (by exact decide_eq_true (by omega)), if_pos c2]
            rfl
          · rw [bif_neg (by exact decide_eq_false (by omega)), if_neg c2]
            rfl

mutual
theorem s43y : ∀ (t : Lam) (a dep : Int) (s : Lam), wL t + sizeL t * wL s ≤ 500000000000 → numsLe 2147483648 t → (0 ≤ a ∧ a ≤ 2147483648) → (0 ≤ dep ∧ dep + sizeL t ≤ 2147483648) → numsLe 2147483648 s → wL s ≤ 500000000000 →
    ∃ c, Ev E c 43 [encL t, I dep, .fn 44 [] [.ptr (I a) 0, .ptr (encL s) 0]] (encL (subst a s dep t))
  | .mk o m (.mk ss u) l, a, dep, s, hw, hm, ha, hdep, hsn, hs => by
    have hl := len_wLs l
    have hsz := sizeT_pos (.mk ss u)
    have hbn := bindsN_b o l.length
    unfold numsLe at hm
    have hw' := hw
    rw [wL_mk, sizeL_mk, Nat.add_mul] at hw'
    rw [sizeL_mk] at hdep
    have hsw := wLs_substs l a s (dep + bindsN o l.length)
    have hlen := lenSubsts a s (dep + bindsN o l.length) l
    obtain ⟨c1, h1⟩ := l43y l a (dep + bindsN o l.length) s (by omega) hm.2 ha (by omega) hsn hs
    have h41 := s41 (.mk ss u) (by omega)
    have h44 : ∃ c, (0 ≤ m ∧ m ≤ 2147483648) → Ev E c 44 [encL (.mk o m (.mk ss u) (substs a s (dep + bindsN o l.length) l)), I dep, .ptr (I a) 0, .ptr (encL s) 0] (encL (if m = a + dep then shift dep 0 s else .mk o (if m > a + dep then m - 1 else m) (.mk ss u) (substs a s (dep + bindsN o l.length) l))) := by
      by_cases hmm : 0 ≤ m ∧ m ≤ 2147483648
      · obtain ⟨c, h⟩ := s44 o m (.mk ss u) (substs a s (dep + bindsN o l.length) l) dep a s (by rw [wL_mk]; omega) hmm ha (by omega) hs hsn
        exact ⟨c, fun _ => h⟩
      · exact ⟨0, fun h => absurd h hmm⟩
    obtain ⟨c2, h44⟩ := h44
    refine ⟨c1 + c2 + l.length + 2 * sizeT (.mk ss u) + 20, Ev.mk fun n hn => ?_⟩
    have h41 := h41 n (by omega)
    rw [encT] at h41
    have h64 := s64 o m 2 ss (encTs u) (encLs l) n (by omega)
    rw [lenL, isLam] at h64
    cases s with
    | mk so sn st sl =>
    cases st with
    | mk ss' su =>
    rw [encL, encL, e43y, h41]
    have ok := okT_sh (.mk ss u)
    rw [encT] at ok
    simp only [Option.bind_some, ok, cond_true, cs_agg, List.headD_cons, List.tail_cons, toStr_str, elems_slc]
    rw [firstL, cond_true, lenL, bif_pos (by rw [Nat.ble_eq]; omega), h64]
    simp only [Option.bind_some, ok_bool, cond_true, toBool_bool]
    have fin : ∀ inn j1 j2 j3, inn = dep + bindsN o l.length → L43_0y n n dep a so sn ss' (encTs su) (encLs sl) inn (l.length : Nat) 0 o m ss (encTs u) (encLs l) j1 j2 j3 = some (encL (subst a (.mk so sn (.mk ss' su) sl) dep (.mk o m (.mk ss u) l))) := by
      intro inn j1 j2 j3 hi
      subst hi
      obtain ⟨q, hq⟩ : ∃ q, n = q + l.length + 1 := ⟨n - l.length - 1, by omega⟩
      have e := h1 n (by omega) q [] 0 dep o m ss (encTs u) j1 j2 j3 so sn ss' su sl rfl (by simp) (by simp; omega)
      rw [← hq] at e
      simp only [List.nil_append, Nat.zero_add, List.length_nil] at e
      rw [show ((0 : Nat) : Int) = 0 from rfl] at e
      rw [e, show q + 1 = Nat.succ q from rfl, l43_0y, bif_neg (by simp)]
      unfold subst
      by_cases c1 : o = 1
      · rw [bif_pos (by simp [c1])]
        have hm1 := hm.1 c1
        by_cases c2 : m ≥ 0
        · rw [bif_pos (by exact decide_eq_true c2), bif_pos (by exact decide_eq_true hm1)]
          have h52 := h44 ⟨c2, hm1⟩ n (by omega)
          rw [encL, encL] at h52
          rw [h52]
          simp only [Option.bind_some, okL_sh, cond_true]
          rw [lookL]
          by_cases c3 : m = a + dep
          · rw [if_pos c3, if_pos ⟨c1, c3⟩]
          · rw [if_neg c3, if_neg (show ¬ (o = 1 ∧ m = a + dep) by omega)]
            by_cases c4 : m > a + dep
            · rw [if_pos c4, if_pos ⟨c1, c4⟩]
            · rw [if_neg c4, if_neg (show ¬ (o = 1 ∧ m > a + dep) by omega)]
        · rw [bif_neg (by exact decide_eq_false c2), if_neg (by omega), if_neg (by omega), encL]
      · rw [bif_neg (by simp [c1]), if_neg (by omega), if_neg (by omega), encL]
    by_cases hb : bindsN o l.length = 1
    · rw [bif_pos (by simp [hb]), w64 (by omega)]
      exact fin _ _ _ _ (by omega)
    · rw [bif_neg (by simp [hb])]
      exact fin _ _ _ _ (by omega)
theorem l43y : ∀ (r : List Lam) (a inn : Int) (s : Lam), wLs r + sizeLs r * wL s ≤ 500000000000 → numsLes 2147483648 r → (0 ≤ a ∧ a ≤ 2147483648) → (0 ≤ inn ∧ inn + sizeLs r ≤ 2147483648) → numsLe 2147483648 s → wL s ≤ 500000000000 →
    ∃ c, ∀ n, c ≤ n → ∀ (q : Nat) (acc : List Tree) (i : Nat) (dep o m : Int) (ss : List UInt8) (u : List Tree) (j1 j2 : Int) (j3 : List UInt8) (so sn : Int) (ss' : List UInt8) (su : List Ty) (sl : List Lam), s = .mk so sn (.mk ss' su) sl → i = acc.length → acc.length + r.length ≤ 1000000000000 →
      L43_0y n (q + r.length + 1) dep a so sn ss' (encTs su) (encLs sl) inn ((acc.length + r.length : Nat) : Int) (i : Nat) o m ss u (acc ++ encLs r) j1 j2 j3 =
      L43_0y n (q + 1) dep a so sn ss' (encTs su) (encLs sl) inn ((acc.length + r.length : Nat) : Int) ((acc.length + r.length : Nat) : Int) o m ss u (acc ++ encLs (substs a s inn r)) j1 j2 j3
  | [], a, inn, s, hw, hm, ha, hi, hsn, hs => ⟨0, fun n hn q acc i dep o m ss u j1 j2 j3 so sn ss' su sl hse hia _ => by subst hia; rfl⟩
  | x :: r, a, inn, s, hw, hm, ha, hi, hsn, hs => by
    have hx := wL_pos x
    simp only [wLs, sizeLs] at hw hi
    rw [Nat.add_mul] at hw
    unfold numsLes at hm
    obtain ⟨c1, h1⟩ := s43y x a inn s (by omega) hm.1 ha (by omega) hsn hs
    obtain ⟨c2, h2⟩ := l43y r a inn s (by omega) hm.2 ha (by omega) hsn hs
    refine ⟨c1 + c2, fun n hn q acc i dep o m ss u j1 j2 j3 so sn ss' su sl hse hia hb => ?_⟩
    subst hia
    simp only [List.length_cons] at hb ⊢
    have hlen : (acc ++ encLs (x :: r)).length = acc.length + (r.length + 1) := by simp [encLs, lenL]
    have e2 := h2 n (by omega) q (acc ++ [encL (subst a s inn x)]) (acc.length + 1) dep o m ss u j1 j2 j3 so sn ss' su sl hse (by simp) (by simp; omega)
    simp only [List.length_append, List.length_singleton, List.append_assoc, List.singleton_append] at e2
    have hN : nth (acc ++ encLs (x :: r)) acc.length = some (encL x) := by rw [encLs]; exact lenN _ _ _
    have h1 := h1 n (by omega)
    rw [hse, encL, ← hse] at h1
    rw [show q + (r.length + 1) + 1 = Nat.succ (q + r.length + 1) from rfl, l43_0y, bif_pos (by exact decide_eq_true (by omega)), hlen, bif_pos (by exact condRow _ _ (by omega) _ _ rfl), Int.toNat_natCast, hN]
    simp only [Option.bind_some, okL_sh, cond_true]
    rw [lookL, h1]
    simp only [Option.bind_some, okL_sh, cond_true]
    rw [bif_pos (by exact condRow _ _ (by omega) _ _ rfl), lookL, encLs, setN_app, w64 (by omega)]
    rw [show (((acc.length : Nat) : Int) + 1) = ((acc.length + 1 : Nat) : Int) by omega, show acc.length + (r.length + 1) = acc.length + 1 + r.length by omega, e2]
    rfl
end

end Go.Proofs.Aw.Sa
