/-
  SIMPLE, specs 11: the program's Subst; the reference's Shift and Subst.
-/
import Derived.Test.YtkfcancichadgaaSaS10
import Derived.Test.YtkfcancichadgaaSaE7
set_option linter.unusedSimpArgs false
set_option linter.unusedVariables false
namespace Go.Proofs.Aw.Sa
open Go.Proofs

mutual
theorem subst_far : ∀ (t : Lam) (a : Int) (s : Lam) (d B : Int), numsLe B t → B < a + d → subst a s d t = t
  | .mk o m t l, a, s, d, B, hm, hk => by
    unfold numsLe at hm
    have hbn := bindsN_b o l.length
    unfold subst
    rw [substs_far l a s _ B hm.2 (by omega)]
    by_cases h : o = 1
    · have := hm.1 h
      rw [if_neg (by omega), if_neg (by omega)]
    · rw [if_neg (by omega), if_neg (by omega)]
theorem substs_far : ∀ (l : List Lam) (a : Int) (s : Lam) (d B : Int), numsLes B l → B < a + d → substs a s d l = l
  | [], _, _, _, _, _, _ => rfl
  | t :: r, a, s, d, B, hm, hk => by
    unfold numsLes at hm
    unfold substs
    rw [subst_far t a s d B hm.1 hk, substs_far r a s d B hm.2 hk]
end

/-- The program's Subst. -/
theorem s17 (t : Lam) (a : Int) (s : Lam) (hw : wL t + sizeL t * wL s ≤ 500000000000) (hm : numsLe 2147483648 t) (hd : sizeL t ≤ 2147483648) (hsn : numsLe 2147483648 s) (hs : wL s ≤ 500000000000) :
    ∃ c, Ev E c 17 [encL t, I a, encL s] (encL (if a < 0 then t else subst a s 0 t)) := by
  have h42 := s42 t (by omega)
  by_cases c1 : a < 0
  · refine ⟨2 * wL t + 5, Ev.mk fun n hn => ?_⟩
    have h42 := h42 n (by omega)
    rw [if_pos c1]
    cases t with
    | mk o m t l =>
      cases t with
      | mk ss u =>
        cases s with
        | mk so sn st sl =>
          cases st with
          | mk ss' su =>
            have ok1 := okL_sh (.mk o m (.mk ss u) l)
            have look := lookL (.mk o m (.mk ss u) l)
            rw [encL] at h42 ok1 look
            rw [encL, encL, e17, bif_pos (by exact decide_eq_true c1), h42]
            simp only [Option.bind_some, ok1, cond_true, look]
  · rw [if_neg c1]
    by_cases c2 : a > 2147483648
    · refine ⟨2 * wL t + 5, Ev.mk fun n hn => ?_⟩
      have h42 := h42 n (by omega)
      rw [subst_far t a s 0 _ hm (by omega)]
      cases t with
      | mk o m t l =>
        cases t with
        | mk ss u =>
          cases s with
          | mk so sn st sl =>
            cases st with
            | mk ss' su =>
              have ok1 := okL_sh (.mk o m (.mk ss u) l)
              have look := lookL (.mk o m (.mk ss u) l)
              rw [encL] at h42 ok1 look
              rw [encL, encL, e17, bif_neg (by exact decide_eq_false c1), bif_pos (by exact decide_eq_true c2), h42]
              simp only [Option.bind_some, ok1, cond_true, look]
    · obtain ⟨c, h⟩ := s43y t a 0 s hw hm (by omega) (by omega) hsn hs
      refine ⟨c + 1, Ev.mk fun n hn => ?_⟩
      have h := h n (by omega)
      have ok1 := okL_sh (subst a s 0 t)
      have look := lookL (subst a s 0 t)
      cases t with
      | mk o m t l =>
        cases t with
        | mk ss u =>
          cases s with
          | mk so sn st sl =>
            cases st with
            | mk ss' su =>
              rw [encL, encL] at h
              rw [encL, encL, e17, bif_neg (by exact decide_eq_false c1), bif_neg (by exact decide_eq_false c2), h]
              simp only [Option.bind_some, ok1, cond_true, look]

/-! ### the reference's -/
abbrev shsL : List Sh := [Sh.int IntKind.i64, Sh.int IntKind.i64, Sh.str, Sh.slc, Sh.slc]

/-- A term laid open: its cells, its parts a row. -/
def Lay (t : Lam) (r : AV × Heap) : Prop :=
  (t.parts = [] ∧ aggCs r.1 = [.t (I t.op), .t (I t.num), .t (.str t.ty.name), .t (.slc (encTs t.ty.parts)), .nilS]) ∨
  (∃ b, aggCs r.1 = [.t (I t.op), .t (I t.num), .t (.str t.ty.name), .t (.slc (encTs t.ty.parts)), .hsl b none] ∧ rdH r.2 b = .tre shL (encLs t.parts))

theorem s53r (t : Lam) (d k : Int) (h : wL t ≤ 500000000000) (hm : numsLe 1152921504606846976 t) (hd : -1099511627776 ≤ d ∧ d ≤ 1099511627776) (hk : 0 ≤ k ∧ k + wL t ≤ 4611686018430387904) :
    ∃ c, ∀ n, c ≤ n → ∃ r, runFn E n 53 [.t (encL t), .t (I d), .t (I k)] [] = some r ∧ Lay (shift d k t) r := by
  cases t with
  | mk o m t l =>
  cases t with
  | mk s u =>
  have hl := len_wLs l
  have hsp := sizeT_pos (.mk s u)
  rw [wL_mk] at h hk
  unfold numsLe at hm
  have loop : ∀ (r pre : List Lam) (acc : List Tree) (n q : Nat), 2 * wLs r + 5 ≤ n → r.length < q → wLs r ≤ 500000000000 → numsLes 1152921504606846976 r → k + wLs r + 1 ≤ 4611686018430387904 → acc.length + r.length + (pre ++ r).length ≤ 1500000000000 →
      ∀ (j1 j2 : Int) (j3 : List UInt8) (o' m' : Int) (s' : List UInt8) (u' : List Tree), ∃ rr,
      (match acc with
        | [] => M53_0r n q d k (pre.length : Nat) o m s (encTs u) (encLs (pre ++ r)) j1 j2 j3 o' m' s' u'
        | _ => M53_0rb n q d k (pre.length : Nat) o m s (encTs u) (encLs (pre ++ r)) j1 j2 j3 o' m' s' u' acc) = some rr ∧
      ((acc = [] ∧ r = [] ∧ aggCs rr.1 = [.t (I o'), .t (I m'), .t (.str s'), .t (.slc u'), .nilS]) ∨
        (∃ b, aggCs rr.1 = [.t (I o'), .t (I m'), .t (.str s'), .t (.slc u'), .hsl b none] ∧ rdH rr.2 b = .tre shL (acc ++ encLs (shifts d (k + bindsN o (pre ++ r).length) r)))) := by
    intro r
    induction r with
    | nil =>
      intro pre acc n q hn hq hs hm hk2 hb j1 j2 j3 o' m' s' u'
      obtain ⟨q, rfl⟩ : ∃ k, q = k + 1 := ⟨q - 1, by omega⟩
      cases acc with
      | nil =>
        simp only [show q + 1 = Nat.succ q from rfl]
        rw [m53_0r, bif_neg (by rw [lenL]; simp)]
        exact ⟨_, rfl, .inl ⟨trivial, trivial, rfl⟩⟩
      | cons a ac =>
        simp only [show q + 1 = Nat.succ q from rfl]
        rw [m53_0rb, bif_neg (by rw [lenL]; simp)]
        exact ⟨_, rfl, .inr ⟨3, rfl, by simp [shifts, encLs, rdH, nth]⟩⟩
    | cons x r ihr =>
      intro pre acc n q hn hq hs hm hk2 hb j1 j2 j3 o' m' s' u'
      obtain ⟨q, rfl⟩ : ∃ k, q = k + 1 := ⟨q - 1, by omega⟩
      simp only [List.length_cons] at hq hb
      have hx := wL_pos x
      simp only [wLs] at hn hs hk2
      unfold numsLes at hm
      have hpl : pre.length < (pre ++ x :: r).length := by simp
      have hbn := bindsN_b o (pre ++ x :: r).length
      have h77 := s77 o m s (encTs u) (encLs (pre ++ x :: r)) n (by omega)
      rw [lenL] at h77
      have h53 := s53 x d (k + bindsN o (pre ++ x :: r).length) (by omega) hm.1 hd (by omega) n (by omega)
      have ih := ihr (pre ++ [x]) (acc ++ [encL (shift d (k + bindsN o (pre ++ x :: r).length) x)]) n q (by omega) (by omega) (by omega) hm.2 (by omega) (by simp at hb ⊢; omega) j1 j2 j3 o' m' s' u'
      simp only [List.append_assoc, List.singleton_append, List.length_append, List.length_singleton] at ih
      have hgoal : acc ++ encLs (shifts d (k + bindsN o (pre ++ x :: r).length) (x :: r)) = acc ++ ([encL (shift d (k + bindsN o (pre ++ x :: r).length) x)] ++ encLs (shifts d (k + bindsN o (pre ++ x :: r).length) r)) := by
        simp [shifts, encLs]
      rw [hgoal]
      have hlim : Nat.ble ((acc.length + List.length [encL (shift d (k + bindsN o (pre ++ x :: r).length) x)]) * 80) 140737488355328 = true := by
        rw [Nat.ble_eq]; simp; omega
      cases acc with
      | nil =>
        simp only [show q + 1 = Nat.succ q from rfl]
        rw [m53_0r, bif_pos (by rw [lenL]; exact decide_eq_true (by omega)), bif_pos (by exact decide_eq_true (by omega)), Int.toNat_natCast, nthL, Option.bind_some, okL_sh, cond_true, h77]
        simp only [Option.bind_some, ok_int, cond_true, toInt_int]
        rw [lookL, w64 (x := k + bindsN o (pre ++ x :: r).length) (by omega), h53]
        simp only [Option.bind_some, okL_sh, cond_true]
        rw [lookL, w64 (by simp at hb; omega)]
        simpa using ih
      | cons a ac =>
        simp only [show q + 1 = Nat.succ q from rfl]
        rw [m53_0rb, bif_pos (by rw [lenL]; exact decide_eq_true (by omega)), bif_pos (by exact decide_eq_true (by omega)), Int.toNat_natCast, nthL, Option.bind_some, okL_sh, cond_true, h77]
        simp only [Option.bind_some, ok_int, cond_true, toInt_int]
        rw [lookL, w64 (x := k + bindsN o (pre ++ x :: r).length) (by omega), h53]
        simp only [Option.bind_some, okL_sh, cond_true, openL]
        rw [bif_pos (by rw [hlim]; rfl), w64 (by simp at hb; omega)]
        simpa using ih
  refine ⟨2 * wLs l + l.length + 20, fun n hn => ?_⟩
  obtain ⟨n, rfl⟩ : ∃ k, n = k + 1 := ⟨n - 1, by omega⟩
  have hL := loop l [] [] n n (by omega) (by omega) (by omega) hm.2 (by omega) (by simp; omega)
  simp only [List.nil_append, List.length_nil] at hL
  rw [show ((0 : Nat) : Int) = 0 from rfl] at hL
  have fin : ∀ m', (∃ rr, M53_0r n n d k 0 o m s (encTs u) (encLs l) 0 0 [] o m' s (encTs u) = some rr ∧ Lay (.mk o m' (.mk s u) (shifts d (k + bindsN o l.length) l)) rr) := by
    intro m'
    obtain ⟨rr, h1, h2⟩ := hL 0 0 [] o m' s (encTs u)
    refine ⟨rr, h1, ?_⟩
    rcases h2 with ⟨_, h3, h4⟩ | ⟨b, h3, h4⟩
    · subst h3; exact .inl ⟨rfl, h4⟩
    · exact .inr ⟨b, h3, h4⟩
  rw [runFn_evR, encL, r53r]
  unfold shift
  by_cases c1 : o = 1
  · have hm1 := hm.1 c1
    rw [bif_pos (by simp [c1])]
    by_cases c2 : m ≥ 0
    · rw [bif_pos (by exact decide_eq_true c2)]
      by_cases c3 : m ≥ k
      · rw [bif_pos (by exact decide_eq_true c3), w64 (x := m + d) (by omega)]
        by_cases c4 : m + d ≥ k
        · rw [bif_pos (by exact decide_eq_true c4), if_pos ⟨c1, c2, c3, c4⟩]
          exact fin _
        · rw [bif_neg (by exact decide_eq_false c4), if_neg (by omega)]
          exact fin _
      · rw [bif_neg (by exact decide_eq_false c3), if_neg (by omega)]
        exact fin _
    · rw [bif_neg (by exact decide_eq_false c2), if_neg (by omega)]
      exact fin _
  · rw [bif_neg (by simp [c1]), if_neg (by omega)]
    exact fin _

theorem shEq_L : shEq shL shL = true := rfl

theorem Lay.look {t : Lam} {r : AV × Heap} (h : Lay t r) :
    (t.parts = [] ∧ rowForm shL r.2 shsL (aggCs r.1) = false ∧ nilForm shsL (aggCs r.1) = true ∨ rowForm shL r.2 shsL (aggCs r.1) = true) ∧
    Tree.toInt (headT (aggCs r.1)) = t.op ∧ Tree.toInt (headT (aggCs r.1).tail) = t.num ∧ Tree.toStr (headT (aggCs r.1).tail.tail) = t.ty.name ∧ Tree.elems (headT (aggCs r.1).tail.tail.tail) = encTs t.ty.parts ∧ rowOf r.2 (aggCs r.1) = encLs t.parts := by
  rcases h with ⟨h0, h1⟩ | ⟨b, h1, h2⟩
  · rw [h1]
    refine ⟨.inl ⟨h0, by simp [rowForm], by simp [nilForm]⟩, rfl, rfl, rfl, rfl, ?_⟩
    rw [h0]; simp [rowOf, encLs]
  · rw [h1]
    refine ⟨.inr ?_, rfl, rfl, rfl, rfl, ?_⟩
    · simp [rowForm, h2, shEq_L]
    · simp [rowOf, h2]

theorem encL_eta (t : Lam) : encL t = .agg [I t.op, I t.num, .str t.ty.name, .slc (encTs t.ty.parts), .slc (encLs t.parts)] := encL_cells' t
where encL_cells' (t : Lam) : encL t = .agg [I t.op, I t.num, .str t.ty.name, .slc (encTs t.ty.parts), .slc (encLs t.parts)] := by
        cases t with
        | mk o m t l => cases t; rfl

@[simp] theorem open_str (s : List UInt8) : Sh.open .str (.str s) = .str s := rfl

/-- The reference's Shift. -/
theorem s32 (t : Lam) (d k : Int) (h : wL t ≤ 500000000000) (hm : numsLe 1152921504606846976 t) (hd : -1099511627776 ≤ d ∧ d ≤ 1099511627776) (hk : k + wL t ≤ 4611686018430387904) :
    ∃ c, Ev E c 32 [encL t, I d, I k] (encL (shift d (imax k 0) t)) := by
  have hi : 0 ≤ imax k 0 ∧ imax k 0 + wL t ≤ 4611686018430387904 := by unfold imax; split <;> omega
  obtain ⟨c, hc⟩ := s53r t d (imax k 0) h hm hd hi
  refine ⟨c + 1, Ev.mk fun n hn => ?_⟩
  obtain ⟨r, h1, h2⟩ := hc n (by omega)
  obtain ⟨hf, k1, k2, k3, k4, k5⟩ := h2.look
  generalize shift d (imax k 0) t = t' at *
  cases t with
  | mk o m t l =>
  cases t with
  | mk s u =>
  rw [encL] at h1
  rw [encL, e32]
  simp only [open_int, open_str, open_slc]
  rw [h1]
  simp only [Option.bind_some]
  rcases hf with ⟨h0, hf1, hf2⟩ | hf
  · rw [hf1, cond_false, hf2, cond_true, k1, k2, k3, k4, encL_eta t', h0]
    rfl
  · rw [hf, cond_true, k1, k2, k3, k4, k5, encL_eta t']

/-- The reference's Shift over a heap of its own. -/
theorem s32r (t : Lam) (d k : Int) (h : wL t ≤ 500000000000) (hm : numsLe 1152921504606846976 t) (hd : -1099511627776 ≤ d ∧ d ≤ 1099511627776) (hk : k + wL t ≤ 4611686018430387904) :
    ∃ c, ∀ n, c ≤ n → ∃ r, runFn E n 32 [.t (encL t), .t (I d), .t (I k)] [] = some r ∧ Lay (shift d (imax k 0) t) r := by
  have hi : 0 ≤ imax k 0 ∧ imax k 0 + wL t ≤ 4611686018430387904 := by unfold imax; split <;> omega
  obtain ⟨c, hc⟩ := s53r t d (imax k 0) h hm hd hi
  refine ⟨c + 1, fun n hn => ?_⟩
  obtain ⟨n, rfl⟩ : ∃ k, n = k + 1 := ⟨n - 1, by omega⟩
  obtain ⟨r, h1, h2⟩ := hc n (by omega)
  obtain ⟨hf, k1, k2, k3, k4, k5⟩ := h2.look
  generalize shift d (imax k 0) t = t' at *
  cases t with
  | mk o m t l =>
  cases t with
  | mk s u =>
  rw [encL] at h1
  rw [runFn_evR, encL, r32r]
  simp only [open_int, open_str, open_slc]
  rw [h1]
  simp only [Option.bind_some]
  rcases hf with ⟨h0, hf1, hf2⟩ | hf
  · rw [hf1, cond_false, hf2, cond_true, k1, k2, k3, k4]
    exact ⟨_, rfl, .inl ⟨h0, rfl⟩⟩
  · rw [hf, cond_true, k1, k2, k3, k4, k5]
    exact ⟨_, rfl, .inr ⟨2, rfl, rfl⟩⟩

mutual
/-- The reference's subst. -/
theorem s54 : ∀ (t : Lam) (a : Int) (s : Lam) (d : Int), wL t ≤ 500000000000 → numsLe 1152921504606846976 t → (0 ≤ a ∧ a ≤ 4611686018427387904) → (0 ≤ d ∧ d + sizeL t ≤ 1099511627776) → wL s ≤ 500000000000 → numsLe 1152921504606846976 s →
    ∃ c, Ev E c 54 [encL t, I a, encL s, I d] (encL (subst a s d t))
  | .mk o m (.mk ss u) l, a, s, d, hw, hm, ha, hd, hs, hsn => by
    have hl := len_wLs l
    have hsz := sizeT_pos (.mk ss u)
    have hbn := bindsN_b o l.length
    rw [wL_mk] at hw
    rw [sizeL_mk] at hd
    unfold numsLe at hm
    obtain ⟨c1, h1⟩ := l54 l a s (d + bindsN o l.length) (by omega) hm.2 ha (by omega) hs hsn
    obtain ⟨c2, h2⟩ := s32 s d 0 hs hsn (by omega) (by omega)
    rw [show imax 0 0 = 0 from rfl] at h2
    refine ⟨c1 + c2 + l.length + 20, Ev.mk fun n hn => ?_⟩
    have h2 := h2 n (by omega)
    have ok3 := okL_sh (shift d 0 s)
    have look3 := lookL (shift d 0 s)
    have fin : ∀ m', L54_0 n n a d 0 o m ss (encTs u) (encLs l) s.op s.num s.ty.name (encTs s.ty.parts) (encLs s.parts) 0 0 [] o m' ss (encTs u) = some (encL (.mk o m' (.mk ss u) (substs a s (d + bindsN o l.length) l))) := by
      intro m'
      obtain ⟨q, hq⟩ : ∃ q, n = q + l.length + 1 := ⟨n - l.length - 1, by omega⟩
      have e := h1 n (by omega) q [] [] o m ss u 0 0 [] o m' ss (encTs u) d ⟨by simp, hd.1⟩ (by simp; omega)
      rw [← hq] at e
      simpa [encL] using e
    rw [encL_eta s] at h2 ⊢
    rw [encL, e54, w64 (x := a + d) (by omega), h2]
    simp only [Option.bind_some, ok3, cond_true, look3]
    unfold subst
    by_cases c1 : o = 1
    · have hm1 := hm.1 c1
      rw [bif_pos (by simp [c1])]
      by_cases c2 : m = a + d
      · rw [bif_pos (by simp [c2]), if_pos ⟨c1, c2⟩]
      · rw [bif_neg (by simp [c2]), bif_pos (by simp [c1]), if_neg (show ¬ (o = 1 ∧ m = a + d) by omega)]
        by_cases c3 : m > a + d
        · rw [bif_pos (by exact decide_eq_true c3), if_pos ⟨c1, c3⟩, w64 (x := m - 1) (by omega)]
          exact fin _
        · rw [bif_neg (by exact decide_eq_false c3), if_neg (show ¬ (o = 1 ∧ m > a + d) by omega)]
          exact fin _
    · rw [bif_neg (by simp [c1]), bif_neg (by simp [c1]), if_neg (show ¬ (o = 1 ∧ m = a + d) by omega), if_neg (show ¬ (o = 1 ∧ m > a + d) by omega)]
      exact fin _
theorem l54 : ∀ (r : List Lam) (a : Int) (s : Lam) (inn : Int), wLs r ≤ 500000000000 → numsLes 1152921504606846976 r → (0 ≤ a ∧ a ≤ 4611686018427387904) → (0 ≤ inn ∧ inn + sizeLs r ≤ 1099511627776) → wL s ≤ 500000000000 → numsLe 1152921504606846976 s →
    ∃ c, ∀ n, c ≤ n → ∀ (q : Nat) (pre : List Lam) (acc : List Tree) (o m : Int) (ss : List UInt8) (u : List Ty) (j1 j2 : Int) (j3 : List UInt8) (o' m' : Int) (s' : List UInt8) (u' : List Tree) (d : Int), (inn = d + bindsN o (pre ++ r).length ∧ 0 ≤ d) → acc.length + r.length + (pre ++ r).length ≤ 1500000000000 →
    (match acc with
      | [] => L54_0 n (q + r.length + 1) a d (pre.length : Nat) o m ss (encTs u) (encLs (pre ++ r)) s.op s.num s.ty.name (encTs s.ty.parts) (encLs s.parts) j1 j2 j3 o' m' s' u'
      | _ => L54_0b n (q + r.length + 1) a d (pre.length : Nat) o m ss (encTs u) (encLs (pre ++ r)) s.op s.num s.ty.name (encTs s.ty.parts) (encLs s.parts) j1 j2 j3 o' m' s' u' acc) = some (.agg [I o', I m', .str s', .slc u', .slc (acc ++ encLs (substs a s inn r))])
  | [], a, s, inn, hw, hm, ha, hi, hs, hsn => ⟨0, fun n hn q pre acc o m ss u j1 j2 j3 o' m' s' u' d hd hb => by
    cases acc with
    | nil =>
      simp only [List.length_nil, Nat.add_zero, show q + 1 = Nat.succ q from rfl]
      rw [l54_0, bif_neg (by rw [lenL]; simp)]
      simp [substs, encLs]
    | cons x ac =>
      simp only [List.length_nil, Nat.add_zero, show q + 1 = Nat.succ q from rfl]
      rw [l54_0b, bif_neg (by rw [lenL]; simp)]
      simp [substs, encLs]⟩
  | x :: r, a, s, inn, hw, hm, ha, hi, hs, hsn => by
    have hx := wL_pos x
    simp only [wLs, sizeLs] at hw hi
    unfold numsLes at hm
    obtain ⟨c1, h1⟩ := s54 x a s inn (by omega) hm.1 ha (by omega) hs hsn
    obtain ⟨c2, h2⟩ := l54 r a s inn (by omega) hm.2 ha (by omega) hs hsn
    refine ⟨c1 + c2 + 10, fun n hn q pre acc o m ss u j1 j2 j3 o' m' s' u' d hd hb => ?_⟩
    simp only [List.length_cons] at hb
    have hpl : pre.length < (pre ++ x :: r).length := by simp
    have hbn := bindsN_b o (pre ++ x :: r).length
    have h77 := s77 o m ss (encTs u) (encLs (pre ++ x :: r)) n (by omega)
    rw [lenL] at h77
    have h54 := h1 n (by omega)
    have ih := h2 n (by omega) q (pre ++ [x]) (acc ++ [encL (subst a s inn x)]) o m ss u j1 j2 j3 o' m' s' u' d (by simpa using hd) (by simp at hb ⊢; omega)
    simp only [List.append_assoc, List.singleton_append, List.length_append, List.length_singleton] at ih
    have hgoal : acc ++ encLs (substs a s inn (x :: r)) = acc ++ ([encL (subst a s inn x)] ++ encLs (substs a s inn r)) := by
      simp [substs, encLs]
    rw [hgoal]
    have hlim : Nat.ble ((acc.length + List.length [encL (subst a s inn x)]) * 80) 140737488355328 = true := by
      rw [Nat.ble_eq]; simp; omega
    obtain ⟨hd1, hd2⟩ := hd
    rw [encL_eta s] at h54
    cases acc with
    | nil =>
      simp only [List.length_cons, show q + (r.length + 1) + 1 = Nat.succ (q + r.length + 1) from rfl]
      rw [l54_0, bif_pos (by rw [lenL]; exact decide_eq_true (by omega)), bif_pos (by exact decide_eq_true (by omega)), Int.toNat_natCast, nthL, Option.bind_some, okL_sh, cond_true, h77]
      simp only [Option.bind_some, ok_int, cond_true, toInt_int]
      rw [lookL, ← hd1, w64 (x := inn) (by omega), h54]
      simp only [Option.bind_some, okL_sh, cond_true]
      rw [lookL, w64 (by simp at hb; omega)]
      simpa using ih
    | cons y ac =>
      simp only [List.length_cons, show q + (r.length + 1) + 1 = Nat.succ (q + r.length + 1) from rfl]
      rw [l54_0b, bif_pos (by rw [lenL]; exact decide_eq_true (by omega)), bif_pos (by exact decide_eq_true (by omega)), Int.toNat_natCast, nthL, Option.bind_some, okL_sh, cond_true, h77]
      simp only [Option.bind_some, ok_int, cond_true, toInt_int]
      rw [lookL, ← hd1, w64 (x := inn) (by omega), h54]
      simp only [Option.bind_some, okL_sh, cond_true, openL]
      rw [bif_pos (by rw [hlim]; rfl), w64 (by simp at hb; omega)]
      simpa using ih
end

/-- The reference's Subst. -/
theorem s33 (t : Lam) (a : Int) (s : Lam) (hw : wL t ≤ 500000000000) (hm : numsLe 1152921504606846976 t) (ha : a ≤ 4611686018427387904) (hs : wL s ≤ 500000000000) (hsn : numsLe 1152921504606846976 s) (hd : sizeL t ≤ 1099511627776) :
    ∃ c, Ev E c 33 [encL t, I a, encL s] (encL (if a < 0 then t else subst a s 0 t)) := by
  by_cases c1 : a < 0
  · obtain ⟨c, h⟩ := s32 t 0 0 hw hm (by omega) (by omega)
    rw [shift_zero] at h
    refine ⟨c + 1, Ev.mk fun n hn => ?_⟩
    have h := h n (by omega)
    have ok1 := okL_sh t
    have look := lookL t
    rw [if_pos c1]
    rw [encL_eta t] at h ok1 look ⊢
    rw [encL_eta s, e33, bif_pos (by exact decide_eq_true c1), h]
    simp only [Option.bind_some, ok1, cond_true, look]
  · obtain ⟨c, h⟩ := s54 t a s 0 hw hm (by omega) (by omega) hs hsn
    refine ⟨c + 1, Ev.mk fun n hn => ?_⟩
    have h := h n (by omega)
    rw [if_neg c1]
    have ok1 := okL_sh (subst a s 0 t)
    have look := lookL (subst a s 0 t)
    rw [encL_eta t, encL_eta s] at h ⊢
    rw [e33, bif_neg (by exact decide_eq_false c1), h]
    simp only [Option.bind_some, ok1, cond_true, look]

end Go.Proofs.Aw.Sa
