/- SIMPLE: what the functions that the law reaches come to, and why. -/
import Derived.Test.YtominoddfkpflaaDoorPart3
import Derived.Test.YtominoddfkpflaaDoorPart1
import Derived.Test.YtominoddfkpflaaDoorPart2
import Derived.Test.YtominoddfkpflaaDoorCw4
import Derived.Test.YtominoddfkpflaaDoorRows
import Derived.KernelRfl
import Derived.Test.YtominoddfkpflaaDoorCards
import Derived.Test.YtominoddfkpflaaDoorTie
import Derived.JoinedCond
import Derived.Deep.CondSized
import Derived.Deep.DeepHandedRow
import Derived.Lib.LaidTab
import Derived.WalkKit
import Derived.ProofKit
import Derived.OpenShut
import Derived.ChangeOld
import Derived.Below
import Derived.SizedLaws
import Derived.SevenTiedAt
set_option linter.unusedSimpArgs false
set_option linter.unusedVariables false

/-
  MATCHING 2: names of unknowns; match.
-/
section
namespace Go.Proofs.Cw.Si
open Go.Proofs
theorem s64 (t : Ty) (h : sizeT t ≤ 1000000) : Ev E (2 * sizeT t + 3) 64 [encT t, encT t] (.bool true) := Ev.mk fun n hn => by
 have h80 := s80 t h n (by omega)
 cases t with
 | mk s l =>
 rw [encT] at h80 ⊢
 rw [e64]
 exact step_b h80 rfl
def nms (k : Nat) : List Tree := (List.range k).map fun i => .str (63 :: nmI i)
theorem nms_len (k : Nat) : (nms k).length = k := by simp [nms]
theorem nms_succ (k : Nat) : nms (k + 1) = nms k ++ [.str (63 :: nmI k)] := by simp [nms, List.range_succ]
theorem nth_nms {k i : Nat} (h : i < k) : nth (nms k) i = some (.str (63 :: nmI i)) := by
 rw [nms, nth_map, nth_eq, List.getElem?_range h]; rfl
theorem s62_var (s : List UInt8) : Ev E 1 62 [encT (.mk (63 :: s) [])] (.bool true) := Ev.mk fun n _ => by
 rw [encT, e62]
 exact step_t rfl (step_t (by simp) rfl)
theorem s62_nat : Ev E 1 62 [encT (.mk sNat [])] (.bool false) := Ev.mk fun n _ => by
 rw [encT, e62]; rfl
theorem s62_two (s : List UInt8) (a b : Ty) : Ev E 1 62 [encT (.mk s [a, b])] (.bool false) := Ev.mk fun n _ => by
 rw [encT, e62]; rfl
theorem l63 {k j : Nat} (hk : k ≤ 100) (hj : j < 100) : ∀ (d i n q : Nat), k - i = d → i ≤ k → i ≤ j → d < q → L63_0 n q (nms k) (63 :: nmI j) (i : Nat) = some (I (if j < k then (j : Nat) else -1)) := by
 intro d
 induction d with
 | zero =>
  intro i n q hd hi hij hq
  obtain ⟨q, rfl⟩ : ∃ p, q = Nat.succ p := ⟨q - 1, by omega⟩
  rw [l63_0, if_neg (by omega)]
  exact step_f (by rw [nms_len]; simp; omega) rfl
 | succ d ih =>
  intro i n q hd hi hij hq
  obtain ⟨q, rfl⟩ : ∃ p, q = Nat.succ p := ⟨q - 1, by omega⟩
  have hx : nth (nms k) (Int.toNat ((i : Nat) : Int)) = some (.str (63 :: nmI i)) := by rw [Int.toNat_natCast]; exact nth_nms (by omega)
  have hw : IntKind.wrap .i64 (((i : Nat) : Int) + 1) = ((i + 1 : Nat) : Int) := by rw [w64 (by omega)]; omega
  rw [l63_0]
  refine step_t (by rw [nms_len]; simp; omega) (step_t (by simp) (step_b hx (step_t rfl ?_)))
  by_cases e : i = j
  ·subst e
   rw [if_pos (by omega)]
   exact step_t (beq_self_eq_true _) rfl
  ·have hne : ((63 :: nmI i : List UInt8) == 63 :: nmI j) = false := beq_eq_false_iff_ne.2 fun h => e (nmI_inj (by omega) hj (List.cons.inj h).2)
   refine step_f hne ?_
   rw [hw]
   exact ih (i + 1) n q (by omega) (by omega) (by omega) (by omega)
theorem s63 {k j : Nat} (hk : k ≤ 100) (hj : j < 100) : Ev E 102 63 [.slc (nms k), .str (63 :: nmI j)] (I (if j < k then (j : Nat) else -1)) := Ev.mk fun n hn => by
 rw [e63]
 have := l63 hk hj k 0 n n (by omega) (by omega) (by omega) (by omega)
 exact this
theorem idx_some : ∀ {ns : List Nat} {k i : Nat}, idx ns k = some i → ns[i]? = some k
 | x :: r, k, i, h => by
  simp only [idx] at h
  by_cases e : x = k
  ·rw [if_pos e] at h; cases h; simp [e]
  ·rw [if_neg e] at h
   cases hi : idx r k with
   | none => rw [hi] at h; cases h
   | some j =>
    rw [hi] at h
    cases h
    simpa using idx_some hi
section
variable (f : Nat → Ty)
def Ba : List Nat → AV
 | [] => .agg [.nilS, .nilS]
 | _ :: _ => .agg [.hsl 0 none, .hsl 1 none]
def Bh : List Nat → Heap
 | [] => []
 | a :: r => [.tre .str (nms (r.length + 1)), .tre shT (encTs ((a :: r).map f))]
structure BOut (V : AV) (H : Heap) (ns : List Nat) : Prop where
 form : bForm .str shT V H = !ns.isEmpty
 nil : bNil V = ns.isEmpty
 val : bVal V = .bool true
 row1 : ns ≠ [] → bRow1 V H = nms ns.length
 row2 : ns ≠ [] → bRow2 V H = encTs (ns.map f)
def Run34 (p t : Ty) (ns ns' : List Nat) : Prop :=
 ∃ c V H', EvH E c 34 [.t (encT p), .t (encT t), Ba ns] (Bh f ns) (V, H') ∧ BOut f V H' ns'
theorem run34_old {s : List UInt8} {ns : List Nat} {k i : Nat} (hs : s = 63 :: nmI i) (hl : ns.length ≤ 100) (hi : idx ns k = some i) (hz : sizeT (f k) ≤ 1000000) : Run34 f (.mk s []) (f k) ns ns := by
 subst hs
 have hk := idx_some hi
 have hlt := (List.getElem?_eq_some_iff.1 hk).1
 have h63 := s63 (k := ns.length) (j := i) hl (by omega)
 rw [if_pos hlt] at h63
 have h64 := s64 (f k) hz
 have hn : nth (encTs (ns.map f)) (Int.toNat ((i : Nat) : Int)) = some (encT (f k)) := by
  rw [Int.toNat_natCast, encTs_map, nth_map, nth_map, nth_eq, hk]; rfl
 cases ns with
 | nil => simp at hlt
 | cons a r =>
  refine ⟨102 + (2 * sizeT (f k) + 3) + 1, ?_⟩
  cases ht : f k with
  | mk ts tl =>
  rw [ht] at h64 hn
  apply Exists.intro
  apply Exists.intro
  apply And.intro
  ·refine EvH.mk fun n hn' => ?_
   show evR (Tab.env tab) n 34 [.t (.agg [.str (63 :: nmI i), .slc []]), .t (.agg [.str ts, .slc (encTs tl)]), .agg [.hsl 0 none, .hsl 1 none]] [.tre .str (nms (r.length + 1)), .tre shT (encTs ((a :: r).map f))] = _
   rw [r34]
   have h62 := s62_var (nmI i) n (by omega)
   rw [encT] at h62
   have hll : (encTs ((a :: r).map f)).length = r.length + 1 := by rw [encTs_map, List.length_map, List.length_map]; rfl
   have hlt : i < r.length + 1 := by simpa using hlt
   have hidx : (decide ((0 : Int) ≤ (i : Nat)) && (decide (((i : Nat) : Int) < ((encTs ((a :: r).map f)).length : Int)) && true)) = true := by
    rw [hll, decide_eq_true (by omega), decide_eq_true (by omega)]; rfl
   have h64 := h64 n (by have e : sizeT (f k) = sizeT (.mk ts tl) := congrArg sizeT ht; omega)
   exact step_b h62 (step_t rfl (step_t rfl (step_b (h63 n (by omega)) (step_t rfl (step_t (decide_eq_true (show ((i : Nat) : Int) ≥ 0 by omega)) (step_t hidx (step_b hn (step_t rfl (step_b h64 (step_t rfl rfl))))))))))
  ·exact ⟨rfl, rfl, rfl, fun _ => rfl, fun _ => rfl⟩
theorem run34_new {s : List UInt8} {ns : List Nat} {k : Nat} (hs : s = 63 :: nmI ns.length) (hl : ns.length < 100) : Run34 f (.mk s []) (f k) ns (ns ++ [k]) := by
 subst hs
 have h63 := s63 (k := ns.length) (j := ns.length) (by omega) hl
 rw [if_neg (by omega)] at h63
 cases ht : f k with
 | mk ts tl =>
 have e2 : encTs ((ns ++ [k]).map f) = encTs (ns.map f) ++ [.agg [.str ts, .slc (encTs tl)]] := by
  rw [List.map_append, encTs_app]; simp [encTs, ht, encT]
 have hin : (ns ++ [k]).isEmpty = false := by cases ns <;> rfl
 cases ns with
 | nil =>
  refine ⟨102 + 1, ?_⟩
  apply Exists.intro
  apply Exists.intro
  apply And.intro
  ·refine EvH.mk fun n hn' => ?_
   show evR (Tab.env tab) n 34 [.t (.agg [.str (63 :: nmI 0), .slc []]), .t (.agg [.str ts, .slc (encTs tl)]), .agg [.nilS, .nilS]] [] = _
   rw [r34z]
   have h62 := s62_var (nmI 0) n (by omega)
   rw [encT] at h62
   exact step_b h62 (step_t rfl (step_t rfl (step_b (h63 n (by omega)) (step_t rfl (step_f rfl rfl)))))
  ·exact ⟨rfl, rfl, rfl, fun _ => rfl, fun _ => e2.symm⟩
 | cons a r =>
  have e1 : nms ((a :: r) ++ [k]).length = nms (r.length + 1) ++ [.str (63 :: nmI (r.length + 1))] := by
   rw [List.length_append, List.length_singleton, nms_succ]; rfl
  refine ⟨102 + 1, ?_⟩
  apply Exists.intro
  apply Exists.intro
  apply And.intro
  ·refine EvH.mk fun n hn' => ?_
   show evR (Tab.env tab) n 34 [.t (.agg [.str (63 :: nmI (r.length + 1)), .slc []]), .t (.agg [.str ts, .slc (encTs tl)]), .agg [.hsl 0 none, .hsl 1 none]] [.tre .str (nms (r.length + 1)), .tre shT (encTs ((a :: r).map f))] = _
   rw [r34]
   have h62 := s62_var (nmI (r.length + 1)) n (by omega)
   rw [encT] at h62
   have hll : (encTs ((a :: r).map f)).length = r.length + 1 := by rw [encTs_map, List.length_map, List.length_map]; rfl
   simp only [List.length_cons] at hl
   exact step_b h62 (step_t rfl (step_t rfl (step_b (h63 n (by omega)) (step_t rfl (step_f rfl (step_t (by rw [nms_len]; simp; omega) (step_t (by rw [hll]; simp; omega) rfl)))))))
  ·exact ⟨rfl, rfl, rfl, fun _ => e1.symm, fun _ => e2.symm⟩
def D34 (z first : Bool) (n q : Nat) (j : Int) (ns : List Nat) (ps : List UInt8) (pl : List Ty) (ts : List UInt8) (tl : List Ty) : Option (AV × Heap) :=
 match z, first, ns with
 | false, true, ns => L34_0 n q true j (nms ns.length) (encTs (ns.map f)) ps (encTs pl) ts (encTs tl)
 | false, false, ns => L34_0b n q true j ps (encTs pl) ts (encTs tl) (nms ns.length) (encTs (ns.map f))
 | true, _, [] => L34_0z n q true j ps (encTs pl) ts (encTs tl)
 | true, _, ns => L34_0zb n q true j ps (encTs pl) ts (encTs tl) (nms ns.length) (encTs (ns.map f))
theorem run34_nd {s : List UInt8} {pl tl : List Ty} {ns ns' : List Nat} {c : Nat} {V : AV} {H' : Heap} (h62 : Ev E 1 62 [encT (.mk s pl)] (.bool false)) (hl : pl.length = tl.length)
  (h : ∀ n, c ≤ n → D34 f ns.isEmpty true n n 0 ns s pl s tl = some (V, H')) (ho : BOut f V H' ns') : Run34 f (.mk s pl) (.mk s tl) ns ns' := by
 have hlen : (((encTs pl).length : Int) != ((encTs tl).length : Int)) = false := by rw [lenT, lenT, hl]; simp
 have hss : (!(s == s)) = false := by simp
 cases ns with
 | nil =>
  refine ⟨c + 1 + 1, V, H', EvH.mk fun n hn => ?_, ho⟩
  show evR (Tab.env tab) n 34 [.t (.agg [.str s, .slc (encTs pl)]), .t (.agg [.str s, .slc (encTs tl)]), .agg [.nilS, .nilS]] [] = _
  have h62 := h62 n (by omega)
  rw [encT] at h62
  rw [r34z]
  exact step_b h62 (step_t rfl (step_f rfl (step_f hss (step_f hlen (h n (by omega))))))
 | cons a r =>
  refine ⟨c + 1 + 1, V, H', EvH.mk fun n hn => ?_, ho⟩
  show evR (Tab.env tab) n 34 [.t (.agg [.str s, .slc (encTs pl)]), .t (.agg [.str s, .slc (encTs tl)]), .agg [.hsl 0 none, .hsl 1 none]] [.tre .str (nms (r.length + 1)), .tre shT (encTs ((a :: r).map f))] = _
  have h62 := h62 n (by omega)
  rw [encT] at h62
  rw [r34]
  exact step_b h62 (step_t rfl (step_f rfl (step_f hss (step_f hlen (h n (by omega))))))
theorem d34_c {z first : Bool} {j c : Nat} {ns ns' : List Nat} {ps ts : List UInt8} {pl tl : List Ty} {p t : Ty} {V : AV} {H' : Heap} (hj : j < pl.length) (hl : pl.length ≤ 1000) (hp : pl[j]? = some p) (ht : tl[j]? = some t)
  (h : EvH E c 34 [.t (encT p), .t (encT t), Ba ns] (Bh f ns) (V, H')) (ho : BOut f V H' ns') (hz : z = false → ns ≠ []) (hgo : ns ≠ [] → ns' ≠ []) :
  ∀ n q, c ≤ n → D34 f z first n (Nat.succ q) (j : Nat) ns ps pl ts tl = D34 f z false n q ((j + 1 : Nat) : Int) ns' ps pl ts tl := by
 intro n q hn
 have hp' : nth (encTs pl) (Int.toNat ((j : Nat) : Int)) = some (encT p) := by rw [Int.toNat_natCast, encTs_map, nth_map, nth_eq, hp]; rfl
 have ht' : nth (encTs tl) (Int.toNat ((j : Nat) : Int)) = some (encT t) := by rw [Int.toNat_natCast, encTs_map, nth_map, nth_eq, ht]; rfl
 have hw : IntKind.wrap .i64 (((j : Nat) : Int) + 1) = ((j + 1 : Nat) : Int) := by rw [w64 (by omega)]; omega
 have hjl : decide (((j : Nat) : Int) < ((encTs pl).length : Nat)) = true := by rw [lenT]; exact decide_eq_true (by omega)
 have h := h n hn
 have key : ∀ (ns'' : List Nat), ns' = ns'' → ns'' ≠ [] → bForm .str shT V H' = true ∧ bRow1 V H' = nms ns''.length ∧ bRow2 V H' = encTs (ns''.map f) := fun ns'' e hne => by
  subst e
  refine ⟨?_, ho.row1 hne, ho.row2 hne⟩
  rw [ho.form]
  cases ns' with
  | nil => exact absurd rfl hne
  | cons _ _ => rfl
 cases z with
 | false =>
  cases ns with
  | nil => exact absurd rfl (hz rfl)
  | cons m ms =>
   have hne : ns' ≠ [] := hgo (by simp)
   obtain ⟨f1, f2, f3⟩ := key ns' rfl hne
   cases first with
   | true =>
    show L34_0 n (Nat.succ q) true (j : Nat) (nms (ms.length + 1)) (encTs ((m :: ms).map f)) ps (encTs pl) ts (encTs tl) = L34_0b n q true ((j + 1 : Nat) : Int) ps (encTs pl) ts (encTs tl) (nms ns'.length) (encTs (ns'.map f))
    rw [m34_0]
    refine step_t hjl (step_t rfl (step_t (by simp) (step_b hp' (step_t (okT_sh p) (step_t (by simp) (step_b ht' (step_t (okT_sh t) ?_)))))))
    rw [lookT p, lookT t]
    refine step_b h (step_t f1 ?_)
    show L34_0b n q (Tree.toBool (bVal V)) (IntKind.wrap .i64 (((j : Nat) : Int) + 1)) ps (encTs pl) ts (encTs tl) (bRow1 V H') (bRow2 V H') = _
    rw [hw, f2, f3, ho.val]; rfl
   | false =>
    show L34_0b n (Nat.succ q) true (j : Nat) ps (encTs pl) ts (encTs tl) (nms (ms.length + 1)) (encTs ((m :: ms).map f)) = L34_0b n q true ((j + 1 : Nat) : Int) ps (encTs pl) ts (encTs tl) (nms ns'.length) (encTs (ns'.map f))
    rw [m34_0b]
    refine step_t hjl (step_t rfl (step_t (by simp) (step_b hp' (step_t (okT_sh p) (step_t (by simp) (step_b ht' (step_t (okT_sh t) ?_)))))))
    rw [lookT p, lookT t]
    refine step_b h (step_t f1 ?_)
    show L34_0b n q (Tree.toBool (bVal V)) (IntKind.wrap .i64 (((j : Nat) : Int) + 1)) ps (encTs pl) ts (encTs tl) (bRow1 V H') (bRow2 V H') = _
    rw [hw, f2, f3, ho.val]; rfl
 | true =>
  cases ns with
  | nil =>
   show L34_0z n (Nat.succ q) true (j : Nat) ps (encTs pl) ts (encTs tl) = _
   rw [m34_0z]
   refine step_t hjl (step_t rfl (step_t (by simp) (step_b hp' (step_t (okT_sh p) (step_t (by simp) (step_b ht' (step_t (okT_sh t) ?_)))))))
   rw [lookT p, lookT t]
   refine step_b h ?_
   cases hns : ns' with
   | nil =>
    refine step_f (by show bForm .str shT V H' = false; rw [ho.form, hns]; rfl) (step_t (by show (bNil V && true) = true; rw [ho.nil, hns]; rfl) ?_)
    show L34_0z n q (Tree.toBool (bVal V)) (IntKind.wrap .i64 (((j : Nat) : Int) + 1)) ps (encTs pl) ts (encTs tl) = L34_0z n q true ((j + 1 : Nat) : Int) ps (encTs pl) ts (encTs tl)
    rw [hw, ho.val]; rfl
   | cons a b =>
    obtain ⟨f1, f2, f3⟩ := key (a :: b) hns (by simp)
    refine step_t f1 ?_
    show L34_0zb n q (Tree.toBool (bVal V)) (IntKind.wrap .i64 (((j : Nat) : Int) + 1)) ps (encTs pl) ts (encTs tl) (bRow1 V H') (bRow2 V H') = L34_0zb n q true ((j + 1 : Nat) : Int) ps (encTs pl) ts (encTs tl) (nms (a :: b).length) (encTs ((a :: b).map f))
    rw [hw, f2, f3, ho.val]; rfl
  | cons m ms =>
   have hne : ns' ≠ [] := hgo (by simp)
   cases hns : ns' with
   | nil => exact absurd hns hne
   | cons a b =>
    obtain ⟨f1, f2, f3⟩ := key (a :: b) hns (by simp)
    show L34_0zb n (Nat.succ q) true (j : Nat) ps (encTs pl) ts (encTs tl) (nms (ms.length + 1)) (encTs ((m :: ms).map f)) = L34_0zb n q true ((j + 1 : Nat) : Int) ps (encTs pl) ts (encTs tl) (nms (a :: b).length) (encTs ((a :: b).map f))
    rw [m34_0zb]
    refine step_t hjl (step_t rfl (step_t (by simp) (step_b hp' (step_t (okT_sh p) (step_t (by simp) (step_b ht' (step_t (okT_sh t) ?_)))))))
    rw [lookT p, lookT t]
    refine step_b h (step_t f1 ?_)
    show L34_0zb n q (Tree.toBool (bVal V)) (IntKind.wrap .i64 (((j : Nat) : Int) + 1)) ps (encTs pl) ts (encTs tl) (bRow1 V H') (bRow2 V H') = _
    rw [hw, f2, f3, ho.val]; rfl
theorem d34_e {z first : Bool} {ns : List Nat} {ps ts : List UInt8} {pl tl : List Ty} (hz : z = false → ns ≠ []) : ∃ V H', (∀ n q, D34 f z first n (Nat.succ q) (pl.length : Nat) ns ps pl ts tl = some (V, H')) ∧ BOut f V H' ns := by
 have hjl : decide (((pl.length : Nat) : Int) < ((encTs pl).length : Nat)) = false := by rw [lenT]; exact decide_eq_false (by omega)
 cases z with
 | false =>
  cases ns with
  | nil => exact absurd rfl (hz rfl)
  | cons m ms =>
   cases first with
   | true =>
    apply Exists.intro
    apply Exists.intro
    apply And.intro
    ·intro n q
     show L34_0 n (Nat.succ q) true (pl.length : Nat) (nms (ms.length + 1)) (encTs ((m :: ms).map f)) ps (encTs pl) ts (encTs tl) = _
     rw [m34_0]
     exact step_f hjl rfl
    ·exact ⟨rfl, rfl, rfl, fun _ => rfl, fun _ => rfl⟩
   | false =>
    apply Exists.intro
    apply Exists.intro
    apply And.intro
    ·intro n q
     show L34_0b n (Nat.succ q) true (pl.length : Nat) ps (encTs pl) ts (encTs tl) (nms (ms.length + 1)) (encTs ((m :: ms).map f)) = _
     rw [m34_0b]
     exact step_f hjl rfl
    ·exact ⟨rfl, rfl, rfl, fun _ => rfl, fun _ => rfl⟩
 | true =>
  cases ns with
  | nil =>
   apply Exists.intro
   apply Exists.intro
   apply And.intro
   ·intro n q
    show L34_0z n (Nat.succ q) true (pl.length : Nat) ps (encTs pl) ts (encTs tl) = _
    rw [m34_0z]
    exact step_f hjl rfl
   ·exact ⟨rfl, rfl, rfl, fun h => absurd rfl h, fun h => absurd rfl h⟩
  | cons m ms =>
   apply Exists.intro
   apply Exists.intro
   apply And.intro
   ·intro n q
    show L34_0zb n (Nat.succ q) true (pl.length : Nat) ps (encTs pl) ts (encTs tl) (nms (ms.length + 1)) (encTs ((m :: ms).map f)) = _
    rw [m34_0zb]
    exact step_f hjl rfl
   ·exact ⟨rfl, rfl, rfl, fun _ => rfl, fun _ => rfl⟩
end
end Go.Proofs.Cw.Si
end

/-
  THE GRAPH 1, plain: types that share parts, where nodes lead, what types the nodes may stand for.
-/
section
namespace Go.Proofs.Cw.Si
inductive GK where
 | var
 | nat
 | bin (p : Bool) (a b : Nat)
structure GN where
 to : Option Nat
 k : GK
inductive At (gr : List GN) : Nat → Nat → Prop where
 | root {i : Nat} {k : GK} : gr[i]? = some ⟨none, k⟩ → At gr i i
 | link {i j r : Nat} {k : GK} : gr[i]? = some ⟨some j, k⟩ → At gr j r → At gr i r
def GN.holds (θ : Nat → FT) (i : Nat) (g : GN) : Prop :=
 match g.to with
 | some j => θ i = θ j
 | none => match g.k with
  | .var => True
  | .nat => θ i = .nat
  | .bin p a b => θ i = .bin p (θ a) (θ b)
def GS (gr : List GN) (θ : Nat → FT) : Prop := ∀ (i : Nat) (g : GN), gr[i]? = some g → g.holds θ i
structure Gok (gr : List GN) : Prop where
 to : ∀ (i j : Nat) (k : GK), gr[i]? = some ⟨some j, k⟩ → j < gr.length
 kid : ∀ (i : Nat) (t : Option Nat) (p : Bool) (a b : Nat), gr[i]? = some ⟨t, .bin p a b⟩ → a < gr.length ∧ b < gr.length
 at_ : ∀ i, i < gr.length → ∃ r, At gr i r
theorem At.root_of {gr : List GN} {i r : Nat} (h : At gr i r) : ∃ k, gr[r]? = some ⟨none, k⟩ := by
 induction h with
 | root h => exact ⟨_, h⟩
 | link _ _ ih => exact ih
theorem At.det {gr : List GN} {i r : Nat} (h : At gr i r) : ∀ {s : Nat}, At gr i s → r = s := by
 induction h with
 | root h =>
  intro s k
  cases k with
  | root _ => rfl
  | link h' _ => rw [h] at h'; cases h'
 | link h _ ih =>
  intro s k
  cases k with
  | root h' => rw [h] at h'; cases h'
  | link h' k => rw [h] at h'; cases h'; exact ih k
theorem At.eq {gr : List GN} {θ : Nat → FT} (sol : GS gr θ) {i r : Nat} (h : At gr i r) : θ i = θ r := by
 induction h with
 | root h => rfl
 | link h _ ih => exact (show θ _ = θ _ from sol _ _ h).trans ih
theorem At.lt {gr : List GN} {i r : Nat} (h : At gr i r) : r < gr.length := by
 obtain ⟨k, hk⟩ := h.root_of
 exact (List.getElem?_eq_some_iff.1 hk).1
theorem At.self {gr : List GN} {i r : Nat} (h : At gr i r) : At gr r r := by
 obtain ⟨k, hk⟩ := h.root_of
 exact .root hk
section
variable {gr : List GN} {i j : Nat} {k : GK}
end
section
variable {gr : List GN}
theorem GS.agree (g : Gok gr) {θ η : Nat → FT} (ha : ∀ x, x < gr.length → η x = θ x) (h : GS gr θ) : GS gr η := by
 intro x n hn
 have hx := (List.getElem?_eq_some_iff.1 hn).1
 have := h x n hn
 unfold GN.holds at this ⊢
 obtain ⟨t, k⟩ := n
 cases t with
 | some j =>
  simp only at this ⊢
  rw [ha x hx, ha j (g.to x j k hn)]; exact this
 | none =>
  cases k with
  | var => trivial
  | nat => simp only at this ⊢; rw [ha x hx]; exact this
  | bin p a b =>
   simp only at this ⊢
   obtain ⟨h1, h2⟩ := g.kid x none p a b hn
   rw [ha x hx, ha a h1, ha b h2]; exact this
end
inductive GRes (gr : List GN) : Nat → FT → Prop where
 | var {i r : Nat} : At gr i r → gr[r]? = some ⟨none, .var⟩ → GRes gr i (.var r)
 | nat {i r : Nat} : At gr i r → gr[r]? = some ⟨none, .nat⟩ → GRes gr i .nat
 | bin {i r : Nat} {p : Bool} {a b : Nat} {x y : FT} : At gr i r → gr[r]? = some ⟨none, .bin p a b⟩ → GRes gr a x → GRes gr b y → GRes gr i (.bin p x y)
theorem GRes.det {gr : List GN} {i : Nat} {x : FT} (h : GRes gr i x) : ∀ {y : FT}, GRes gr i y → x = y := by
 induction h with
 | var a h =>
  intro y k
  cases k with
  | var a' h' => rw [a.det a']
  | nat a' h' => rw [a.det a', h'] at h; cases h
  | bin a' h' _ _ => rw [a.det a', h'] at h; cases h
 | nat a h =>
  intro y k
  cases k with
  | var a' h' => rw [a.det a', h'] at h; cases h
  | nat a' h' => rfl
  | bin a' h' _ _ => rw [a.det a', h'] at h; cases h
 | bin a h _ _ i1 i2 =>
  intro y k
  cases k with
  | var a' h' => rw [a.det a', h'] at h; cases h
  | nat a' h' => rw [a.det a', h'] at h; cases h
  | bin a' h' k1 k2 => rw [a.det a', h'] at h; cases h; rw [i1 k1, i2 k2]
theorem At.trans {gr : List GN} {i r s : Nat} (h : At gr i r) (k : At gr r s) : r = s := h.self.det k
theorem GRes.lead {gr : List GN} {i r : Nat} {x : FT} (h : GRes gr r x) (a : At gr i r) : GRes gr i x := by
 cases h with
 | var a' h => rw [← a.trans a'] at h ⊢; exact .var a h
 | nat a' h => rw [← a.trans a'] at h; exact .nat a h
 | bin a' h k1 k2 => rw [← a.trans a'] at h; exact .bin a h k1 k2
theorem GRes.val {gr : List GN} {θ : Nat → FT} (sol : GS gr θ) {i : Nat} {x : FT} (h : GRes gr i x) : θ i = x.sub θ := by
 induction h with
 | var a h => exact a.eq sol
 | nat a h => exact (a.eq sol).trans (sol _ _ h)
 | bin a h _ _ i1 i2 =>
  rw [a.eq sol]
  refine (show θ _ = _ from sol _ _ h).trans ?_
  rw [i1, i2]; rfl
theorem GS.of {gr : List GN} (ht : ∀ i, i < gr.length → ∃ x, GRes gr i x) (ρ : Nat → FT) : ∃ θ, GS gr θ ∧ ∀ i x, GRes gr i x → θ i = x.sub ρ := by
 have key : ∀ i, ∃ v, ∀ x, GRes gr i x → v = x.sub ρ := by
  intro i
  by_cases hl : i < gr.length
  ·obtain ⟨x, hx⟩ := ht i hl
   exact ⟨x.sub ρ, fun y hy => by rw [hx.det hy]⟩
  ·refine ⟨.nat, fun x hx => ?_⟩
   exfalso
   have : ∀ {i r : Nat}, At gr i r → i < gr.length := fun h => by
    cases h with
    | root h => exact (List.getElem?_eq_some_iff.1 h).1
    | link h _ => exact (List.getElem?_eq_some_iff.1 h).1
   cases hx with
   | var a _ => exact hl (this a)
   | nat a _ => exact hl (this a)
   | bin a _ _ _ => exact hl (this a)
 let θ : Nat → FT := fun i => (key i).choose
 have hθ : ∀ i x, GRes gr i x → θ i = x.sub ρ := fun i x h => (key i).choose_spec x h
 refine ⟨θ, fun i g hg => ?_, hθ⟩
 have hi := (List.getElem?_eq_some_iff.1 hg).1
 obtain ⟨x, hx⟩ := ht i hi
 obtain ⟨t, k⟩ := g
 unfold GN.holds
 cases t with
 | some j =>
  simp only
  have hj : ∃ r, At gr i r := by
   cases hx with
   | var a _ => exact ⟨_, a⟩
   | nat a _ => exact ⟨_, a⟩
   | bin a _ _ _ => exact ⟨_, a⟩
  obtain ⟨r, a⟩ := hj
  cases a with
  | root h => rw [hg] at h; cases h
  | link h aj =>
   rw [hg] at h; cases h
   have hxr : GRes gr r x := by
    have a : At gr i r := .link hg aj
    cases hx with
    | var a' h => rw [← a.det a'] at h ⊢; exact .var aj.self h
    | nat a' h => rw [← a.det a'] at h; exact .nat aj.self h
    | bin a' h k1 k2 => rw [← a.det a'] at h; exact .bin aj.self h k1 k2
   rw [hθ i x hx, hθ _ x (hxr.lead aj)]
 | none =>
  have a : At gr i i := .root hg
  cases k with
  | var => trivial
  | nat => simp only; rw [hθ i _ (.nat a hg)]; rfl
  | bin p b c =>
   simp only
   cases hx with
   | var a' h' => rw [← a.det a', hg] at h'; cases h'
   | nat a' h' => rw [← a.det a', hg] at h'; cases h'
   | bin a' h' k1 k2 =>
    rw [← a.det a', hg] at h'
    cases h'
    rw [hθ i _ (.bin a hg k1 k2), hθ _ _ k1, hθ _ _ k2]; rfl
end Go.Proofs.Cw.Si
end

/-
  THE GRAPH 2: add, at, join.
-/
section
namespace Go.Proofs.Cw.Si
open Go.Proofs
abbrev shN : Sh := Sh.agg [Sh.int IntKind.i64, Sh.str, Sh.slc]
def GK.name : GK → List UInt8
 | .var => []
 | .nat => sNat
 | .bin p _ _ => if p then sTo else sPair
def GK.kids : GK → List Tree
 | .bin _ a b => [I (a : Nat), I (b : Nat)]
 | _ => []
def toI : Option Nat → Int
 | none => -1
 | some j => (j : Nat)
def encN (g : GN) : Tree := .agg [I (toI g.to), .str g.k.name, .slc g.k.kids]
def rowsG (gr : List GN) : List Tree := gr.map encN
structure GOut (H : Heap) (gr : List GN) : Prop where
 form : gForm (Sh.agg [Sh.slc]) shN H = true
 row : gRow H = rowsG gr
section
variable {gr : List GN} {a b ra rb : Nat} {ka kb : GK}
end
end Go.Proofs.Cw.Si
end

/-
  THE GRAPH 3: join.
-/
section
namespace Go.Proofs.Cw.Si
open Go.Proofs
section
variable {gr : List GN} {a b ra rb : Nat} {ka kb : GK}
end
section
variable {gr gr' : List GN} {la lb : List Tree} {i x y c : Nat} {ja jb : Int} {sa sb : List UInt8} {H' : Heap}
end
end Go.Proofs.Cw.Si
end

/-
  THE GRAPH 4: finite.
-/
section
namespace Go.Proofs.Cw.Si
open Go.Proofs
def marksT (m : List Nat) : List Tree := m.map fun x => I (x : Nat)
def zeros : List Nat → Nat
 | [] => 0
 | x :: r => (if x = 0 then 1 else 0) + zeros r
theorem zeros_one : ∀ {m : List Nat} {i : Nat}, m[i]? = some 0 → zeros (m.set i 1) + 1 = zeros m
 | x :: r, 0, h => by
  simp at h; subst h
  simp [zeros]; omega
 | x :: r, i + 1, h => by
  simp at h
  have := zeros_one h
  simp only [List.set_cons_succ, zeros]; omega
theorem zeros_two : ∀ {m : List Nat} {i : Nat}, m[i]? = some 1 → zeros (m.set i 2) = zeros m
 | x :: r, 0, h => by
  simp at h; subst h
  simp [zeros]
 | x :: r, i + 1, h => by
  simp at h
  have := zeros_two h
  simp only [List.set_cons_succ, zeros]; omega
structure Mk (gr : List GN) (m : List Nat) : Prop where
 len : m.length = gr.length
 le : ∀ (j x : Nat), m[j]? = some x → x ≤ 2
 fin : ∀ j, m[j]? = some 2 → ∃ x, GRes gr j x
structure Mgo (gr : List GN) (m m' : List Nat) : Prop where
 ok : Mk gr m'
 one : ∀ j : Nat, m'[j]? = some 1 ↔ m[j]? = some 1
 zer : zeros m' ≤ zeros m
theorem set_get {m : List Nat} {i x : Nat} (h : i < m.length) (j : Nat) : (m.set i x)[j]? = if j = i then some x else m[j]? := by
 by_cases e : j = i
 ·subst e; rw [if_pos rfl, List.getElem?_set_self h]
 ·rw [if_neg e, List.getElem?_set_ne fun c => e c.symm]
section
variable {gr : List GN}
theorem Mk.on {m : List Nat} (k : Mk gr m) {r : Nat} (h : m[r]? = some 0) : Mk gr (m.set r 1) where
 len := by simp [k.len]
 le j x hx := by
  rw [set_get (List.getElem?_eq_some_iff.1 h).1] at hx
  by_cases e : j = r
  ·rw [if_pos e] at hx; cases hx; omega
  ·rw [if_neg e] at hx; exact k.le j x hx
 fin j hj := by
  rw [set_get (List.getElem?_eq_some_iff.1 h).1] at hj
  by_cases e : j = r
  ·rw [if_pos e] at hj; cases hj
  ·rw [if_neg e] at hj; exact k.fin j hj
theorem Mgo.refl {m : List Nat} (k : Mk gr m) : Mgo gr m m := ⟨k, fun _ => Iff.rfl, Nat.le_refl _⟩
theorem Mgo.trans {m1 m2 m3 : List Nat} (h : Mgo gr m1 m2) (k : Mgo gr m2 m3) : Mgo gr m1 m3 := ⟨k.ok, fun j => (k.one j).trans (h.one j), Nat.le_trans k.zer h.zer⟩
theorem Mgo.done {m m3 : List Nat} {r : Nat} (h : m[r]? = some 0) (go : Mgo gr (m.set r 1) m3) {x : FT} (hx : GRes gr r x) : Mgo gr m (m3.set r 2) := by
 have hl := (List.getElem?_eq_some_iff.1 h).1
 have h1 : m3[r]? = some 1 := (go.one r).2 (by rw [set_get hl, if_pos rfl])
 have hl3 := (List.getElem?_eq_some_iff.1 h1).1
 refine ⟨⟨by simp [go.ok.len], fun j y hy => ?_, fun j hj => ?_⟩, fun j => ?_, ?_⟩
 ·rw [set_get hl3] at hy
  by_cases e : j = r
  ·rw [if_pos e] at hy; cases hy; omega
  ·rw [if_neg e] at hy; exact go.ok.le j y hy
 ·rw [set_get hl3] at hj
  by_cases e : j = r
  ·rw [e]; exact ⟨x, hx⟩
  ·rw [if_neg e] at hj; exact go.ok.fin j hj
 ·rw [set_get hl3]
  by_cases e : j = r
  ·rw [if_pos e, e, h]; simp
  ·rw [if_neg e, go.one j, set_get hl, if_neg e]
 ·rw [zeros_two h1]
  have := go.zer
  have := zeros_one h
  omega
section
variable {r cap j x c : Nat} {k : GK} {m m' : List Nat}
end
end
end Go.Proofs.Cw.Si
end

/-
  THE GRAPH 5: size, read.
-/
section
namespace Go.Proofs.Cw.Si
open Go.Proofs
section
variable {gr : List GN} {r x c : Nat} {k : GK}
end
abbrev shI : Sh := Sh.int IntKind.i64
structure NOut (V : AV) (H : Heap) (y : Ty) (ns : List Nat) : Prop where
 form : nForm shT shI V H = !ns.isEmpty
 nil : nNil shT shI V H = ns.isEmpty
 ty : nTy shT shI V H = encT y
 row : ns ≠ [] → nRow shT shI V H = marksT ns
end Go.Proofs.Cw.Si
end

/-
  THE GRAPH 6: read.
-/
section
namespace Go.Proofs.Cw.Si
open Go.Proofs
section
variable {gr : List GN} {i r : Nat} {k : GK}
end
end Go.Proofs.Cw.Si
end

/-
  THE GRAPH 7: read, its parts.
-/
section
namespace Go.Proofs.Cw.Si
open Go.Proofs
section
variable {gr : List GN} {r : Nat} {k : GK}
end
theorem tell_ne : ∀ (t : FT) (ns : List Nat), ns ≠ [] → (tell nmI t ns).2 ≠ []
 | .var k, ns, h => by
  simp only [tell]
  cases idx ns k with
  | none => simp
  | some i => exact h
 | .nat, ns, h => h
 | .bin p a b, ns, h => tell_ne b _ (tell_ne a ns h)
theorem tell_len : ∀ (t : FT) (ns : List Nat) (v p : Nat), t.size ≤ v → 2 * ns.length + v + 1 + p ≤ 201 → 2 * (tell nmI t ns).2.length + (v - t.size) + p ≤ 201
 | .var k, ns, v, p, h, hl => by
  simp only [tell, FT.size] at h ⊢
  cases idx ns k with
  | none => simp; omega
  | some i => simp; omega
 | .nat, ns, v, p, h, hl => by simp only [tell, FT.size] at h ⊢; omega
 | .bin q a b, ns, v, p, h, hl => by
  simp only [tell, FT.size] at h ⊢
  have h1 := tell_len a ns (v - 1) (p + 1) (by omega) (by omega)
  have h2 := tell_len b (tell nmI a ns).2 (v - 1 - a.size) p (by omega) (by omega)
  rw [show v - (a.size + b.size + 1) = v - 1 - a.size - b.size by omega]
  exact h2
end Go.Proofs.Cw.Si
end

/-
  SIMPLE, specs 19: Type and Where, the program's and the reference's.
-/
section
namespace Go.Proofs.Cw.Si
open Go.Proofs
def allT (ctx : List Ty) : Bool := ctx.all validT
def givenB (ctx : List Ty) (t : Lam) : Bool := decide (ctx.length ≤ 100) && allT ctx && validL t
theorem allT_cons (x : Ty) (r : List Ty) : allT (x :: r) = (validT x && allT r) := rfl
theorem s57 (t : Ty) (ht : sizeT t ≤ 500000000000) : Ev E (2 * sizeT t + 4) 57 [encT t] (.bool (!validT t)) :=
 Ev.mk fun n hn => by
  have h := s58 t ht n (by omega)
  rw [encT_eta t] at h ⊢
  rw [e57]
  exact step_b h (step_t rfl rfl)
theorem l75 : ∀ (r pre : List Ty), (pre ++ r).length ≤ 1000000 → sizeTs r ≤ 100000000 → ∃ c k, (∀ n, c ≤ n → ∀ q, r.length < q → L75_0 n q (encTs (pre ++ r)) 57 [] [] ((pre ++ r).length : Nat) (pre.length : Nat) = some (I k)) ∧ (decide (k ≥ 0) = !allT r)
 | [], pre, hb, hs => ⟨0, -1, fun n hn q hq => by
   obtain ⟨q, rfl⟩ : ∃ k, q = k + 1 := ⟨q - 1, by omega⟩
   rw [show q + 1 = Nat.succ q from rfl, l75_0]
   exact step_f (by simp) rfl, rfl⟩
 | x :: r, pre, hb, hs => by
  simp only [sizeTs] at hs
  have hlen : (pre ++ x :: r).length = pre.length + (r.length + 1) := by simp
  have h59 := s57 x (by omega)
  by_cases hv : validT x = true
  ·obtain ⟨c, k, h1, h2⟩ := l75 r (pre ++ [x]) (by simpa using hb) (by omega)
   refine ⟨c + 2 * sizeT x + 10, k, fun n hn q hq => ?_, by rw [allT_cons, hv, Bool.true_and]; exact h2⟩
   obtain ⟨q, rfl⟩ : ∃ k, q = k + 1 := ⟨q - 1, by omega⟩
   simp only [List.length_cons] at hq
   rw [show q + 1 = Nat.succ q from rfl, l75_0]
   refine step_t (decide_eq_true (by omega)) (step_t (decide_eq_true (by omega)) (step_b (y := encT x) (by rw [Int.toNat_natCast]; exact nthT pre x r) (step_t (okT_sh x) ?_)))
   rw [lookT]
   have h := h59 n (by omega)
   rw [hv] at h
   refine step_b h (step_t rfl (step_f rfl ?_))
   have e := h1 n (by omega) q (by omega)
   rw [w64 (by omega)]
   simpa using e
  ·rw [Bool.not_eq_true] at hv
   refine ⟨2 * sizeT x + 10, (pre.length : Nat), fun n hn q hq => ?_, by rw [allT_cons, hv]; simp⟩
   obtain ⟨q, rfl⟩ : ∃ k, q = k + 1 := ⟨q - 1, by omega⟩
   rw [show q + 1 = Nat.succ q from rfl, l75_0]
   refine step_t (decide_eq_true (by omega)) (step_t (decide_eq_true (by omega)) (step_b (y := encT x) (by rw [Int.toNat_natCast]; exact nthT pre x r) (step_t (okT_sh x) ?_)))
   rw [lookT]
   have h := h59 n (by omega)
   rw [hv] at h
   exact step_b h (step_t rfl (step_t rfl rfl))
theorem s56 (ctx : List Ty) (hl : ctx.length ≤ 1000000) (hs : sizeTs ctx ≤ 100000000) : ∃ c, Ev E c 56 [.slc (encTs ctx), .fn 57 [] []] (.bool (!allT ctx)) := by
 obtain ⟨c, k, h1, h2⟩ := l75 ctx [] (by simpa using hl) hs
 refine ⟨c + ctx.length + 10, Ev.mk fun n hn => ?_⟩
 obtain ⟨n, rfl⟩ : ∃ k, n = k + 1 := ⟨n - 1, by omega⟩
 have e := h1 n (by omega) n (by omega)
 have h79 : evP (Tab.env tab) (n + 1) 75 [.slc (encTs ctx), .fn 57 [] []] = some (I k) := by
  refine evP_of_evQ ?_
  rw [e75, lenT]
  simpa using e
 rw [e56]
 refine step_b h79 (step_t rfl ?_)
 rw [← h2]
 rfl
theorem s30 (ctx : List Ty) (t : Lam) (hs : sizeTs ctx ≤ 100000000) (ht : wL t ≤ 500000000000) : ∃ c, Ev E c 30 [.slc (encTs ctx), encL t] (.bool (givenB ctx t)) := by
 have start : ∀ n, evQ E n 30 [.slc (encTs ctx), encL t] = evQ E n 30 [.slc (encTs ctx), .agg [I t.op, I t.num, .str t.ty.name, .slc (encTs t.ty.parts), .slc (encLs t.parts)]] := fun n => by rw [encL_eta t]
 by_cases h100 : ctx.length ≤ 100
 ·obtain ⟨c, h58⟩ := s56 ctx (by omega) hs
  have h30 := s16 t ht
  refine ⟨c + 4 * wL t + 10, Ev.mk fun n hn => ?_⟩
  rw [start, e30, lenT, ← encL_eta t]
  refine step_t (decide_eq_true (by omega)) (step_b (h58 n (by omega)) (step_t rfl ?_))
  unfold givenB
  rw [decide_eq_true h100, Bool.true_and]
  cases ha : allT ctx with
  | true => exact step_t rfl (step_b (h30 n (by omega)) (step_t rfl rfl))
  | false => exact step_f rfl rfl
 ·refine ⟨1, Ev.mk fun n hn => ?_⟩
  rw [start, e30, lenT]
  refine step_f (decide_eq_false (by omega)) ?_
  unfold givenB
  rw [decide_eq_false h100]
  rfl
theorem given_eq {ctx : List Ty} {t : Lam} (h : givenB ctx t = true) : ctx.length ≤ 100 ∧ CtxOk ctx ∧ sizeL t ≤ 300 ∧ depthL t ≤ 60 ∧ shaped t = true := by
 unfold givenB at h
 simp only [Bool.and_eq_true, decide_eq_true_eq] at h
 obtain ⟨⟨h1, h2⟩, h3⟩ := h
 unfold validL at h3
 simp only [Bool.and_eq_true, decide_eq_true_eq] at h3
 refine ⟨h1, fun x hx => ?_, h3.1.1, h3.1.2, h3.2⟩
 have := List.all_eq_true.1 h2 x hx
 unfold validT at this
 simp only [Bool.and_eq_true, decide_eq_true_eq] at this
 exact ⟨this.2, this.1.1⟩
def typeOf (ctx : List Ty) (t : Lam) : Ty × Int :=
 if givenB ctx t = true then (match typed ctx t with
  | .inl u => (u, 0)
  | .inr _ => (tyZero, 250)) else (tyZero, 4)
theorem s10 (ctx : List Ty) (t : Lam) (hs : sizeTs ctx ≤ 100000000) (ht : wL t ≤ 500000000000) : ∃ c, Ev E c 10 [.slc (encTs ctx), encL t] (.tup [encT (typeOf ctx t).1, I (typeOf ctx t).2]) := by
 have start : ∀ n, evQ E n 10 [.slc (encTs ctx), encL t] = evQ E n 10 [.slc (encTs ctx), .agg [I t.op, I t.num, .str t.ty.name, .slc (encTs t.ty.parts), .slc (encLs t.parts)]] := fun n => by rw [encL_eta t]
 obtain ⟨c39, h39⟩ := s30 ctx t hs ht
 unfold typeOf
 cases hg : givenB ctx t with
 | false =>
  rw [hg] at h39
  refine ⟨c39 + 1, Ev.mk fun n hn => ?_⟩
  rw [start, e10, ← encL_eta t]
  exact step_b (h39 n (by omega)) (step_t rfl (step_t rfl rfl))
 | true =>
  rw [hg] at h39
  obtain ⟨g1, g2, g3, g4, g5⟩ := given_eq hg
  obtain ⟨c40, j, h40⟩ := s31 t ctx g5 g2 (by omega) (by omega)
  cases hty : typed ctx t with
  | inr p =>
   rw [hty] at h40
   refine ⟨c39 + c40 + 1, Ev.mk fun n hn => ?_⟩
   rw [start, e10, ← encL_eta t]
   exact step_b (h39 n (by omega)) (step_t rfl (step_f rfl (step_b (h40 n (by omega)) (step_t (tup3Ok _ _ _) (step_t rfl rfl)))))
  | inl u =>
   rw [hty] at h40
   have hu := (typed_ok t ctx g5 g2 hty).2
   have h41 := s32 u (by omega)
   refine ⟨c39 + c40 + 2 * sizeT u + 10, Ev.mk fun n hn => ?_⟩
   rw [start, e10, ← encL_eta t]
   refine step_b (h39 n (by omega)) (step_t rfl (step_f rfl (step_b (h40 n (by omega)) (step_t (tup3Ok _ _ _) (step_f rfl ?_)))))
   simp only [outTy, tupl_tup, List.headD_cons]
   rw [lookT]
   refine step_b (h41 n (by omega)) (step_t (okT_sh u) ?_)
   rw [lookT]
   rfl
end Go.Proofs.Cw.Si
end

/-
  MATCHING 3: match; a term's type is a type of its erasure.
-/
section
namespace Go.Proofs.Cw.Si
open Go.Proofs
def ofTy : Ty → FT
 | .mk s [a, b] => .bin (s == sTo) (ofTy a) (ofTy b)
 | .mk _ _ => .nat
def toTy : FT → Ty
 | .var _ => tNat
 | .nat => tNat
 | .bin p a b => .mk (if p then sTo else sPair) [toTy a, toTy b]
theorem toTy_ofTy : ∀ t : Ty, formed t = true → toTy (ofTy t) = t
 | .mk s [], h => by
  unfold formed at h
  split at h
  ·rename_i e; rw [e]; rfl
  ·split at h <;> simp at h
 | .mk s [a], h => by
  unfold formed at h
  split at h
  ·simp at h
  ·split at h <;> simp at h
 | .mk s [a, b], h => by
  unfold formed at h
  split at h
  ·simp at h
  ·split at h
   ·rename_i e
    simp only [List.length_cons, List.length_nil, formedTs, Bool.and_eq_true, Bool.and_true] at h
    have h1 := toTy_ofTy a h.2.1
    have h2 := toTy_ofTy b h.2.2
    rw [ofTy, toTy, h1, h2]
    rcases e with rfl | rfl <;> rfl
   ·cases h
 | .mk s (a :: b :: c :: l), h => by
  unfold formed at h
  split at h
  ·simp at h
  ·split at h
   ·simp at h
   ·cases h
theorem s34 (ρ : Nat → FT) : ∀ (τ : FT) (ns : List Nat) (v p : Nat), τ.size ≤ v → 2 * ns.length + v + 1 + p ≤ 201 → sizeT (toTy (τ.sub ρ)) ≤ 1000000 →
  Run34 (fun k => toTy (ρ k)) (tell nmI τ ns).1 (toTy (τ.sub ρ)) ns (tell nmI τ ns).2
 | .var k, ns, v, p, hv, hl, hz => by
  have : 1 ≤ v := hv
  simp only [tell]
  cases hi : idx ns k with
  | some i => exact run34_old (fun k => toTy (ρ k)) rfl (by omega) hi hz
  | none => exact run34_new (fun k => toTy (ρ k)) rfl (by omega)
 | .nat, ns, v, p, hv, hl, hz => by
  obtain ⟨V, H', he, ho⟩ := d34_e (fun k => toTy (ρ k)) (z := ns.isEmpty) (first := true) (ns := ns) (ps := sNat) (ts := sNat) (pl := []) (tl := []) (by cases ns <;> simp)
  refine run34_nd (fun k => toTy (ρ k)) (c := 1) s62_nat rfl (fun n hn => ?_) ho
  obtain ⟨n, rfl⟩ : ∃ p, n = Nat.succ p := ⟨n - 1, by omega⟩
  exact he _ _
 | .bin q a b, ns, v, p, hv, hl, hz => by
  simp only [FT.size] at hv
  simp only [FT.sub, toTy, sizeT, sizeTs] at hz
  obtain ⟨c1, V1, H1, e1, o1⟩ := s34 ρ a ns (v - 1) (p + 1) (by omega) (by omega) (by omega)
  have hl1 := tell_len a ns (v - 1) (p + 1) (by omega) (by omega)
  obtain ⟨c2, V2, H2, e2, o2⟩ := s34 ρ b (tell nmI a ns).2 (v - 1 - a.size) p (by omega) (by omega) (by omega)
  have hzz : ns.isEmpty = false → ns ≠ [] := by cases ns <;> simp
  obtain ⟨V, H', he, ho⟩ := d34_e (fun k => toTy (ρ k)) (z := ns.isEmpty) (first := false) (ns := (tell nmI b (tell nmI a ns).2).2) (ps := if q then sTo else sPair) (ts := if q then sTo else sPair) (pl := [(tell nmI a ns).1, (tell nmI b (tell nmI a ns).2).1]) (tl := [toTy (a.sub ρ), toTy (b.sub ρ)]) (fun h => tell_ne _ _ (tell_ne _ _ (hzz h)))
  refine run34_nd (fun k => toTy (ρ k)) (c := c1 + c2 + 3) (s62_two _ _ _) rfl (fun n hn => ?_) ho
  obtain ⟨q', hq⟩ : ∃ p, n = Nat.succ (Nat.succ (Nat.succ p)) := ⟨n - 3, by omega⟩
  have t1 := d34_c (fun k => toTy (ρ k)) (z := ns.isEmpty) (first := true) (j := 0) (ps := if q then sTo else sPair) (ts := if q then sTo else sPair) (pl := [(tell nmI a ns).1, (tell nmI b (tell nmI a ns).2).1]) (tl := [toTy (a.sub ρ), toTy (b.sub ρ)]) (by simp) (by simp) rfl rfl e1 o1 hzz (tell_ne _ _) n (Nat.succ (Nat.succ q')) (by omega)
  have t2 := d34_c (fun k => toTy (ρ k)) (z := ns.isEmpty) (first := false) (j := 0 + 1) (ps := if q then sTo else sPair) (ts := if q then sTo else sPair) (pl := [(tell nmI a ns).1, (tell nmI b (tell nmI a ns).2).1]) (tl := [toTy (a.sub ρ), toTy (b.sub ρ)]) (by simp) (by simp) rfl rfl e2 o2 (fun h => tell_ne _ _ (hzz h)) (tell_ne _ _) n (Nat.succ q') (by omega)
  have t3 := he n q'
  rw [← hq] at t1
  exact t1.trans (t2.trans t3)
theorem s12 (ρ : Nat → FT) (τ : FT) (hv : τ.size ≤ 200) (hz : sizeT (toTy (τ.sub ρ)) ≤ 1000000) : ∃ c x y, Ev E c 12 [encT (tell nmI τ []).1, encT (toTy (τ.sub ρ))] (.tup [.slc x, .slc y, .bool true]) := by
 obtain ⟨c, V, H', e, o⟩ := s34 ρ τ [] 200 0 hv (by simp) hz
 cases hp : (tell nmI τ []).1 with
 | mk ps pl =>
 cases ht : toTy (τ.sub ρ) with
 | mk ts tl =>
 rw [hp, ht] at e
 cases hns : (tell nmI τ []).2 with
 | nil =>
  refine ⟨c + 1, [], [], Ev.mk fun n hn => ?_⟩
  have e := e n hn
  rw [encT, encT] at e
  rw [encT, encT, e12]
  refine step_b e (step_f (by show bForm .str shT V H' = false; rw [o.form, hns]; rfl) (step_t (by show (bNil V && true) = true; rw [o.nil, hns]; rfl) (step_f (by show (!Tree.toBool (bVal V)) = false; rw [o.val]; rfl) rfl)))
 | cons a r =>
  refine ⟨c + 1, bRow1 V H', bRow2 V H', Ev.mk fun n hn => ?_⟩
  have e := e n hn
  rw [encT, encT] at e
  rw [encT, encT, e12]
  exact step_b e (step_t (by show bForm .str shT V H' = true; rw [o.form, hns]; rfl) (step_f (by show (!Tree.toBool (bVal V)) = false; rw [o.val]; rfl) rfl))
theorem ofTy_nat {x : Ty} (h : formed x = true) (hn : x.name = sNat) : ofTy x = .nat := by
 cases x with
 | mk s l =>
 unfold formed at h
 simp only [Ty.name] at hn
 rw [if_pos hn] at h
 cases l with
 | nil => rfl
 | cons a r => simp at h
theorem ofTy_two {x a b : Ty} (h : x.parts = [a, b]) : ofTy x = .bin (x.name == sTo) (ofTy a) (ofTy b) := by
 cases x with
 | mk s l =>
 simp only [Ty.parts] at h
 subst h
 rfl
mutual
theorem typed_has : ∀ (t : Lam) (ctx : List Ty) {u : Ty}, shaped t = true → CtxOk ctx → typed ctx t = .inl u → Has (ctx.map ofTy) (eraseL t) (ofTy u)
 | .mk o n t l, ctx, u, hs, hc, h => by
  have q := shaped_eq hs
  unfold typed at h
  split at h
  ·cases h
  ·rename_i ts hts
   have hc' : CtxOk (if o = 2 then ctx ++ [t] else ctx) := by
    split
    ·rename_i e; exact hc.push (q.lam e)
    ·exact hc
   have k := typeds_has l _ 0 q.parts hc' hts
   obtain ⟨fts, _, hlen⟩ := typeds_ok l _ 0 q.parts hc' hts
   split at h
   ·rename_i u' hr
    cases h
    unfold eraseL
    generalize hel : eraseLs l = el at k ⊢
    unfold ruleT at hr
    split at hr
    ·rename_i e
     subst e
     have hl : l = [] := List.length_eq_zero_iff.1 (by have := q.len; have h0 : partsN 1 = 0 := rfl; omega)
     have he : el = [] := by rw [← hel, hl]; rfl
     subst he
     unfold fromEnd at hr
     split at hr
     ·rename_i hb
      exact .var hb.1 (by simpa using hb.2) (by rw [List.length_map, List.getElem?_map, hr]; rfl)
     ·cases hr
    ·split at hr
     ·rename_i _ e
      subst e
      rw [if_pos rfl] at k
      unfold rt2 at hr
      split at hr
      ·rename_i b
       cases hr
       cases k with
       | @cons x _ l' _ hx hn =>
        cases hn
        exact .lam (by simpa using hx)
      ·cases hr
     ·rename_i e2
      rw [if_neg e2] at k
      split at hr
      ·rename_i e
       subst e
       unfold rt3 at hr
       split at hr
       ·rename_i f a
        split at hr
        ·rename_i x y hp
         split at hr
         ·rename_i hcnd
          cases hr
          cases k with
          | cons h1 k =>
           cases k with
           | cons h2 k =>
            cases k
            rw [ofTy_two hp, hcnd.1] at h1
            rw [← hcnd.2] at h2
            exact .app h1 h2
         ·cases hr
        ·cases hr
       ·cases hr
      ·split at hr
       ·rename_i e
        subst e
        cases hr
        have hl : l = [] := List.length_eq_zero_iff.1 (by have := q.len; have h0 : partsN 4 = 0 := rfl; omega)
        have he : el = [] := by rw [← hel, hl]; rfl
        subst he
        exact .num
       ·split at hr
        ·rename_i e
         subst e
         unfold rt5 at hr
         split at hr
         ·rename_i x
          split at hr
          ·rename_i hcnd
           cases hr
           cases k with
           | cons h1 k =>
            cases k
            rw [ofTy_nat (fts _ (by simp)) hcnd] at h1
            exact .suc h1
          ·cases hr
         ·cases hr
        ·split at hr
         ·rename_i e
          subst e
          unfold rt6 at hr
          split at hr
          ·rename_i n' f a
           split at hr
           ·rename_i hcnd
            cases hr
            obtain ⟨c1, c2⟩ := hcnd
            subst c2
            cases k with
            | cons h1 k =>
             cases k with
             | cons h2 k =>
              cases k with
              | cons h3 k =>
               cases k
               rw [ofTy_nat (fts _ (by simp)) c1] at h1
               exact .iter h1 h2 h3
           ·cases hr
          ·cases hr
         ·split at hr
          ·rename_i e
           subst e
           unfold rt7 at hr
           split at hr
           ·cases hr
            cases k with
            | cons h1 k =>
             cases k with
             | cons h2 k =>
              cases k
              exact .pair h1 h2
           ·cases hr
          ·split at hr
           ·rename_i e
            subst e
            unfold rt8 at hr
            split at hr
            ·rename_i p
             split at hr
             ·rename_i a b hp
              split at hr
              ·rename_i hcnd
               cases hr
               cases k with
               | cons h1 k =>
                cases k
                rw [ofTy_two hp, hcnd] at h1
                exact .fst h1
              ·cases hr
             ·cases hr
            ·cases hr
           ·split at hr
            ·rename_i e
             subst e
             unfold rt9 at hr
             split at hr
             ·rename_i p
              split at hr
              ·rename_i a b hp
               split at hr
               ·rename_i hcnd
                cases hr
                cases k with
                | cons h1 k =>
                 cases k
                 rw [ofTy_two hp, hcnd] at h1
                 exact .snd h1
               ·cases hr
              ·cases hr
             ·cases hr
            ·cases hr
   ·cases h
theorem typeds_has : ∀ (l : List Lam) (ctx : List Ty) (i : Nat) {us : List Ty}, shapeds l = true → CtxOk ctx → typeds ctx i l = .inl us → HasL (ctx.map ofTy) (eraseLs l) (us.map ofTy)
 | [], ctx, i, us, hs, hc, h => by
  unfold typeds at h
  cases h
  exact .nil
 | x :: r, ctx, i, us, hs, hc, h => by
  unfold shapeds at hs
  simp only [Bool.and_eq_true] at hs
  unfold typeds at h
  split at h
  ·cases h
  ·rename_i u hu
   have a1 := typed_has x ctx hs.1 hc hu
   split at h
   ·cases h
   ·rename_i us' hus
    cases h
    have b1 := typeds_has r ctx (i + 1) hs.2 hc hus
    exact .cons a1 b1
end
end Go.Proofs.Cw.Si
end

/-
  EQUATIONS of the laws: printed by program.
-/
section
set_option maxRecDepth 100000
namespace Go.Proofs.Cw.Si
open Go.Proofs

theorem e4 (n : Nat) (a00 a01 : Int) (a02 : List UInt8) (a03 a04 : List Tree) : evQ eQ n 4 [Tree.agg [q4 a00, q4 a01, Tree.str a02, Tree.slc a03, Tree.slc a04]] =
 Option.bind (evP eQ n 5 [Tree.slc [Tree.agg [q4 a00, q4 a01, Tree.str a02, Tree.slc a03, Tree.slc a04]]]) fun y => bif Sh.ok Sh.bool y then bif Tree.toBool y then some
 (Tree.bool true) else Option.bind (evP eQ n 10 [Tree.slc [], Tree.agg [q4 a00, q4 a01, Tree.str a02, Tree.slc a03, Tree.slc a04]]) fun y => bif Sh.ok (Sh.tup [q2, Sh.int
 IntKind.i64]) y then bif Tree.toInt (List.headD (List.tail (Tree.tupl y)) (Tree.bool false)) != 0 then Option.bind (evP eQ n 9 []) fun y => bif Sh.ok Sh.bool y then some
 (Tree.bool (Tree.toBool y)) else none else Option.bind (evP eQ n 11 [Tree.agg [q4 a00, q4 a01, Tree.str a02, Tree.slc a03, Tree.slc a04]]) fun y_1 => bif Sh.ok q0 y_1
 then Option.bind (evP eQ n 6 [Tree.agg [q4 (Tree.toInt (List.headD (Tree.cs y_1) (Tree.bool false))), q4 (Tree.toInt (List.headD (List.tail (Tree.cs y_1)) (Tree.bool
 false))), Tree.str (Tree.toStr (List.headD (List.tail (List.tail (Tree.cs y_1))) (Tree.bool false))), Tree.slc (Tree.elems (List.headD (List.tail (List.tail (List.tail
 (Tree.cs y_1)))) (Tree.bool false))), Tree.slc (Tree.elems (List.headD (List.tail (List.tail (List.tail (List.tail (Tree.cs y_1))))) (Tree.bool false)))]]) fun y_2 => bif
 Sh.ok (Sh.tup [q2, Sh.int IntKind.i64]) y_2 then bif Tree.toInt (List.headD (List.tail (Tree.tupl y_2)) (Tree.bool false)) != 0 then bif Tree.toInt (List.headD (List.tail
 (Tree.tupl y_2)) (Tree.bool false)) == 2 then Option.bind (evP eQ n 9 []) fun y => bif Sh.ok Sh.bool y then some (Tree.bool (Tree.toBool y)) else none else some
 (Tree.bool false) else Option.bind (evP eQ n 12 [Tree.agg [Tree.str (Tree.toStr (List.headD (Tree.cs (List.headD (Tree.tupl y_2) (Tree.bool false))) (Tree.bool false))),
 Tree.slc (Tree.elems (List.headD (List.tail (Tree.cs (List.headD (Tree.tupl y_2) (Tree.bool false)))) (Tree.bool false)))], Tree.agg [Tree.str (Tree.toStr (List.headD
 (Tree.cs (List.headD (Tree.tupl y) (Tree.bool false))) (Tree.bool false))), Tree.slc (Tree.elems (List.headD (List.tail (Tree.cs (List.headD (Tree.tupl y) (Tree.bool
 false)))) (Tree.bool false)))]]) fun y => bif Sh.ok (Sh.tup [Sh.slc, Sh.slc, Sh.bool]) y then bif Tree.toBool (List.headD (List.tail (List.tail (Tree.tupl y))) (Tree.bool
 false)) then Option.bind (evP eQ n 9 []) fun y => bif Sh.ok Sh.bool y then some (Tree.bool (Tree.toBool y)) else none else some (Tree.bool false) else none else none else
 none else none else none := by kernel_rfl


end Go.Proofs.Cw.Si
end

/-
  SIMPLE: the small run at the end of each law.
-/
section
namespace Go.Proofs.Cw.Si
open Go.Proofs
theorem s9 : Ev E 40 9 [] (.bool true) := by
 intro n hn
 obtain ⟨m, rfl⟩ : ∃ m, n = m + 40 := ⟨n - 40, by omega⟩
 show evP (Tab.env tab) (m + 40) 9 [] = some (.bool true)
 kernel_rfl
end Go.Proofs.Cw.Si
end

/-
  SIMPLEGENERAL: the law's own function.
-/
section
namespace Go.Proofs.Cw.Si
open Go.Proofs
mutual
theorem er_erase : ∀ t : Lam, erL (eraseL t) = true
 | .mk o n t l => by unfold eraseL erL; rw [ers_erase l]; rfl
theorem ers_erase : ∀ l : List Lam, erLs (eraseLs l) = true
 | [] => rfl
 | t :: r => by unfold eraseLs erLs; rw [er_erase t, ers_erase r]; rfl
end
mutual
theorem dress_erase : ∀ t : Lam, dressL (eraseL t) = dressL t
 | .mk o n t l => by unfold eraseL dressL; rw [dresss_erase l]
theorem dresss_erase : ∀ l : List Lam, dressLs (eraseLs l) = dressLs l
 | [] => rfl
 | t :: r => by unfold eraseLs dressLs; rw [dress_erase t, dresss_erase r]
end
mutual
theorem wL_erase : ∀ t : Lam, wL (eraseL t) ≤ wL t
 | .mk o n t l => by
  have h1 := wLs_erase l
  have h2 := sizeT_pos t
  unfold eraseL wL
  have : sizeT tyZero = 1 := rfl
  omega
theorem wLs_erase : ∀ l : List Lam, wLs (eraseLs l) ≤ wLs l
 | [] => Nat.le_refl _
 | t :: r => by
  have h1 := wL_erase t
  have h2 := wLs_erase r
  unfold eraseLs wLs
  omega
end
mutual
theorem depthL_dress : ∀ t : Lam, depthL (dressL t) = depthL t
 | .mk o n t l => by unfold dressL depthL; rw [depthLs_dress l]
theorem depthLs_dress : ∀ l : List Lam, depthLs (dressLs l) = depthLs l
 | [] => rfl
 | t :: r => by unfold dressLs depthLs; rw [depthL_dress t, depthLs_dress r]
end
mutual
theorem shaped_dress : ∀ t : Lam, shaped t = true → shaped (dressL t) = true
 | .mk o n t l, h => by
  unfold shaped at h
  unfold dressL shaped
  simp only [Bool.and_eq_true] at h ⊢
  obtain ⟨⟨⟨⟨h1, h2⟩, h3⟩, h4⟩, h5⟩ := h
  refine ⟨⟨⟨⟨by rw [dressLs_len]; exact h1, h2⟩, h3⟩, ?_⟩, shapeds_dress l h5⟩
  by_cases c : o = 2
  ·rw [if_pos c, if_pos c]; decide
  ·rw [if_neg c, if_neg c]; rfl
theorem shapeds_dress : ∀ l : List Lam, shapeds l = true → shapeds (dressLs l) = true
 | [], _ => rfl
 | t :: r, h => by
  unfold shapeds at h
  unfold dressLs shapeds
  simp only [Bool.and_eq_true] at h ⊢
  exact ⟨shaped_dress t h.1, shapeds_dress r h.2⟩
end
mutual
theorem typed_clos : ∀ (t : Lam) (ctx : List Ty) {u : Ty}, typed ctx t = .inl u → closL (ctx.length : Nat) (eraseL t) = true
 | .mk o n t l, ctx, u, h => by
  unfold typed at h
  split at h
  ·cases h
  ·rename_i ts hts
   have k := typeds_clos l _ 0 hts
   unfold eraseL closL
   by_cases c : o = 1
   ·subst c
    rw [if_pos rfl]
    split at h
    ·rename_i u' hr
     unfold ruleT at hr
     rw [if_pos rfl] at hr
     unfold fromEnd at hr
     split at hr
     ·rename_i hb; exact decide_eq_true hb.2
     ·cases hr
    ·cases h
   ·rw [if_neg c]
    by_cases c2 : o = 2
    ·rw [if_pos c2] at k ⊢
     rw [List.length_append, List.length_singleton] at k
     rw [show ((ctx.length : Nat) : Int) + 1 = ((ctx.length + 1 : Nat) : Int) by omega]
     exact k
    ·rw [if_neg c2] at k ⊢
     exact k
theorem typeds_clos : ∀ (l : List Lam) (ctx : List Ty) (i : Nat) {us : List Ty}, typeds ctx i l = .inl us → closLs (ctx.length : Nat) (eraseLs l) = true
 | [], ctx, i, us, h => rfl
 | x :: r, ctx, i, us, h => by
  unfold typeds at h
  split at h
  ·cases h
  ·rename_i u hu
   have a1 := typed_clos x ctx hu
   split at h
   ·cases h
   ·rename_i us' hus
    have b1 := typeds_clos r ctx (i + 1) hus
    unfold eraseLs closLs
    rw [a1, b1]; rfl
end
theorem inOk_erase {t : Lam} {u : Ty} (h : givenB [] t = true) (hu : typed [] t = .inl u) : inOk (eraseL t) = true ∧ Has [] (eraseL t) (ofTy u) ∧ formed u = true ∧ sizeT u ≤ 20000 := by
 obtain ⟨_, hc, h1, h2, h3⟩ := given_eq h
 obtain ⟨f1, f2⟩ := typed_ok t [] h3 hc hu
 refine ⟨?_, typed_has t [] h3 hc hu, f1, by omega⟩
 unfold inOk
 rw [er_erase, dress_erase, Bool.true_and, Bool.and_eq_true]
 refine ⟨?_, typed_clos t [] hu⟩
 unfold validL
 simp only [Bool.and_eq_true, decide_eq_true_eq]
 exact ⟨⟨by rw [sizeL_dress]; exact h1, by rw [depthL_dress]; exact h2⟩, shaped_dress t h3⟩
theorem simpleGeneral {t : Lam} (hw : wL t ≤ 50000000) : ∃ c, Ev E c 4 [encL t] (.bool true) := by
 obtain ⟨c5, b, h5, _⟩ := s5 [t] (by simpa [wLs] using hw)
 obtain ⟨c10, h10⟩ := s10 [] t (by simp [sizeTs]) (by omega)
 have h11 := s11 t (by omega)
 have hwe := wL_erase t
 obtain ⟨c6, r, hr, h6⟩ := i6 (t := eraseL t) (by omega)
 have h9 := s9
 have start : ∀ (n : Nat) (R : Option Tree), c5 + c10 ≤ n → (b = false → (bif ((typeOf [] t).2 != 0) then Option.bind (evP (Tab.env tab) n 9 []) (fun y => bif Sh.ok Sh.bool y then some (Tree.bool (Tree.toBool y)) else none) else
   Option.bind (evP (Tab.env tab) n 11 [encL t]) fun y_1 =>
       bif Sh.ok (Sh.agg [Sh.int IntKind.i64, Sh.int IntKind.i64, Sh.str, Sh.slc, Sh.slc]) y_1 then
        Option.bind
         (evP (Tab.env tab) n 6
          [Tree.agg
            [Tree.int IntKind.i64 (Tree.toInt (List.headD (Tree.cs y_1) (Tree.bool false))),
             Tree.int IntKind.i64 (Tree.toInt (List.headD (List.tail (Tree.cs y_1)) (Tree.bool false))),
             Tree.str (Tree.toStr (List.headD (List.tail (List.tail (Tree.cs y_1))) (Tree.bool false))),
             Tree.slc (Tree.elems (List.headD (List.tail (List.tail (List.tail (Tree.cs y_1)))) (Tree.bool false))),
             Tree.slc (Tree.elems (List.headD (List.tail (List.tail (List.tail (List.tail (Tree.cs y_1))))) (Tree.bool false)))]])
         fun y_2 =>
         bif Sh.ok (Sh.tup [Sh.agg [Sh.str, Sh.slc], Sh.int IntKind.i64]) y_2 then
          bif Tree.toInt (List.headD (List.tail (Tree.tupl y_2)) (Tree.bool false)) != 0 then
           bif Tree.toInt (List.headD (List.tail (Tree.tupl y_2)) (Tree.bool false)) == 2 then
            Option.bind (evP (Tab.env tab) n 9 []) fun y => bif Sh.ok Sh.bool y then some (Tree.bool (Tree.toBool y)) else none
           else some (Tree.bool false)
          else
           Option.bind
            (evP (Tab.env tab) n 12
             [Tree.agg
               [Tree.str (Tree.toStr (List.headD (Tree.cs (List.headD (Tree.tupl y_2) (Tree.bool false))) (Tree.bool false))),
                Tree.slc (Tree.elems (List.headD (List.tail (Tree.cs (List.headD (Tree.tupl y_2) (Tree.bool false)))) (Tree.bool false)))],
              encT (typeOf [] t).1])
            fun y =>
            bif Sh.ok (Sh.tup [Sh.slc, Sh.slc, Sh.bool]) y then
             bif Tree.toBool (List.headD (List.tail (List.tail (Tree.tupl y))) (Tree.bool false)) then
              Option.bind (evP (Tab.env tab) n 9 []) fun y => bif Sh.ok Sh.bool y then some (Tree.bool (Tree.toBool y)) else none
             else some (Tree.bool false)
            else none
         else none
       else none) = some (.bool true)) → evQ (Tab.env tab) n 4 [encL t] = some (.bool true) := by
  intro n R hn hR
  have h5 := h5 n (by omega)
  have h10 := h10 n (by omega)
  rw [encLs, encLs] at h5
  rw [encTs] at h10
  rw [encL_eta] at h5 h10 hR ⊢
  rw [e4]
  refine step_b h5 (step_t rfl ?_)
  cases b with
  | true => rfl
  | false =>
   have hR := hR rfl
   generalize typeOf [] t = z at h10 hR
   obtain ⟨⟨sz, lz⟩, ez⟩ := z
   refine step_f rfl (step_b h10 (step_t ?_ hR))
   simp [encT]
 have awake : ∀ n, 40 ≤ n → (Option.bind (evP (Tab.env tab) n 9 []) fun y => bif Sh.ok Sh.bool y then some (Tree.bool (Tree.toBool y)) else none) = some (.bool true) := fun n hn => step_b (h9 n hn) rfl
 unfold typeOf at start
 cases hg : givenB [] t with
 | false =>
  rw [hg] at start
  refine ⟨c5 + c10 + 40 + 1, Ev.mk fun n hn => start n none (by omega) fun _ => step_t rfl (awake n (by omega))⟩
 | true =>
  rw [if_pos hg] at start
  cases ht : typed [] t with
  | inr p =>
   rw [ht] at start
   refine ⟨c5 + c10 + 40 + 1, Ev.mk fun n hn => start n none (by omega) fun _ => step_t rfl (awake n (by omega))⟩
  | inl u =>
   rw [ht] at start
   obtain ⟨hin, has, hf, hsz⟩ := inOk_erase hg ht
   rcases hr with ⟨e, _⟩ | ⟨_, o, mo, rfl⟩
   ·rw [hin] at e; cases e
   cases o with
   | none => exact absurd has (mo _)
   | some τ =>
    obtain ⟨ρ, hρ⟩ := (mo _).1 has
    have hback : toTy (τ.sub ρ) = u := by rw [← hρ]; exact toTy_ofTy u hf
    by_cases hs : τ.size ≤ 200
    ·obtain ⟨c12, x, y, h12⟩ := s12 ρ τ hs (by rw [hback]; omega)
     rw [hback] at h12
     have ho : outI (some τ) = ((tell nmI τ []).1, 0) := by simp only [outI]; rw [if_pos hs]
     rw [ho] at h6
     refine ⟨c5 + c10 + c6 + c12 + (2 * wL t + 4) + 40 + 1, Ev.mk fun n hn => start n none (by omega) fun _ => ?_⟩
     have h6 := h6 n (by omega)
     have h12 := h12 n (by omega)
     have h11 := h11 n (by omega)
     generalize hp : (tell nmI τ []).1 = P at h6 h12
     obtain ⟨sp, lp⟩ := P
     rw [encL_eta (eraseL t)] at h6 h11
     refine step_f rfl (step_b h11 (step_t rfl (step_b h6 (step_t ?_ (step_f rfl (step_b h12 (step_t rfl (step_t rfl (awake n (by omega))))))))))
     simp [encT]
    ·have ho : outI (some τ) = (tyZero, 2) := by simp only [outI]; rw [if_neg hs]
     rw [ho] at h6
     refine ⟨c5 + c10 + c6 + (2 * wL t + 4) + 40 + 1, Ev.mk fun n hn => start n none (by omega) fun _ => ?_⟩
     have h6 := h6 n (by omega)
     have h11 := h11 n (by omega)
     rw [encL_eta (eraseL t)] at h6 h11
     exact step_f rfl (step_b h11 (step_t rfl (step_b h6 (step_t rfl (step_t rfl (step_t rfl (awake n (by omega))))))))
end Go.Proofs.Cw.Si
end

/-
  SIMPLE: well-typed trees of the types Lam and Ty are trees of terms and types.
-/
section
namespace Go.Proofs.Cw.Si
open Go.Proofs
structure Types (P : Program) (tL tLs tT tTs tI tS : TypeId) : Prop where
 uL : ∃ f1 f2 f3 f4 : Field, P.underlying tL = some (.struct #[f1, f2, f3, f4]) ∧ f1.type = tI ∧ f2.type = tI ∧ f3.type = tT ∧ f4.type = tLs ∧ f1.offset = 0 ∧ f2.offset = 1 ∧ f3.offset = 2 ∧ f4.offset = 4
 uLs : P.underlying tLs = some (.slice tL)
 uT : ∃ f1 f2 : Field, P.underlying tT = some (.struct #[f1, f2]) ∧ f1.type = tS ∧ f2.type = tTs ∧ f1.offset = 0 ∧ f2.offset = 1
 uTs : P.underlying tTs = some (.slice tT)
 uI : P.underlying tI = some (.int .i64)
 uS : P.underlying tS = some .string
 cL : P.cellsOf tL = 5
 cLs : P.cellsOf tLs = 1
 cT : P.cellsOf tT = 2
 cTs : P.cellsOf tTs = 1
 cI : P.cellsOf tI = 1
 cS : P.cellsOf tS = 1
 aL : tyAgg P tL = some true
 aT : tyAgg P tT = some true
 aLs : tyAgg P tLs = some false
 aTs : tyAgg P tTs = some false
mutual
def okT : Ty → Prop
 | .mk s l => s.length ≤ reachBytes ∧ l.length ≤ maxLen ∧ okTs l
def okTs : List Ty → Prop
 | [] => True
 | t :: r => okT t ∧ okTs r
end
mutual
def okL : Lam → Prop
 | .mk o n t l => fits .i64 o ∧ fits .i64 n ∧ okT t ∧ l.length ≤ maxLen ∧ okLs l
def okLs : List Lam → Prop
 | [] => True
 | t :: r => okL t ∧ okLs r
end
def cellsT (t : Ty) : List Tree := [.str t.name, .slc (encTs t.parts)]
def cellsL (t : Lam) : List Tree := [.int .i64 t.op, .int .i64 t.num, .str t.ty.name, .slc (encTs t.ty.parts), .slc (encLs t.parts)]
theorem encT_cells (t : Ty) : encT t = .agg (cellsT t) := by cases t; rfl
theorem encL_cells (t : Lam) : encL t = .agg (cellsL t) := by
 cases t with
 | mk o n t l => cases t; rfl
def Is (tL tLs tT tTs tI tS : TypeId) (t : TypeId) (cs : List Tree) : Prop :=
 (t = tL → ∃ l, cs = cellsL l ∧ okL l) ∧ (t = tLs → ∃ ls, cs = [.slc (encLs ls)] ∧ okLs ls ∧ ls.length ≤ maxLen) ∧
 (t = tT → ∃ l, cs = cellsT l ∧ okT l) ∧ (t = tTs → ∃ ls, cs = [.slc (encTs ls)] ∧ okTs ls ∧ ls.length ≤ maxLen)
theorem lams_of {P : Program} {tL tLs tT tTs tI tS : TypeId} (T : Types P tL tLs tT tTs tI tS) : ∀ {es : List Tree}, (∀ x, x ∈ es → x.fl = true ∧ x = mkTree P tL x.cells) → (∀ x, x ∈ es → Is tL tLs tT tTs tI tS tL x.cells) → ∃ ls, es = encLs ls ∧ okLs ls
 | [], _, _ => ⟨[], rfl, trivial⟩
 | x :: es, h1, h2 => by
  obtain ⟨l, hl, ol⟩ := (h2 x (by simp)).1 rfl
  obtain ⟨ls, hs, os⟩ := lams_of T (es := es) (fun y hy => h1 y (by simp [hy])) (fun y hy => h2 y (by simp [hy]))
  have e := (h1 x (by simp)).2
  rw [hl] at e
  simp only [mkTree, T.aL] at e
  exact ⟨l :: ls, by rw [encLs, ← hs, encL_cells, ← e], ol, os⟩
theorem tys_of {P : Program} {tL tLs tT tTs tI tS : TypeId} (T : Types P tL tLs tT tTs tI tS) : ∀ {es : List Tree}, (∀ x, x ∈ es → x.fl = true ∧ x = mkTree P tT x.cells) → (∀ x, x ∈ es → Is tL tLs tT tTs tI tS tT x.cells) → ∃ ls, es = encTs ls ∧ okTs ls
 | [], _, _ => ⟨[], rfl, trivial⟩
 | x :: es, h1, h2 => by
  obtain ⟨l, hl, ol⟩ := (h2 x (by simp)).2.2.1 rfl
  obtain ⟨ls, hs, os⟩ := tys_of T (es := es) (fun y hy => h1 y (by simp [hy])) (fun y hy => h2 y (by simp [hy]))
  have e := (h1 x (by simp)).2
  rw [hl] at e
  simp only [mkTree, T.aT] at e
  exact ⟨l :: ls, by rw [encTs, ← hs, encT_cells, ← e], ol, os⟩
theorem is_of {P : Program} {tL tLs tT tTs tI tS : TypeId} (T : Types P tL tLs tT tTs tI tS) {t : TypeId} {cs : List Tree} (h : TV P t cs) : Is tL tLs tT tTs tI tS t cs := by
 obtain ⟨f1, f2, f3, f4, uL, e1, e2, e3, e4, o1, o2, o3, o4⟩ := T.uL
 obtain ⟨g1, g2, uT, k1, k2, p1, p2⟩ := T.uT
 have uLs := T.uLs
 have uTs := T.uTs
 induction h with
 | bool t b h => refine ⟨?_, ?_, ?_, ?_⟩ <;> rintro rfl <;> simp_all
 | int t k n h hw => refine ⟨?_, ?_, ?_, ?_⟩ <;> rintro rfl <;> simp_all
 | str t s h hl => refine ⟨?_, ?_, ?_, ?_⟩ <;> rintro rfl <;> simp_all
 | array t n e cs h hl hf ih => refine ⟨?_, ?_, ?_, ?_⟩ <;> rintro rfl <;> simp_all
 | slc t e es h hl hm h1 h2 ih =>
  refine ⟨?_, ?_, ?_, ?_⟩
  ·rintro rfl; rw [uL] at h; simp at h
  ·rintro rfl
   rw [uLs] at h
   simp only [Option.some.injEq, TypeDesc.slice.injEq] at h
   subst h
   obtain ⟨ls, hs, os⟩ := lams_of T h1 ih
   subst hs
   exact ⟨ls, rfl, os, by simpa [encLs_map] using hm⟩
  ·rintro rfl; rw [uT] at h; simp at h
  ·rintro rfl
   rw [uTs] at h
   simp only [Option.some.injEq, TypeDesc.slice.injEq] at h
   subst h
   obtain ⟨ls, hs, os⟩ := tys_of T h1 ih
   subst hs
   exact ⟨ls, rfl, os, by simpa [encTs_map] using hm⟩
 | struct t fs cs h hl hf ih =>
  refine ⟨?_, ?_, ?_, ?_⟩
  ·rintro rfl
   rw [uL] at h
   simp only [Option.some.injEq, TypeDesc.struct.injEq] at h
   subst h
   rw [T.cL] at hl
   match cs, hl with
   | [c0, c1, c2, c3, c4], _ =>
    have a1 := hf f1 (by simp)
    have a2 := hf f2 (by simp)
    have a3 := ih f3 (by simp)
    have a4 := ih f4 (by simp)
    rw [e1, o1, T.cI] at a1
    rw [e2, o2, T.cI] at a2
    rw [e3, o3, T.cT] at a3
    rw [e4, o4, T.cLs] at a4
    obtain ⟨o, ho, fo⟩ := a1.isInt T.uI
    obtain ⟨n, hn, fn⟩ := a2.isInt T.uI
    obtain ⟨ty, ht, ot⟩ := a3.2.2.1 rfl
    obtain ⟨ls, hs, os, om⟩ := a4.2.1 rfl
    cases ty with
    | mk s l =>
     simp [cellsT, Ty.name, Ty.parts] at ho hn ht hs
     obtain ⟨ht1, ht2⟩ := ht
     subst ho; subst hn; subst ht1; subst ht2; subst hs
     exact ⟨.mk o n (.mk s l) ls, rfl, fo, fn, ot, om, os⟩
  ·rintro rfl; rw [uLs] at h; simp at h
  ·rintro rfl
   rw [uT] at h
   simp only [Option.some.injEq, TypeDesc.struct.injEq] at h
   subst h
   rw [T.cT] at hl
   match cs, hl with
   | [c0, c1], _ =>
    have a1 := hf g1 (by simp)
    have a2 := ih g2 (by simp)
    rw [k1, p1, T.cS] at a1
    rw [k2, p2, T.cTs] at a2
    obtain ⟨ls, hs, os, om⟩ := a2.2.2.2 rfl
    simp at hs a1
    subst hs
    have hs : ∃ s, c0 = .str s ∧ s.length ≤ reachBytes := by
     have uS := T.uS
     clear ih hf uL uT uLs uTs
     generalize hc : [c0] = cs at a1
     cases a1 with
     | str _ s h hl =>
      simp only [List.cons.injEq, and_true] at hc
      exact ⟨s, hc, hl⟩
     | bool _ b h => rw [uS] at h; simp at h
     | int _ k n h hw => rw [uS] at h; simp at h
     | slc _ e es h => rw [uS] at h; simp at h
     | struct _ fs _ h => rw [uS] at h; simp at h
     | array _ n e _ h => rw [uS] at h; simp at h
    obtain ⟨s, rfl, hl⟩ := hs
    exact ⟨.mk s ls, rfl, hl, om, os⟩
  ·rintro rfl; rw [uTs] at h; simp at h
theorem lam_of {P : Program} {tL tLs tT tTs tI tS : TypeId} (T : Types P tL tLs tT tTs tI tS) {x : Tree} (h : WT P tL x) : ∃ l, x = encL l ∧ okL l := by
 obtain ⟨_, e, v⟩ := h
 obtain ⟨l, hl, ol⟩ := (is_of T v).1 rfl
 rw [hl] at e
 simp only [mkTree, T.aL] at e
 exact ⟨l, by rw [encL_cells]; exact e, ol⟩
end Go.Proofs.Cw.Si
end

/-
  SIMPLE: a row's readings as trees, of a size that is at most the reading's bulk.
-/
section
set_option linter.unusedSimpArgs false
set_option linter.unusedVariables false
namespace Go.Proofs.Cw.Si
open Go.Proofs Go.Proofs.YtominoddfkpflaaDoor
mutual
def tsz : Tree → Nat
 | .str s => s.length + 1
 | .slc es => tszs es + 1
 | .agg cs => tszs cs
 | _ => 1
def tszs : List Tree → Nat
 | [] => 0
 | x :: r => tsz x + tszs r
end
theorem tszs_append : ∀ a b : List Tree, tszs (a ++ b) = tszs a + tszs b
 | [], b => by simp [tszs]
 | x :: a, b => by simp only [List.cons_append, tszs, tszs_append a b]; omega
section
variable {H : Type} {enc : TypeId × Value → H} {P : Program} {w : World} {sp : Nat → Bool} {held : Bool} {L : List Nat}
def ReadB (P : Program) (w : World) (t : TypeId) (cs : List Value) (B : Nat) : Prop := ∃ ts : List Tree, RepTL w (oldI w) ts cs ∧ TV P t ts ∧ (∀ x, x ∈ ts → x.isSc = true) ∧ tszs ts ≤ B
theorem tsz_mkTree {t : TypeId} {cs : List Tree} (h : TV P t cs) : tsz (mkTree P t cs) ≤ tszs cs := by
 unfold mkTree
 split
 ·simp [tsz]
 ·rename_i ha
  obtain ⟨x, rfl, hx⟩ := h.one (fun e => ha e)
  simp [tszs]
theorem tszs_range (g : Nat → Tree) (b : Nat → Nat) : ∀ n, (∀ i, i < n → tsz (g i) ≤ b i) → tszs ((List.range n).map g) ≤ ((List.range n).map b).sum
 | 0, _ => by simp [tszs]
 | n + 1, h => by
  rw [List.range_succ, List.map_append, List.map_append, tszs_append, List.sum_append]
  have := tszs_range g b n fun i hi => h i (by omega)
  have := h n (by omega)
  simp [tszs]
  omega
theorem readB_slice {t e : TypeId} {a : Addr} {len cap : Nat} {b : Nat → Nat} (ht : P.underlying t = some (.slice e)) (hc1 : 1 ≤ P.cellsOf e) (hcap : len ≤ cap) (hm : len ≤ maxLen) (hb : len * P.bytesOf e ≤ reachBytes)
  (hr : ∀ i, i < len → ∃ cs, w.cells? 0 (a.add (i * P.cellsOf e)) (P.cellsOf e) = some cs ∧ ReadB P w e cs (b i)) : ReadB P w t [.slice (some a) len cap] (((List.range len).map b).sum + 1) := by
 have hch : ∃ f : Nat → List Tree, ∀ i, i < len → ∃ cs, w.cells? 0 (a.add (i * P.cellsOf e)) (P.cellsOf e) = some cs ∧ RepTL w (oldI w) (f i) cs ∧ TV P e (f i) ∧ (∀ x, x ∈ f i → x.isSc = true) ∧ tszs (f i) ≤ b i := by
  refine ⟨fun i => if h : i < len then (hr i h).choose_spec.2.choose else [], fun i hi => ?_⟩
  simp only [dif_pos hi]
  exact ⟨_, (hr i hi).choose_spec.1, (hr i hi).choose_spec.2.choose_spec⟩
 obtain ⟨f, hf⟩ := hch
 have hel : ∀ (i : Nat) x, ((List.range len).map fun i => mkTree P e (f i))[i]? = some x → i < len ∧ x = mkTree P e (f i) := by
  intro i x hx
  rw [List.getElem?_map] at hx
  rcases Nat.lt_or_ge i len with hi | hi
  ·simp [hi] at hx; exact ⟨hi, hx.symm⟩
  ·simp [List.getElem?_range, hi] at hx
 have hlen : ((List.range len).map fun i => mkTree P e (f i)).length = len := by simp
 have hwt : ∀ x, x ∈ ((List.range len).map fun i => mkTree P e (f i)) → WT P e x := by
  intro x hx
  obtain ⟨i, hi, rfl⟩ := List.mem_map.1 hx
  obtain ⟨cs, _, _, h3, h4, _⟩ := hf i (by simpa using hi)
  exact mkTree_WT h3 h4
 refine ⟨[.slc ((List.range len).map fun i => mkTree P e (f i))], RepTL.one ?_, .slc t e _ ht (by rw [hlen]; exact hb) (by rw [hlen]; exact hm) (fun x hx => ⟨(hwt x hx).1, (hwt x hx).2.1⟩) (fun x hx => (hwt x hx).2.2), fun x hx => by simp at hx; subst hx; rfl, ?_⟩
 ·rcases Nat.eq_zero_or_pos len with h0 | hpos
  ·subst h0; exact .slc0 (some a) cap
  ·obtain ⟨b, o, s⟩ := a
   have hsp : s = none := by
    obtain ⟨cs, h1, h2, _⟩ := hf 0 hpos
    obtain ⟨k1, k2⟩ := cells_some h1
    have := k2 0 (by omega)
    rw [show ((⟨b, o, s⟩ : Addr).add (0 * P.cellsOf e)).add 0 = ⟨b, o, s⟩ by simp [Addr.add], List.getElem?_eq_getElem (by omega)] at this
    exact (cell_lt this).2
   subst hsp
   have hcells : ∀ (i j : Nat) x y, ((List.range len).map fun i => mkTree P e (f i))[i]? = some x → x.cells[j]? = some y → ∃ v, w.cell? ⟨b, o + i * P.cellsOf e + j, none⟩ = some v ∧ RepT w (oldI w) y v := by
    intro i j x y hx hy
    obtain ⟨hi, rfl⟩ := hel i x hx
    obtain ⟨cs, h1, h2, h3, h4, _⟩ := hf i hi
    obtain ⟨k1, k2⟩ := cells_some h1
    rw [mkTree_cells h3] at hy
    have hj : j < cs.length := by have := (List.getElem?_eq_some_iff.1 hy).1; have := h2.1; omega
    have := k2 j (by omega)
    rw [Addr.add_none, Addr.add_none, List.getElem?_eq_getElem hj] at this
    exact ⟨_, this, h2.2 j y _ hy (by simp)⟩
   have hlt : oldI w b := by
    obtain ⟨cs, h1, h2, _⟩ := hf 0 hpos
    obtain ⟨k1, k2⟩ := cells_some h1
    have := k2 0 (by omega)
    rw [Addr.add_none, Addr.add_none, List.getElem?_eq_getElem (by omega)] at this
    exact (cell_lt this).1
   have := RepT.slc (w := w) (I := oldI w) ((List.range len).map fun i => mkTree P e (f i)) b o cap (P.cellsOf e) (fun i j => (w.cell? ⟨b, o + i * P.cellsOf e + j, none⟩).getD undef) hlt (by rw [hlen]; exact hcap)
    (fun i x hx => by
     obtain ⟨hi, rfl⟩ := hel i x hx
     obtain ⟨cs, h1, h2, h3, h4, _⟩ := hf i hi
     rw [mkTree_cells h3]
     have := h2.1; have := (cells_some h1).1; omega)
    (fun x hx => (hwt x hx).1)
    (fun i j x y hx hy => by obtain ⟨v, hv, _⟩ := hcells i j x y hx hy; rw [hv]; rfl)
    (fun i j x y hx hy => by obtain ⟨v, hv, hr⟩ := hcells i j x y hx hy; rw [hv]; exact hr)
   rw [hlen] at this
   exact this
 ·simp only [tszs, tsz, Nat.add_zero]
  have := tszs_range (fun i => mkTree P e (f i)) b len fun i hi => by
   obtain ⟨cs, h1, h2, h3, h4, h5⟩ := hf i hi
   exact Nat.le_trans (tsz_mkTree h3) h5
  omega
theorem readB_parts (total : Nat) : ∀ (fs : List Field) (bs : List Nat) (off : Nat) (cs : List Value), bs.length = fs.length → cs.length = total → tiles P L total off fs = true → off ≤ total →
  (∀ (i : Nat) f b, fs[i]? = some f → bs[i]? = some b → f.type ∈ L → ReadB P w f.type ((cs.drop f.offset).take (P.cellsOf f.type)) b) →
  ∃ ts : List Tree, RepTL w (oldI w) ts (cs.drop off) ∧ (∀ x, x ∈ ts → x.isSc = true) ∧ (∀ f, f ∈ fs → off ≤ f.offset ∧ TV P f.type ((ts.drop (f.offset - off)).take (P.cellsOf f.type))) ∧ tszs ts ≤ bs.sum
 | [], bs, off, cs, hbl, hl, ht, hle, _ => by
  simp only [tiles] at ht
  have := Nat.eq_of_beq_eq_true ht
  refine ⟨[], ?_, fun x h => by simp at h, fun f h => by simp at h, by simp [tszs]⟩
  rw [List.drop_eq_nil_of_le (by omega)]
  exact RepTL.nil'
 | f :: fs, [], _, _, hbl, _, _, _, _ => by simp at hbl
 | f :: fs, b :: bs, off, cs, hbl, hl, ht, hle, hr => by
  simp only [tiles, Bool.and_eq_true] at ht
  obtain ⟨h1, h2, h3⟩ := ht
  have h2 := Nat.eq_of_beq_eq_true h2
  have hle2 : ∀ (fs : List Field) (o : Nat), tiles P L total o fs = true → o ≤ total := by
   intro fs
   induction fs with
   | nil => intro o h; simp only [tiles] at h; have := Nat.eq_of_beq_eq_true h; omega
   | cons g gs ih =>
    intro o h
    simp only [tiles, Bool.and_eq_true] at h
    have := ih _ h.2.2
    omega
  have hb := hle2 fs _ h3
  obtain ⟨t1, k1, k2, k3, k4⟩ := hr 0 f b rfl rfl ((memN_iff _ _).1 h1)
  obtain ⟨t2, m1, m2, m3, m4⟩ := readB_parts total fs bs (off + P.cellsOf f.type) cs (by simpa using hbl) hl h3 hb fun i g b hg hbb hgL => hr (i + 1) g b (by simpa using hg) (by simpa using hbb) hgL
  have hl1 : t1.length = P.cellsOf f.type := by
   have := k1.1
   rw [List.length_take, List.length_drop] at this
   omega
  refine ⟨t1 ++ t2, ?_, fun x hx => ?_, fun g hg => ?_, ?_⟩
  ·have hsplit : cs.drop off = (cs.drop f.offset).take (P.cellsOf f.type) ++ cs.drop (off + P.cellsOf f.type) := by
    rw [h2, ← List.drop_drop, List.take_append_drop]
   rw [hsplit]
   exact k1.append m1
  ·rcases List.mem_append.1 hx with h | h
   ·exact k3 x h
   ·exact m2 x h
  ·rcases List.mem_cons.1 hg with e | hg
   ·subst e
    refine ⟨by omega, ?_⟩
    rw [h2, Nat.sub_self, List.drop_zero, ← hl1, List.take_left]
    exact k2
   ·obtain ⟨p1, p2⟩ := m3 g hg
    refine ⟨by omega, ?_⟩
    rw [show g.offset - off = t1.length + (g.offset - (off + P.cellsOf f.type)) by omega, List.drop_append]
    rw [List.drop_eq_nil_of_le (by omega), List.nil_append, show t1.length + (g.offset - (off + P.cellsOf f.type)) - t1.length = g.offset - (off + P.cellsOf f.type) by omega]
    exact p2
  ·rw [tszs_append, List.sum_cons]; omega
theorem bulk_pos (d : DataW H) : 1 ≤ Rows.uptoBulk d := by
 cases d with
 | lit l => cases l <;> simp [Rows.uptoBulk]
 | nil => simp [Rows.uptoBulk]
 | ptr d => simp [Rows.uptoBulk]
 | slice elems spare => simp [Rows.uptoBulk]
 | agg parts => simp [Rows.uptoBulk]
 | iface t d => simp [Rows.uptoBulk]
 | map entries => simp [Rows.uptoBulk]
 | held h => simp [Rows.uptoBulk]
theorem bulkAll_sum : ∀ l : List (DataW H), Rows.uptoBulkAll l = (l.map Rows.uptoBulk).sum
 | [] => rfl
 | d :: r => by simp [Rows.uptoBulkAll, bulkAll_sum r]
theorem trod_readB (hk : kidsB P L = true) (hna : ∀ t, t ∈ L → ∀ n e, P.underlying t ≠ some (.array n e)) : ∀ (fuel : Nat) (t : TypeId) (cs : List Value) (d : DataW H) (ps : List MemPlace), t ∈ L → DataW.trod enc P w 0 sp held fuel t cs = some (d, ps) →
  (d.weights P t).all (· ≤ reachBytes) = true → ReadB P w t cs (Rows.uptoBulk d)
 | 0, t, cs, d, ps, _, h, _ => by simp [DataW.trod] at h
 | fuel + 1, t, cs, d, ps, ht, h, hw => by
  have hkt := kidsB_spec hk ht
  unfold kidsOk at hkt
  have hdp := bulk_pos d
  have one : ∀ {x : Tree} {v : Value}, RepT w (oldI w) x v → TV P t [x] → x.isSc = true → tsz x ≤ Rows.uptoBulk d → ReadB P w t [v] (Rows.uptoBulk d) := fun h1 h2 h3 h4 => ⟨[_], RepTL.one h1, h2, fun y hy => by simp at hy; subst hy; exact h3, by simpa [tszs] using h4⟩
  split at hkt
  ·rename_i hu
   obtain ⟨b, rfl⟩ := trod_bool hu h
   exact one (.bool b) (.bool t b hu) rfl (by simpa [tsz] using hdp)
  ·rename_i k hu
   obtain ⟨n, rfl, hn⟩ := trod_int hu h
   exact one (.int k n) (.int t k n hu hn) rfl (by simpa [tsz] using hdp)
  ·rename_i hu
   obtain ⟨s, rfl, rfl⟩ := trod_str hu h
   have hs := RepT.str (w := w) (I := oldI w) s.data.toList
   refine one (by simpa using hs) (.str t _ hu ?_) rfl (by simp [tsz, Rows.uptoBulk])
   simp only [DataW.weights, List.all_cons, List.all_nil, Bool.and_true, decide_eq_true_eq] at hw
   exact hw
  ·rename_i e hu
   simp only [Bool.and_eq_true] at hkt
   rcases trod_slice hu h with rfl | ⟨a, len, cap, elems, rest, rfl, h1, h2, h3, rfl, h4⟩
   ·exact one (.slc0 none 0) (.slc t e [] hu (by simp) (by simp) (fun x hx => by simp at hx) (fun x hx => by simp at hx)) rfl (by simpa [tsz, tszs] using hdp)
   ·simp only [DataW.weights, hu, List.all_cons, Bool.and_eq_true, decide_eq_true_eq] at hw
    obtain ⟨hw1, hw2⟩ := hw
    obtain ⟨hw2, _⟩ := all_app hw2
    have hs := readB_slice (b := fun i => ((elems[i]?).map fun x => Rows.uptoBulk x.1).getD 0) hu (Nat.le_of_ble_eq_true hkt.2) h1 (by omega) (by
     refine Nat.le_trans (Nat.mul_le_mul_right _ ?_) hw1
     simp [h3]) fun i hi => (by
     obtain ⟨c, x, hc, hx, hx2⟩ := h4 i hi
     rw [hx]
     exact ⟨c, hc, trod_readB hk hna fuel e c x.1 x.2 ((memN_iff _ _).1 hkt.1) hx2 (weightsAll_get hw2 (by rw [List.getElem?_map, hx]; rfl))⟩)
    obtain ⟨ts, q1, q2, q3, q4⟩ := hs
    refine ⟨ts, q1, q2, q3, Nat.le_trans q4 ?_⟩
    simp only [Rows.uptoBulk, bulkAll_sum, List.map_map]
    have e1 : (List.range len).map (fun i => ((elems[i]?).map fun x => Rows.uptoBulk x.1).getD 0) = elems.map (fun x => Rows.uptoBulk x.1) := by
     apply List.ext_getElem
     ·simp [h3]
     ·intro i hi1 hi2
      simp at hi1 hi2
      simp [hi2]
    rw [e1]
    have e2 : List.map (Rows.uptoBulk ∘ fun x => x.1) elems = elems.map (fun x : DataW H × List MemPlace => Rows.uptoBulk x.1) := rfl
    rw [e2]
    omega
  ·rename_i fs hu
   obtain ⟨hl, xs, rfl, hx1, hx2⟩ := trod_struct hu h
   simp only [DataW.weights, hu] at hw
   obtain ⟨ts, k1, k2, k3, k4⟩ := readB_parts (P := P) (w := w) (L := L) (P.cellsOf t) fs.toList (xs.map fun x => Rows.uptoBulk x.1) 0 cs (by simpa using hx1) hl hkt (Nat.zero_le _) fun i f b hf hb hfL => by
    obtain ⟨x, e1, e2⟩ := hx2 i _ hf
    rw [List.getElem?_map, e1] at hb
    simp only [Option.map_some, Option.some.injEq] at hb
    subst hb
    exact trod_readB hk hna fuel _ _ x.1 x.2 hfL e2 (weightsEach_get (i := i) hw (by rw [List.getElem?_map, hf]; rfl) (by rw [List.getElem?_map, e1]; rfl))
   rw [List.drop_zero] at k1
   refine ⟨ts, k1, .struct t fs ts hu (by rw [← hl]; exact k1.1.symm) (fun f hf => ?_), k2, ?_⟩
   ·have := (k3 f hf).2
    rwa [Nat.sub_zero] at this
   ·simp only [Rows.uptoBulk, bulkAll_sum, List.map_map]
    have e2 : List.map (Rows.uptoBulk ∘ fun x => x.1) xs = xs.map (fun x : DataW H × List MemPlace => Rows.uptoBulk x.1) := rfl
    rw [e2]
    omega
  ·rename_i n e hu
   exact absurd hu (hna t ht n e)
  ·cases hkt
theorem arg_readB (hk : kidsB P L = true) (hna : ∀ t, t ∈ L → ∀ n e, P.underlying t ≠ some (.array n e)) {t : TypeId} {v : Value} {d : DataW H} {ps : List MemPlace} {base : Nat} (ht : t ∈ L) (hv : Value.okWide P w .any base t v) (h : DataW.Trod enc P w 0 sp held t v d ps) (hw : (d.weights P t).all (· ≤ reachBytes) = true) :
  ∃ x, RepT w (oldI w) x v ∧ WT P t x ∧ tsz x ≤ Rows.uptoBulk d := by
 obtain ⟨fuel, h⟩ := h
 obtain ⟨ts, h1, h2, h3, h4⟩ := trod_readB hk hna fuel t _ d ps ht h hw
 refine ⟨mkTree P t ts, ?_, mkTree_WT h2 h3, Nat.le_trans (tsz_mkTree h2) h4⟩
 unfold mkTree
 split
 ·rename_i ha
  unfold Value.okWide at hv
  unfold tyAgg at ha
  have : ∃ cs, v = .agg cs := by
   split at ha
   ·rename_i hu; rw [hu] at hv; obtain ⟨cs, rfl, _⟩ := hv; exact ⟨cs, rfl⟩
   ·rename_i hu; rw [hu] at hv; obtain ⟨cs, rfl, _⟩ := hv; exact ⟨cs, rfl⟩
   ·cases ha
   ·cases ha
  obtain ⟨cs, rfl⟩ := this
  exact .agg ts cs (by simpa [Value.cells] using h1.1) h3 fun i x u hx hu => h1.2 i x u hx (by simpa [Value.cells] using hu)
 ·rename_i ha
  obtain ⟨x, rfl, hx⟩ := h2.one (fun e => ha e)
  have hl := h1.1
  simp only [List.headD_cons]
  cases v with
  | agg cs =>
   exfalso
   unfold Value.okWide at hv
   unfold tyAgg at ha
   cases hu : P.underlying t with
   | none => rw [hu] at hv; simp [Cell.okWide, Cell.ok, hu] at hv
   | some dd => cases dd <;> simp [hu, Cell.okWide, Cell.ok] at hv ha
  | _ => exact h1.2 0 x _ rfl (by simp [Value.cells])
end
end Go.Proofs.Cw.Si
end

/-
  SIMPLE: a law's arguments are terms, lists of types, numbers.
-/
section
namespace Go.Proofs.Cw.Si
open Go.Proofs
theorem types : Types Tryd.prog 27 25 24 22 3 9 where
 uL := ⟨_, _, _, _, Tryd.underlying27, by kernel_rfl, by kernel_rfl, by kernel_rfl, by kernel_rfl, by kernel_rfl, by kernel_rfl, by kernel_rfl, by kernel_rfl⟩
 uLs := by kernel_rfl
 uT := ⟨_, _, Tryd.underlying24, by kernel_rfl, by kernel_rfl, by kernel_rfl, by kernel_rfl⟩
 uTs := by kernel_rfl
 uI := by kernel_rfl
 uS := by kernel_rfl
 cL := by kernel_rfl
 cLs := by kernel_rfl
 cT := by kernel_rfl
 cTs := by kernel_rfl
 cI := by kernel_rfl
 cS := by kernel_rfl
 aL := by kernel_rfl
 aT := by kernel_rfl
 aLs := by kernel_rfl
 aTs := by kernel_rfl
mutual
theorem tsz_T : ∀ t : Ty, sizeT t ≤ tsz (encT t)
 | .mk s l => by
  have := tszs_T l
  simp only [encT, tsz, tszs, sizeT]
  omega
theorem tszs_T : ∀ l : List Ty, sizeTs l ≤ tszs (encTs l)
 | [] => Nat.le_refl _
 | t :: r => by
  have h1 := tsz_T t
  have h2 := tszs_T r
  simp only [encTs, tszs, sizeTs]
  omega
end
mutual
theorem tsz_L : ∀ t : Lam, wL t ≤ tsz (encL t)
 | .mk o n (.mk s u) l => by
  have h1 := tszs_L l
  have h2 := tszs_T u
  simp only [encL, tsz, tszs, wL, sizeT]
  omega
theorem tszs_L : ∀ l : List Lam, wLs l ≤ tszs (encLs l)
 | [] => Nat.le_refl _
 | t :: r => by
  have h1 := tsz_L t
  have h2 := tszs_L r
  simp only [encLs, tszs, wLs]
  omega
end
theorem argL {x : Tree} (h : WT Tryd.prog 27 x) : ∃ t, x = encL t ∧ okL t ∧ wL t ≤ tsz x := by
 obtain ⟨t, rfl, ht⟩ := lam_of types h
 exact ⟨t, rfl, ht, tsz_L t⟩
end Go.Proofs.Cw.Si
end

/-
  THE ROW OF SimpleGeneral, out of its Pure, and its card: printed by program.
-/
section
set_option maxRecDepth 100000
set_option linter.unusedVariables false
namespace Go.Proofs.Cw.Si
open Go.Proofs Go.Proofs.YtominoddfkpflaaDoor Go.ChangeShapes Go.WideShapes Go.ChangeAt Go.RowKit
def SimpleGeneralPure : Prop := ∀ x0 : Tree, WT Tryd.prog 27 x0 → tsz x0 ≤ 1048576 → ∃ k, evP tab.env k 4 [x0] = some (.bool true)
theorem SimpleGeneralOwn : ownKnob Tryd.prog.godebug = none := by kernel_rfl
theorem SimpleGeneralLaidOut : laidOutB Tryd.prog = true := by kernel_rfl
theorem SimpleGeneralKids : kidsB Tryd.prog [27,25,24,22,3,9] = true := by kernel_rfl
theorem SimpleGeneralNoArr : ∀ t, t ∈ [27,25,24,22,3,9] → ∀ n e, Tryd.prog.underlying t ≠ some (.array n e) := by
 intro t ht n e h
 simp only [List.mem_cons, List.not_mem_nil, or_false] at ht
 rcases ht with rfl | rfl | rfl | rfl | rfl | rfl <;> first | (rw [Tryd.underlying27] at h; cases h) | (rw [Tryd.underlying25] at h; cases h) | (rw [Tryd.underlying24] at h; cases h) | (rw [Tryd.underlying22] at h; cases h) | (rw [Tryd.underlying3] at h; cases h) | (rw [Tryd.underlying9] at h; cases h)
theorem SimpleGeneralMixed : Tryd.prog.follows .mixedOrders = true := by kernel_rfl
noncomputable def SimpleGeneralWorld (os : Os) : World :=
 { World.holding Tryd.prog os ⟨#[], #[], []⟩ with heap := ((((World.holding Tryd.prog os ⟨#[], #[], []⟩).heap.modify 0 fun
   | .cells _ t frozen => .cells #[.int .u64 1, .int .u64 10, .int .u64 100, .int .u64 1000, .int .u64 10000, .int .u64 100000, .int .u64 1000000, .int .u64 10000000, .int .u64 100000000, .int .u64 1000000000, .int .u64 10000000000, .int .u64 100000000000, .int .u64 1000000000000, .int .u64 10000000000000, .int .u64 100000000000000, .int .u64 1000000000000000, .int .u64 10000000000000000, .int .u64 100000000000000000, .int .u64 1000000000000000000, .int .u64 10000000000000000000] t frozen
   | o => o).modify 1 fun
   | .cells _ t frozen => .cells #[.int .u8 0, .int .u8 1, .int .u8 28, .int .u8 2, .int .u8 29, .int .u8 14, .int .u8 24, .int .u8 3, .int .u8 30, .int .u8 22, .int .u8 20, .int .u8 15, .int .u8 25, .int .u8 17, .int .u8 4, .int .u8 8, .int .u8 31, .int .u8 27, .int .u8 13, .int .u8 23, .int .u8 21, .int .u8 19, .int .u8 16, .int .u8 7, .int .u8 26, .int .u8 12, .int .u8 18, .int .u8 6, .int .u8 11, .int .u8 5, .int .u8 10, .int .u8 9] t frozen
   | o => o).modify 2 fun
   | .cells _ t frozen => .cells #[.int .u8 0, .int .u8 1, .int .u8 56, .int .u8 2, .int .u8 57, .int .u8 49, .int .u8 28, .int .u8 3, .int .u8 61, .int .u8 58, .int .u8 42, .int .u8 50, .int .u8 38, .int .u8 29, .int .u8 17, .int .u8 4, .int .u8 62, .int .u8 47, .int .u8 59, .int .u8 36, .int .u8 45, .int .u8 43, .int .u8 51, .int .u8 22, .int .u8 53, .int .u8 39, .int .u8 33, .int .u8 30, .int .u8 24, .int .u8 18, .int .u8 12, .int .u8 5, .int .u8 63, .int .u8 55, .int .u8 48, .int .u8 27, .int .u8 60, .int .u8 41, .int .u8 37, .int .u8 16, .int .u8 46, .int .u8 35, .int .u8 44, .int .u8 21, .int .u8 52, .int .u8 32, .int .u8 23, .int .u8 11, .int .u8 54, .int .u8 26, .int .u8 40, .int .u8 15, .int .u8 34, .int .u8 20, .int .u8 31, .int .u8 10, .int .u8 25, .int .u8 14, .int .u8 19, .int .u8 9, .int .u8 13, .int .u8 8, .int .u8 7, .int .u8 6] t frozen
   | o => o) }
theorem SimpleGeneralMet (os : Os) : laidMet Tryd.prog Rows.simpleGeneralUptoRow.laid ((SimpleGeneralWorld os).forCall (fun _ _ => 0) ⟨#[], #[.agg #[.int .i64 0, .int .i64 0, .string ⟨#[]⟩, .slice none 0 0, .slice none 0 0]], []⟩).memory :=
 laidMet_of_run' 8 (by kernel_rfl) (by kernel_rfl)
theorem SimpleGeneralReads (os : Os) {H : Type} (enc : TypeId × Value → H) : DataW.whole enc Tryd.prog ((SimpleGeneralWorld os).forCall (fun _ _ => 0) ⟨#[], #[.agg #[.int .i64 0, .int .i64 0, .string ⟨#[]⟩, .slice none 0 0, .slice none 0 0]], []⟩).memory Tryd.f4.params.toList Rows.simpleGeneralSpec.vars false (#[.agg #[.int .i64 0, .int .i64 0, .string ⟨#[]⟩, .slice none 0 0, .slice none 0 0]] : Array Value).toList 8 = some ([.agg [.lit (.int .i64 0), .lit (.int .i64 0), .agg [.lit (.string []), .nil], .nil]], [], []) := by
 kernel_rfl
theorem SimpleGeneralLifted (pure : SimpleGeneralPure) (os : Os) (started : os.Started) (H : Type) (enc : TypeId × Value → H) (F : Stop.Interp) :
  ReturnsInHanded {} Tryd.checked os 4 .any ((Rows.OpenSpec.upto Rows.simpleGeneralSpec).preRow enc Tryd.prog Tryd.f4 Rows.simpleGeneralUptoRow.domain false Rows.simpleGeneralUptoRow.laid) (((Rows.OpenSpec.upto Rows.simpleGeneralSpec).at F).post enc Tryd.prog Tryd.f4 false true false false) := by
 refine returnsInHanded_of_row (C := Tryd.checked) (s := (Rows.OpenSpec.upto Rows.simpleGeneralSpec)) SimpleGeneralOwn started (by kernel_rfl) Tryd.func4
  (witness_row_at (enc := enc) (C := Tryd.checked) false (SimpleGeneralWorld os) #[.agg #[.int .i64 0, .int .i64 0, .string ⟨#[]⟩, .slice none 0 0, .slice none 0 0]] rfl (by kernel_rfl) (by kernel_rfl) (by kernel_rfl)
   (OpenSpec.preRow_of_cond 8 (SimpleGeneralReads os enc) (by kernel_rfl) (fun k hk => by cases hk; kernel_rfl) (by kernel_rfl) (SimpleGeneralMet os))) ?_
 intro W base args ds gs before hval0 hW hcnd hkk0 hsz0 hL hsh _
 have hkk := hkk0 _ rfl
 have hsz : (DataW.weightsEach Tryd.prog (Tryd.f4.params.toList ++ Rows.simpleGeneralSpec.plain.varTypes Tryd.prog) (ds ++ gs)).all (· ≤ reachBytes) = true := hsz0
 have hval : ∀ (j : Nat) t v, Tryd.f4.params[j]? = some t → args[j]? = some v → Value.okWide Tryd.prog W .any base t v := hval0
 have hW' := hW
 obtain ⟨p, q, hA0, hV, rfl, hfz, hnd⟩ := hW
 have hA : DataW.TrodAll enc Tryd.prog W 0 (fun _ => true) true Tryd.f4.params.toList args.toList ds p := hA0
 rw [Tryd.params4] at hA hval hsz
 obtain ⟨v0, vs0, d0, ds0, p0, q0, hargs, rfl, rfl, h0, r0⟩ := trodAll_cons hA
 obtain ⟨rfl, rfl, rfl⟩ := trodAll_nil r0
 obtain rfl : args = #[v0] := by cases args; simp_all
 obtain ⟨rfl, rfl⟩ := trodVars_none hV
 obtain ⟨x0, t0, w0, b0⟩ := arg_readB (L := [27,25,24,22,3,9]) SimpleGeneralKids SimpleGeneralNoArr (t := 27) (by decide) (hval 0 27 v0 rfl rfl) h0 (weightsEach_get (i := 0) hsz rfl rfl)
 have lt0 : ∀ x ∈ p0, x.block < W.heap.size := by obtain ⟨m, hm⟩ := h0; exact DataW.trod_lt m _ _ _ hm
 have hbk : tsz x0 ≤ 1048576 := by
  have hq := of_decide_eq_true hkk
  simp only [List.append_nil, Rows.uptoBulkAll] at hq
  omega
 obtain ⟨k, hk⟩ := pure x0 w0 hbk
 refine (law_calls (Tab.envOk tabOk) SimpleGeneralMixed hk (vals := #[v0]) (RepTL.cons t0 RepTL.nil')).mono fun e W' ⟨he, bel⟩ => ?_
 subst he
 exact ⟨_, rfl, _, _, _, [], _, [], hW', trodAll_mk1 (shut_bool Tryd.underlying4 _), (trodAll_cons_mk (Below.trod SimpleGeneralLaidOut (by kernel_rfl) (of_decide_eq_true (by kernel_rfl)) h0 bel lt0) trodAll_mk0), rfl, bel.frame _, fun h => by cases h⟩
theorem SimpleGeneralRow (pure : SimpleGeneralPure) : Rows.SimpleGeneralUptoSaid :=
 OpenClaim.holds_of_cond 4 Tryd.f4 rfl rfl rfl rfl rfl rfl rfl ⟨rfl, rfl, rfl, rfl, rfl⟩ rfl rfl rfl rfl rfl (by kernel_rfl) Tryd.func4 (by kernel_rfl)
  (of_decide_eq_true (by kernel_rfl)) (by unfold Func.isWrapper; first | (rw [if_pos (by decide +kernel)]; kernel_rfl) | (rw [if_neg (by decide +kernel)]; exact ⟨rfl, rfl⟩))
  (fun os started H enc _ F => by rw [OpenClaim.pre_eq_preRow]; exact SimpleGeneralLifted pure os started H enc F)
theorem SimpleGeneralPlain (f : FuncId) (fn : Func) (hf : Tryd.pinned.checked.prog.funcNamed "tenet/tenetlaw25.SimpleGeneral" = some f) (hfn : Tryd.pinned.checked.prog.funcs[f]? = some fn) :
  false = Tryd.pinned.checked.prog.looks [] ∧ ∀ (j : Nat) t, fn.params[j]? = some t → Tryd.pinned.checked.prog.wantsStandIn t = false := by
 obtain rfl : f = 4 := Option.some.inj ((show Tryd.prog.funcNamed "tenet/tenetlaw25.SimpleGeneral" = some 4 by kernel_rfl).symm.trans hf) |>.symm
 obtain rfl : fn = Tryd.f4 := (Option.some.inj (Tryd.func4.symm.trans hfn)).symm
 refine ⟨by kernel_rfl, fun j t ht => ?_⟩
 rw [Tryd.params4] at ht
 obtain rfl : t = 27 := by simpa using Array.mem_of_getElem? ht
 exact (show Tryd.prog.wantsStandIn 27 = false by kernel_rfl)
theorem SimpleGeneralCard (pure : SimpleGeneralPure) : Rows.SimpleGeneralUptoCardSaid :=
 Claim7.holds_tied_plain_at .later [] _ _ _ _ (SimpleGeneralRow pure) (fun _ h => by cases h) (by kernel_rfl) (fun _ h => by cases h) simpleGeneralUpto_row_tie rfl ⟨rfl, rfl⟩ (by kernel_rfl) rfl SimpleGeneralPlain (by kernel_rfl)
end Go.Proofs.Cw.Si
end
