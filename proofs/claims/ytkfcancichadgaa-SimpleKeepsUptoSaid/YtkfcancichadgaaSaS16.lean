/-
  SIMPLE, specs 16: the type of a node whose parts have types.
-/
import Derived.Test.YtkfcancichadgaaSaS13
set_option linter.unusedSimpArgs false
set_option linter.unusedVariables false
namespace Go.Proofs.Aw.Sa
open Go.Proofs

theorem encT_eta (t : Ty) : encT t = .agg [.str t.name, .slc (encTs t.parts)] := by cases t; rfl
theorem lkT0 (y : Ty) (d : Tree) : Tree.toStr (List.headD (Tree.cs (encT y)) d) = y.name := by rw [encT_eta]; rfl
theorem lkT1 (y : Ty) (d : Tree) : Tree.elems (List.headD (List.tail (Tree.cs (encT y))) d) = encTs y.parts := by rw [encT_eta]; rfl

theorem s82 (a b : Ty) : Ev E 1 82 [encT a, encT b] (encT (tTo a b)) :=
  Ev.mk fun n _ => by rw [encT_eta a, encT_eta b, e82]; simp only [tTo, encT, encTs, encT_eta a, encT_eta b, sTo]
theorem s83 : Ev E 1 83 [] (encT tNat) := Ev.mk fun n _ => by rw [e83]; rfl
theorem s72 : Ev E 1 72 [] (encT tNat) := Ev.mk fun n _ => by rw [e72]; rfl
theorem s71 (s : List UInt8) (a b : Ty) : Ev E 1 71 [.str s, encT a, encT b] (encT (.mk s [a, b])) :=
  Ev.mk fun n _ => by rw [encT_eta a, encT_eta b, e71]; simp only [encT, encTs, encT_eta a, encT_eta b]

def outR (r : Option Ty) (j : Ty) : Tree :=
  match r with
  | some u => .tup [encT u, .bool true]
  | none => .tup [encT j, .bool false]

theorem encTz : encT tyZero = .agg [.str [], .slc []] := rfl

theorem tlen0 {l : List Ty} (h : (l.length : Int) = 0) : l = [] := by
  cases l with
  | nil => rfl
  | cons a l => simp at h; omega
theorem tlen1 {l : List Ty} (h : (l.length : Int) = 1) : ∃ x, l = [x] := by
  rcases l with _ | ⟨x, _ | ⟨a, l⟩⟩
  · simp at h
  · exact ⟨x, rfl⟩
  · simp at h; omega
theorem tlen2 {l : List Ty} (h : (l.length : Int) = 2) : ∃ x y, l = [x, y] := by
  rcases l with _ | ⟨x, _ | ⟨a, _ | ⟨b, l⟩⟩⟩
  · simp at h
  · simp at h
  · exact ⟨x, a, rfl⟩
  · simp at h; omega
theorem tlen3 {l : List Ty} (h : (l.length : Int) = 3) : ∃ x y z, l = [x, y, z] := by
  rcases l with _ | ⟨x, _ | ⟨a, _ | ⟨b, _ | ⟨c, l⟩⟩⟩⟩
  · simp at h
  · simp at h
  · simp at h
  · exact ⟨x, a, b, rfl⟩
  · simp at h; omega

theorem formed_two {y : Ty} (h : formed y = true) (hn : y.name = sTo ∨ y.name = sPair) : ∃ a b, y.parts = [a, b] ∧ formed a = true ∧ formed b = true := by
  cases y with
  | mk s l =>
  simp only [Ty.name] at hn
  have hne : s ≠ sNat := by rcases hn with rfl | rfl <;> decide
  unfold formed at h
  rw [if_neg hne, if_pos hn] at h
  simp only [Bool.and_eq_true, beq_iff_eq] at h
  obtain ⟨a, b, rfl⟩ := tlen2 (by omega : (l.length : Int) = 2)
  simp only [formedTs, Bool.and_eq_true] at h
  exact ⟨a, b, rfl, h.2.1, h.2.2.1⟩

theorem nthE (ctx : List Ty) (k : Nat) : nth (encTs ctx) k = (ctx[k]?).map encT := by rw [encTs_map, nth_map, nth_eq]

theorem fromEnd_some {ctx : List Ty} {n : Int} (h0 : 0 ≤ n) (h : n < ctx.length) : ∃ u, ctx[(ctx.length - 1 - n.toNat)]? = some u ∧ fromEnd ctx n = some u := by
  have hk : ctx.length - 1 - n.toNat < ctx.length := by omega
  refine ⟨ctx[ctx.length - 1 - n.toNat], List.getElem?_eq_getElem hk, ?_⟩
  unfold fromEnd
  rw [if_pos ⟨h0, h⟩, List.getElem?_eq_getElem hk]

theorem eqT_dec (a b : Ty) : eqT a b = decide (a = b) := by
  cases h : eqT a b with
  | true => rw [(eqT_iff a b).1 h]; simp
  | false =>
    have : ¬ a = b := fun e => by rw [(eqT_iff a b).2 e] at h; cases h
    simp [this]

theorem eqT_two {f : Ty} {a b : Ty} : eqT f (tTo a b) = decide (f = tTo a b) := eqT_dec _ _

/-- Types small enough. -/
def TsOk (ts : List Ty) : Prop := ∀ x, x ∈ ts → formed x = true ∧ sizeT x ≤ 10000000

/-- The rule, the program's. -/
theorem s62 (ctx : List Ty) (o m : Int) (t : Ty) (l : List Lam) (ts : List Ty) (hc : ctx.length ≤ 1000000) (hlen : (ts.length : Int) = partsN o) (hm : 0 ≤ m ∧ m ≤ 1000000) (hts : TsOk ts) :
    ∃ c j, Ev E c 62 [.slc (encTs ctx), encL (.mk o m t l), .slc (encTs ts)] (outR (ruleT ctx o m t ts) j) := by
  have start : ∀ n r, evQ E n 62 [.slc (encTs ctx), .agg [I o, I m, .str t.name, .slc (encTs t.parts), .slc (encLs l)], .slc (encTs ts)] = r → evQ E n 62 [.slc (encTs ctx), encL (.mk o m t l), .slc (encTs ts)] = r := fun n r h => by rw [encL_eta (.mk o m t l)]; exact h
  by_cases c1 : o = 1
  · subst c1
    refine ⟨5, tyZero, Ev.mk fun n hn => start n _ ?_⟩
    rw [e62]
    refine step_t rfl ?_
    rw [show ruleT ctx 1 m t ts = fromEnd ctx m from rfl]
    by_cases hlt : m < ctx.length
    · obtain ⟨u, hu, hf⟩ := fromEnd_some hm.1 hlt
      rw [lenT, hf, w64 (x := (ctx.length : Int) - 1) (by omega), w64 (x := (ctx.length : Int) - 1 - m) (by omega)]
      refine step_t (decide_eq_true hlt) (step_t (decide_eq_true (by omega)) (step_b (y := encT u) ?_ (step_t (okT_sh u) ?_)))
      · rw [show ((ctx.length : Int) - 1 - m).toNat = ctx.length - 1 - m.toNat by omega, nthE, hu]; rfl
      · rw [lookT]; rfl
    · have hf : fromEnd ctx m = none := by unfold fromEnd; rw [if_neg (fun q => hlt q.2)]
      rw [lenT, hf]
      exact step_f (decide_eq_false hlt) rfl
  have d1 : (o == 1) = false := by simp [c1]
  by_cases c2 : o = 2
  · subst c2
    obtain ⟨b, rfl⟩ := tlen1 hlen
    refine ⟨5, tyZero, Ev.mk fun n hn => start n _ ?_⟩
    have h82 := s82 t b n (by omega)
    rw [encT_eta t] at h82
    rw [e62]
    simp only [encTs]
    refine step_f rfl (step_t rfl (step_b (y := encT b) rfl (step_t (okT_sh b) ?_)))
    rw [lookT]
    refine step_b h82 (step_t (okT_sh _) ?_)
    rw [lookT]
    rfl
  have d2 : (o == 2) = false := by simp [c2]
  by_cases c3 : o = 3
  · subst c3
    obtain ⟨f, a, rfl⟩ := tlen2 hlen
    have hf := hts f (by simp)
    have ha := hts a (by simp)
    by_cases hn : f.name = sTo
    · obtain ⟨x, y, hp, _, _⟩ := formed_two hf.1 (.inl hn)
      have hsx : sizeT x ≤ 10000000 := by
        have := hf.2
        cases f with
        | mk s l => simp only [Ty.parts] at hp; subst hp; simp only [sizeT, sizeTs] at this; omega
      have h56 := s56 x a (by omega)
      rw [eqT_dec] at h56
      refine ⟨2 * sizeT x + 10, tyZero, Ev.mk fun n hn2 => start n _ ?_⟩
      rw [e62]
      simp only [encTs]
      refine step_f rfl (step_f rfl (step_t rfl (step_b (y := encT f) rfl (step_t (okT_sh f) ?_))))
      rw [lkT0]
      refine step_t (by rw [hn]; rfl) (step_b (y := encT f) rfl (step_t (okT_sh f) ?_))
      rw [lkT1, hp]
      simp only [encTs]
      refine step_b (y := encT x) rfl (step_t (okT_sh x) (step_b (y := encT a) rfl (step_t (okT_sh a) ?_)))
      rw [lookT, lookT]
      refine step_b (h56 n (by omega)) (step_t rfl ?_)
      rw [show ruleT ctx 3 m t [f, a] = (match f.parts with | [x, y] => if f.name = sTo ∧ x = a then some y else none | _ => none) from rfl, hp]
      simp only
      by_cases hxa : x = a
      · rw [if_pos ⟨hn, hxa⟩]
        refine step_t (decide_eq_true hxa) (step_b (y := encT f) rfl (step_t (okT_sh f) ?_))
        rw [lkT1, hp]
        simp only [encTs]
        refine step_b (y := encT y) rfl (step_t (okT_sh y) ?_)
        rw [lookT]
        rfl
      · rw [if_neg (fun q => hxa q.2)]
        exact step_f (decide_eq_false hxa) rfl
    · have hr : ruleT ctx 3 m t [f, a] = none := by
        show (match f.parts with | [x, y] => if f.name = sTo ∧ x = a then some y else none | _ => none) = none
        split
        · rw [if_neg (fun q => hn q.1)]
        · rfl
      refine ⟨10, tyZero, Ev.mk fun n hn2 => start n _ ?_⟩
      rw [e62, hr]
      simp only [encTs]
      refine step_f rfl (step_f rfl (step_t rfl (step_b (y := encT f) rfl (step_t (okT_sh f) ?_))))
      rw [lkT0]
      exact step_f (by simp; exact hn) rfl
  have d3 : (o == 3) = false := by simp [c3]
  by_cases c4 : o = 4
  · subst c4
    refine ⟨5, tyZero, Ev.mk fun n hn => start n _ ?_⟩
    rw [e62]
    refine step_f rfl (step_f rfl (step_f rfl (step_t rfl (step_b (s83 n (by omega)) (step_t (okT_sh _) ?_)))))
    rw [lookT]
    rfl
  have d4 : (o == 4) = false := by simp [c4]
  by_cases c5 : o = 5
  · subst c5
    obtain ⟨x, rfl⟩ := tlen1 hlen
    refine ⟨5, tNat, Ev.mk fun n hn => start n _ ?_⟩
    rw [e62]
    simp only [encTs]
    refine step_f rfl (step_f rfl (step_f rfl (step_f rfl (step_t rfl (step_b (s83 n (by omega)) (step_t (okT_sh _) (step_b (y := encT x) rfl (step_t (okT_sh x) ?_))))))))
    rw [lookT, lkT0]
    show some (Tree.tup [encT tNat, .bool (x.name == sNat)]) = some (outR (if x.name = sNat then some tNat else none) tNat)
    by_cases h : x.name = sNat
    · rw [if_pos h, h]; rfl
    · rw [if_neg h]
      have : (x.name == sNat) = false := by simp [h]
      rw [this]; rfl
  have d5 : (o == 5) = false := by simp [c5]
  by_cases c6 : o = 6
  · subst c6
    obtain ⟨x, f, a, rfl⟩ := tlen3 hlen
    have hf := hts f (by simp)
    have h56 := s56 f (tTo a a) (by have := hf.2; omega)
    rw [eqT_dec] at h56
    refine ⟨2 * sizeT f + 10, a, Ev.mk fun n hn => start n _ ?_⟩
    rw [e62]
    simp only [encTs]
    refine step_f rfl (step_f rfl (step_f rfl (step_f rfl (step_f rfl (step_t rfl (step_b (y := encT a) rfl (step_t (okT_sh a) (step_b (y := encT x) rfl (step_t (okT_sh x) ?_)))))))))
    rw [lkT0]
    rw [show ruleT ctx 6 m t [x, f, a] = (if x.name = sNat ∧ f = tTo a a then some a else none) from rfl]
    by_cases h : x.name = sNat
    · refine step_t (by rw [h]; rfl) (step_b (y := encT f) rfl (step_t (okT_sh f) (step_b (y := encT a) rfl (step_t (okT_sh a) (step_b (y := encT a) rfl (step_t (okT_sh a) ?_))))))
      rw [lookT, lookT]
      refine step_b (s82 a a n (by omega)) (step_t (okT_sh _) ?_)
      rw [lookT]
      refine step_b (h56 n (by omega)) (step_t rfl ?_)
      by_cases h2 : f = tTo a a
      · rw [if_pos ⟨h, h2⟩]
        simp only [toBool_bool, decide_eq_true h2]
        rfl
      · rw [if_neg (fun q => h2 q.2)]
        simp only [toBool_bool, decide_eq_false h2]
        rfl
    · rw [if_neg (fun q => h q.1)]
      refine step_f (by simp; exact h) ?_
      rw [lookT]
      rfl
  have d6 : (o == 6) = false := by simp [c6]
  by_cases c7 : o = 7
  · subst c7
    obtain ⟨a, b, rfl⟩ := tlen2 hlen
    refine ⟨5, tyZero, Ev.mk fun n hn => start n _ ?_⟩
    rw [e62]
    exact step_f rfl (step_f rfl (step_f rfl (step_f rfl (step_f rfl (step_f rfl (step_t rfl rfl))))))
  have d7 : (o == 7) = false := by simp [c7]
  by_cases c8 : o = 8
  · subst c8
    obtain ⟨p, rfl⟩ := tlen1 hlen
    have hp := hts p (by simp)
    refine ⟨5, tyZero, Ev.mk fun n hn => start n _ ?_⟩
    rw [e62]
    simp only [encTs]
    refine step_f rfl (step_f rfl (step_f rfl (step_f rfl (step_f rfl (step_f rfl (step_f rfl (step_t rfl (step_b (y := encT p) rfl (step_t (okT_sh p) ?_)))))))))
    rw [lkT0]
    rw [show ruleT ctx 8 m t [p] = (match p.parts with | [a, _] => if p.name = sPair then some a else none | _ => none) from rfl]
    by_cases h : p.name = sPair
    · obtain ⟨a, b, hab, _, _⟩ := formed_two hp.1 (.inr h)
      refine step_t (by rw [h]; rfl) (step_b (y := encT p) rfl (step_t (okT_sh p) (step_t rfl ?_)))
      rw [lkT1, hab]
      simp only [encTs]
      refine step_b (y := encT a) rfl (step_t (okT_sh a) ?_)
      rw [lookT, if_pos h]
      rfl
    · refine step_f (by simp; exact h) ?_
      have : (match p.parts with | [a, _] => if p.name = sPair then some a else none | _ => none) = none := by
        split
        · rw [if_neg h]
        · rfl
      rw [this]
      rfl
  have d8 : (o == 8) = false := by simp [c8]
  by_cases c9 : o = 9
  · subst c9
    obtain ⟨p, rfl⟩ := tlen1 hlen
    have hp := hts p (by simp)
    refine ⟨5, tyZero, Ev.mk fun n hn => start n _ ?_⟩
    rw [e62]
    simp only [encTs]
    refine step_f rfl (step_f rfl (step_f rfl (step_f rfl (step_f rfl (step_f rfl (step_f rfl (step_f rfl (step_t rfl (step_b (y := encT p) rfl (step_t (okT_sh p) ?_))))))))))
    rw [lkT0]
    rw [show ruleT ctx 9 m t [p] = (match p.parts with | [_, b] => if p.name = sPair then some b else none | _ => none) from rfl]
    by_cases h : p.name = sPair
    · obtain ⟨a, b, hab, _, _⟩ := formed_two hp.1 (.inr h)
      refine step_t (by rw [h]; rfl) (step_b (y := encT p) rfl (step_t (okT_sh p) (step_t rfl ?_)))
      rw [lkT1, hab]
      simp only [encTs]
      refine step_b (y := encT b) rfl (step_t (okT_sh b) ?_)
      rw [lookT, if_pos h]
      rfl
    · refine step_f (by simp; exact h) ?_
      have : (match p.parts with | [_, b] => if p.name = sPair then some b else none | _ => none) = none := by
        split
        · rw [if_neg h]
        · rfl
      rw [this]
      rfl
  exfalso
  unfold partsN at hlen
  rw [if_neg (by omega), if_neg (by omega), if_neg (by omega), if_neg (by omega)] at hlen
  omega

end Go.Proofs.Aw.Sa
