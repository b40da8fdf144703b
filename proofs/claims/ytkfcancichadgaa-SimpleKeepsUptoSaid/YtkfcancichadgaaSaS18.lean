/-
  SIMPLE, specs 18: the type of a term, the reference's: printed by gen18.py.
-/
import Derived.Test.YtkfcancichadgaaSaS17
set_option linter.unusedSimpArgs false
set_option linter.unusedVariables false
namespace Go.Proofs.Aw.Sa
open Go.Proofs

theorem s70 (p : List Nat) (i : Nat) (hp : p.length ≤ 1000000) : Ev E 1 70 [.slc (pathT p), I (i : Nat)] (.slc (pathT (p ++ [i]))) :=
  Ev.mk fun n _ => by
    rw [e70]
    refine step_t (pathT_first p) (step_t (by rw [pathT_len]; simp; omega) (step_t (by simp only [List.nil_append]; rw [pathT_len]; simp; omega) ?_))
    simp [pathT]

def outF (r : Ty ⊕ List Nat) (p0 : List Nat) : Tree :=
  match r with
  | .inl u => .tup [encT u, .slc [], .bool true]
  | .inr p => .tup [encT tyZero, .slc (pathT (p0 ++ p)), .bool false]

theorem outF_none (p0 : List Nat) : outF (toSum none) p0 = .tup [.agg [.str [], .slc []], .slc (pathT p0), .bool false] := by
  simp [toSum, outF, encTz]
theorem outF_some (u : Ty) (p0 : List Nat) : outF (toSum (some u)) p0 = .tup [encT u, .slc [], .bool true] := rfl

theorem condT (i : Int) (l : List Ty) (h0 : 0 ≤ i) (h : i < l.length) : (decide (0 ≤ i) && (decide (i < ((encTs l).length : Nat)) && Nat.beq (List.length [Sh.str, Sh.slc]) (List.length [Sh.str, Sh.slc]))) = true := by
  rw [lenT, decide_eq_true h0, decide_eq_true h]; rfl

/-- The rule behind the parts: 0b. -/
theorem endb (n q : Nat) (ctx : List Ty) (p0 : List Nat) (inn : List Ty) (o m : Int) (s : List UInt8) (u : List Ty) (l : List Lam) (ts : List Ty) (hc : ctx.length ≤ 1000000) (hlen : (ts.length : Int) = partsN o) (hm : 0 ≤ m ∧ m ≤ 1000000) (hts : TsOk ts) (hn : 60000000 ≤ n) :
    L50_0b n (q + 1) (encTs ctx) (pathT p0) (encTs inn) (l.length : Nat) o m s (encTs u) (encLs l) []  (encTs ts) = some (outF (toSum (ruleT ctx o m (.mk s u) ts)) p0) := by
  rw [show q + 1 = Nat.succ q from rfl, l50_0b]
  refine step_f (by rw [lenL]; simp) ?_
  by_cases c1 : o = 1
  · subst c1
    refine step_t rfl ?_
    rw [show ruleT ctx 1 m (.mk s u) ts = fromEnd ctx m from rfl]
    by_cases hlt : m < ctx.length
    · obtain ⟨w, hu, hf⟩ := fromEnd_some hm.1 hlt
      rw [lenT, hf, outF_some, w64 (x := (ctx.length : Int) - 1) (by omega), w64 (x := (ctx.length : Int) - 1 - m) (by omega)]
      refine step_t (decide_eq_true hlt) (step_t (decide_eq_true (by omega)) (step_b (y := encT w) ?_ (step_t (okT_sh w) ?_)))
      · rw [show ((ctx.length : Int) - 1 - m).toNat = ctx.length - 1 - m.toNat by omega, nthE, hu]; rfl
      · rw [lookT]
    · have hf : fromEnd ctx m = none := by unfold fromEnd; rw [if_neg (fun q => hlt q.2)]
      rw [lenT, hf, outF_none]
      exact step_f (decide_eq_false hlt) rfl
  have d1 : (o == 1) = false := by simp [c1]
  refine step_f d1 ?_
  by_cases c2 : o = 2
  · subst c2
    obtain ⟨b, rfl⟩ := tlen1 hlen
    have h71 := s71 sTo (.mk s u) b n (by omega)
    rw [encT] at h71
    rw [show ruleT ctx 2 m (.mk s u) [b] = some (tTo (.mk s u) b) from rfl, outF_some]
    refine step_t rfl (step_t (condT 0 [b] (by omega) (by simp)) (step_b (y := encT b) rfl (step_t (okT_sh b) ?_)))
    rw [lookT]
    refine step_b h71 (step_t (okT_sh _) ?_)
    rw [lookT]
    rfl
  have d2 : (o == 2) = false := by simp [c2]
  refine step_f d2 ?_
  by_cases c3 : o = 3
  · subst c3
    obtain ⟨f, a, rfl⟩ := tlen2 hlen
    have hf := hts f (by simp)
    have ha := hts a (by simp)
    have k0 := condT 0 [f, a] (by omega) (by simp)
    have k1 := condT 1 [f, a] (by omega) (by simp)
    refine step_t rfl (step_t k0 (step_b (y := encT f) rfl (step_t (okT_sh f) ?_)))
    rw [lkT0]
    by_cases hn2 : f.name = sTo
    · obtain ⟨x, y, hp, _, _⟩ := formed_two hf.1 (.inl hn2)
      have hsx : sizeT x ≤ 10000000 := by have := sizeT_two hp; have := hf.2; omega
      have h16 := s16 x a (by omega) n (by omega)
      rw [eqT_dec] at h16
      refine step_t (by rw [hn2]; rfl) (step_t k0 (step_b (y := encT f) rfl (step_t (okT_sh f) ?_)))
      rw [lkT1, hp]
      refine step_b (y := encT x) rfl (step_t (okT_sh x) (step_t k1 (step_b (y := encT a) rfl (step_t (okT_sh a) ?_))))
      rw [lookT, lookT]
      refine step_b h16 (step_t rfl ?_)
      rw [show ruleT ctx 3 m (.mk s u) [f, a] = (match f.parts with | [x, y] => if f.name = sTo ∧ x = a then some y else none | _ => none) from rfl, hp]
      simp only
      by_cases hxa : x = a
      · rw [if_pos ⟨hn2, hxa⟩, outF_some]
        refine step_t (decide_eq_true hxa) (step_t k0 (step_b (y := encT f) rfl (step_t (okT_sh f) ?_)))
        rw [lkT1, hp]
        refine step_b (y := encT y) rfl (step_t (okT_sh y) ?_)
        rw [lookT]
      · rw [if_neg (fun q => hxa q.2), outF_none]
        exact step_f (decide_eq_false hxa) rfl
    · have hr : ruleT ctx 3 m (.mk s u) [f, a] = none := by
        show (match f.parts with | [x, y] => if f.name = sTo ∧ x = a then some y else none | _ => none) = none
        split
        · rw [if_neg (fun q => hn2 q.1)]
        · rfl
      rw [hr, outF_none]
      exact step_f (by simp; exact hn2) rfl
  have d3 : (o == 3) = false := by simp [c3]
  refine step_f d3 ?_
  by_cases c4 : o = 4
  · subst c4
    rw [show ruleT ctx 4 m (.mk s u) ts = some tNat from rfl, outF_some]
    refine step_t rfl (step_b (s72 n (by omega)) (step_t (okT_sh _) ?_))
    rw [lookT]
  have d4 : (o == 4) = false := by simp [c4]
  refine step_f d4 ?_
  by_cases c5 : o = 5
  · subst c5
    obtain ⟨x, rfl⟩ := tlen1 hlen
    refine step_t rfl (step_t (condT 0 [x] (by omega) (by simp)) (step_b (y := encT x) rfl (step_t (okT_sh x) ?_)))
    rw [lkT0, show ruleT ctx 5 m (.mk s u) [x] = (if x.name = sNat then some tNat else none) from rfl]
    by_cases h : x.name = sNat
    · rw [if_pos h, outF_some]
      refine step_t (by rw [h]; rfl) (step_b (s72 n (by omega)) (step_t (okT_sh _) ?_))
      rw [lookT]
    · rw [if_neg h, outF_none]
      exact step_f (by simp; exact h) rfl
  have d5 : (o == 5) = false := by simp [c5]
  refine step_f d5 ?_
  by_cases c6 : o = 6
  · subst c6
    obtain ⟨x, f, a, rfl⟩ := tlen3 hlen
    have hf := hts f (by simp)
    have k0 := condT 0 [x, f, a] (by omega) (by simp)
    have k1 := condT 1 [x, f, a] (by omega) (by simp)
    have k2 := condT 2 [x, f, a] (by omega) (by simp)
    have h16 := s16 f (tTo a a) (by have := hf.2; omega) n (by have := hf.2; omega)
    rw [eqT_dec] at h16
    refine step_t rfl (step_t k0 (step_b (y := encT x) rfl (step_t (okT_sh x) ?_)))
    rw [lkT0, show ruleT ctx 6 m (.mk s u) [x, f, a] = (if x.name = sNat ∧ f = tTo a a then some a else none) from rfl]
    by_cases h : x.name = sNat
    · refine step_t (by rw [h]; rfl) (step_t k1 (step_b (y := encT f) rfl (step_t (okT_sh f) (step_t k2 (step_b (y := encT a) rfl (step_t (okT_sh a) (step_t k2 (step_b (y := encT a) rfl (step_t (okT_sh a) ?_)))))))))
      rw [lookT, lookT]
      refine step_b (s71 sTo a a n (by omega)) (step_t (okT_sh _) ?_)
      rw [lookT]
      refine step_b h16 (step_t rfl ?_)
      by_cases h2 : f = tTo a a
      · rw [if_pos ⟨h, h2⟩, outF_some]
        refine step_t (decide_eq_true h2) (step_t k2 (step_b (y := encT a) rfl (step_t (okT_sh a) ?_)))
        rw [lookT]
      · rw [if_neg (fun q => h2 q.2), outF_none]
        exact step_f (decide_eq_false h2) rfl
    · rw [if_neg (fun q => h q.1), outF_none]
      exact step_f (by simp; exact h) rfl
  have d6 : (o == 6) = false := by simp [c6]
  refine step_f d6 ?_
  by_cases c7 : o = 7
  · subst c7
    obtain ⟨a, b, rfl⟩ := tlen2 hlen
    have k0 := condT 0 [a, b] (by omega) (by simp)
    have k1 := condT 1 [a, b] (by omega) (by simp)
    rw [show ruleT ctx 7 m (.mk s u) [a, b] = some (tPair a b) from rfl, outF_some]
    refine step_t rfl (step_t k0 (step_b (y := encT a) rfl (step_t (okT_sh a) (step_t k1 (step_b (y := encT b) rfl (step_t (okT_sh b) ?_))))))
    rw [lookT, lookT]
    refine step_b (s71 sPair a b n (by omega)) (step_t (okT_sh _) ?_)
    rw [lookT]
    rfl
  have d7 : (o == 7) = false := by simp [c7]
  refine step_f d7 ?_
  by_cases c8 : o = 8
  · subst c8
    obtain ⟨p, rfl⟩ := tlen1 hlen
    have hp := hts p (by simp)
    have k0 := condT 0 [p] (by omega) (by simp)
    refine step_t rfl (step_t k0 (step_b (y := encT p) rfl (step_t (okT_sh p) ?_)))
    rw [lkT0, show ruleT ctx 8 m (.mk s u) [p] = (match p.parts with | [a, _] => if p.name = sPair then some a else none | _ => none) from rfl]
    by_cases h : p.name = sPair
    · obtain ⟨a, b, hab, _, _⟩ := formed_two hp.1 (.inr h)
      refine step_t (by rw [h]; rfl) (step_t k0 (step_b (y := encT p) rfl (step_t (okT_sh p) (step_t rfl ?_))))
      rw [lkT1, hab]
      refine step_b (y := encT a) rfl (step_t (okT_sh a) ?_)
      rw [lookT]
      simp only [if_pos h]
      rfl
    · refine step_f (by simp; exact h) ?_
      have : (match p.parts with | [a, _] => if p.name = sPair then some a else none | _ => none) = none := by
        split
        · rw [if_neg h]
        · rfl
      rw [this, outF_none]
  have d8 : (o == 8) = false := by simp [c8]
  refine step_f d8 ?_
  by_cases c9 : o = 9
  · subst c9
    obtain ⟨p, rfl⟩ := tlen1 hlen
    have hp := hts p (by simp)
    have k0 := condT 0 [p] (by omega) (by simp)
    refine step_t rfl (step_t k0 (step_b (y := encT p) rfl (step_t (okT_sh p) ?_)))
    rw [lkT0, show ruleT ctx 9 m (.mk s u) [p] = (match p.parts with | [_, b] => if p.name = sPair then some b else none | _ => none) from rfl]
    by_cases h : p.name = sPair
    · obtain ⟨a, b, hab, _, _⟩ := formed_two hp.1 (.inr h)
      refine step_t (by rw [h]; rfl) (step_t k0 (step_b (y := encT p) rfl (step_t (okT_sh p) (step_t rfl ?_))))
      rw [lkT1, hab]
      refine step_b (y := encT b) rfl (step_t (okT_sh b) ?_)
      rw [lookT]
      simp only [if_pos h]
      rfl
    · refine step_f (by simp; exact h) ?_
      have : (match p.parts with | [_, b] => if p.name = sPair then some b else none | _ => none) = none := by
        split
        · rw [if_neg h]
        · rfl
      rw [this, outF_none]
  exfalso
  unfold partsN at hlen
  rw [if_neg (by omega), if_neg (by omega), if_neg (by omega), if_neg (by omega)] at hlen
  omega

/-- The rule behind the parts: 0x3. -/
theorem endx3 (n q : Nat) (ctx : List Ty) (p0 : List Nat) (inn : List Ty) (o m : Int) (s : List UInt8) (u : List Ty) (l : List Lam) (ts : List Ty) (hc : ctx.length ≤ 1000000) (hlen : (ts.length : Int) = partsN o) (hm : 0 ≤ m ∧ m ≤ 1000000) (hts : TsOk ts) (hn : 60000000 ≤ n) :
    L50_0x3 n (q + 1) (encTs ctx) (pathT p0)  (l.length : Nat) o m s (encTs u) (encLs l) [] (encTs inn) (encTs ts) = some (outF (toSum (ruleT ctx o m (.mk s u) ts)) p0) := by
  rw [show q + 1 = Nat.succ q from rfl, l50_0x3]
  refine step_f (by rw [lenL]; simp) ?_
  by_cases c1 : o = 1
  · subst c1
    refine step_t rfl ?_
    rw [show ruleT ctx 1 m (.mk s u) ts = fromEnd ctx m from rfl]
    by_cases hlt : m < ctx.length
    · obtain ⟨w, hu, hf⟩ := fromEnd_some hm.1 hlt
      rw [lenT, hf, outF_some, w64 (x := (ctx.length : Int) - 1) (by omega), w64 (x := (ctx.length : Int) - 1 - m) (by omega)]
      refine step_t (decide_eq_true hlt) (step_t (decide_eq_true (by omega)) (step_b (y := encT w) ?_ (step_t (okT_sh w) ?_)))
      · rw [show ((ctx.length : Int) - 1 - m).toNat = ctx.length - 1 - m.toNat by omega, nthE, hu]; rfl
      · rw [lookT]
    · have hf : fromEnd ctx m = none := by unfold fromEnd; rw [if_neg (fun q => hlt q.2)]
      rw [lenT, hf, outF_none]
      exact step_f (decide_eq_false hlt) rfl
  have d1 : (o == 1) = false := by simp [c1]
  refine step_f d1 ?_
  by_cases c2 : o = 2
  · subst c2
    obtain ⟨b, rfl⟩ := tlen1 hlen
    have h71 := s71 sTo (.mk s u) b n (by omega)
    rw [encT] at h71
    rw [show ruleT ctx 2 m (.mk s u) [b] = some (tTo (.mk s u) b) from rfl, outF_some]
    refine step_t rfl (step_t (condT 0 [b] (by omega) (by simp)) (step_b (y := encT b) rfl (step_t (okT_sh b) ?_)))
    rw [lookT]
    refine step_b h71 (step_t (okT_sh _) ?_)
    rw [lookT]
    rfl
  have d2 : (o == 2) = false := by simp [c2]
  refine step_f d2 ?_
  by_cases c3 : o = 3
  · subst c3
    obtain ⟨f, a, rfl⟩ := tlen2 hlen
    have hf := hts f (by simp)
    have ha := hts a (by simp)
    have k0 := condT 0 [f, a] (by omega) (by simp)
    have k1 := condT 1 [f, a] (by omega) (by simp)
    refine step_t rfl (step_t k0 (step_b (y := encT f) rfl (step_t (okT_sh f) ?_)))
    rw [lkT0]
    by_cases hn2 : f.name = sTo
    · obtain ⟨x, y, hp, _, _⟩ := formed_two hf.1 (.inl hn2)
      have hsx : sizeT x ≤ 10000000 := by have := sizeT_two hp; have := hf.2; omega
      have h16 := s16 x a (by omega) n (by omega)
      rw [eqT_dec] at h16
      refine step_t (by rw [hn2]; rfl) (step_t k0 (step_b (y := encT f) rfl (step_t (okT_sh f) ?_)))
      rw [lkT1, hp]
      refine step_b (y := encT x) rfl (step_t (okT_sh x) (step_t k1 (step_b (y := encT a) rfl (step_t (okT_sh a) ?_))))
      rw [lookT, lookT]
      refine step_b h16 (step_t rfl ?_)
      rw [show ruleT ctx 3 m (.mk s u) [f, a] = (match f.parts with | [x, y] => if f.name = sTo ∧ x = a then some y else none | _ => none) from rfl, hp]
      simp only
      by_cases hxa : x = a
      · rw [if_pos ⟨hn2, hxa⟩, outF_some]
        refine step_t (decide_eq_true hxa) (step_t k0 (step_b (y := encT f) rfl (step_t (okT_sh f) ?_)))
        rw [lkT1, hp]
        refine step_b (y := encT y) rfl (step_t (okT_sh y) ?_)
        rw [lookT]
      · rw [if_neg (fun q => hxa q.2), outF_none]
        exact step_f (decide_eq_false hxa) rfl
    · have hr : ruleT ctx 3 m (.mk s u) [f, a] = none := by
        show (match f.parts with | [x, y] => if f.name = sTo ∧ x = a then some y else none | _ => none) = none
        split
        · rw [if_neg (fun q => hn2 q.1)]
        · rfl
      rw [hr, outF_none]
      exact step_f (by simp; exact hn2) rfl
  have d3 : (o == 3) = false := by simp [c3]
  refine step_f d3 ?_
  by_cases c4 : o = 4
  · subst c4
    rw [show ruleT ctx 4 m (.mk s u) ts = some tNat from rfl, outF_some]
    refine step_t rfl (step_b (s72 n (by omega)) (step_t (okT_sh _) ?_))
    rw [lookT]
  have d4 : (o == 4) = false := by simp [c4]
  refine step_f d4 ?_
  by_cases c5 : o = 5
  · subst c5
    obtain ⟨x, rfl⟩ := tlen1 hlen
    refine step_t rfl (step_t (condT 0 [x] (by omega) (by simp)) (step_b (y := encT x) rfl (step_t (okT_sh x) ?_)))
    rw [lkT0, show ruleT ctx 5 m (.mk s u) [x] = (if x.name = sNat then some tNat else none) from rfl]
    by_cases h : x.name = sNat
    · rw [if_pos h, outF_some]
      refine step_t (by rw [h]; rfl) (step_b (s72 n (by omega)) (step_t (okT_sh _) ?_))
      rw [lookT]
    · rw [if_neg h, outF_none]
      exact step_f (by simp; exact h) rfl
  have d5 : (o == 5) = false := by simp [c5]
  refine step_f d5 ?_
  by_cases c6 : o = 6
  · subst c6
    obtain ⟨x, f, a, rfl⟩ := tlen3 hlen
    have hf := hts f (by simp)
    have k0 := condT 0 [x, f, a] (by omega) (by simp)
    have k1 := condT 1 [x, f, a] (by omega) (by simp)
    have k2 := condT 2 [x, f, a] (by omega) (by simp)
    have h16 := s16 f (tTo a a) (by have := hf.2; omega) n (by have := hf.2; omega)
    rw [eqT_dec] at h16
    refine step_t rfl (step_t k0 (step_b (y := encT x) rfl (step_t (okT_sh x) ?_)))
    rw [lkT0, show ruleT ctx 6 m (.mk s u) [x, f, a] = (if x.name = sNat ∧ f = tTo a a then some a else none) from rfl]
    by_cases h : x.name = sNat
    · refine step_t (by rw [h]; rfl) (step_t k1 (step_b (y := encT f) rfl (step_t (okT_sh f) (step_t k2 (step_b (y := encT a) rfl (step_t (okT_sh a) (step_t k2 (step_b (y := encT a) rfl (step_t (okT_sh a) ?_)))))))))
      rw [lookT, lookT]
      refine step_b (s71 sTo a a n (by omega)) (step_t (okT_sh _) ?_)
      rw [lookT]
      refine step_b h16 (step_t rfl ?_)
      by_cases h2 : f = tTo a a
      · rw [if_pos ⟨h, h2⟩, outF_some]
        refine step_t (decide_eq_true h2) (step_t k2 (step_b (y := encT a) rfl (step_t (okT_sh a) ?_)))
        rw [lookT]
      · rw [if_neg (fun q => h2 q.2), outF_none]
        exact step_f (decide_eq_false h2) rfl
    · rw [if_neg (fun q => h q.1), outF_none]
      exact step_f (by simp; exact h) rfl
  have d6 : (o == 6) = false := by simp [c6]
  refine step_f d6 ?_
  by_cases c7 : o = 7
  · subst c7
    obtain ⟨a, b, rfl⟩ := tlen2 hlen
    have k0 := condT 0 [a, b] (by omega) (by simp)
    have k1 := condT 1 [a, b] (by omega) (by simp)
    rw [show ruleT ctx 7 m (.mk s u) [a, b] = some (tPair a b) from rfl, outF_some]
    refine step_t rfl (step_t k0 (step_b (y := encT a) rfl (step_t (okT_sh a) (step_t k1 (step_b (y := encT b) rfl (step_t (okT_sh b) ?_))))))
    rw [lookT, lookT]
    refine step_b (s71 sPair a b n (by omega)) (step_t (okT_sh _) ?_)
    rw [lookT]
    rfl
  have d7 : (o == 7) = false := by simp [c7]
  refine step_f d7 ?_
  by_cases c8 : o = 8
  · subst c8
    obtain ⟨p, rfl⟩ := tlen1 hlen
    have hp := hts p (by simp)
    have k0 := condT 0 [p] (by omega) (by simp)
    refine step_t rfl (step_t k0 (step_b (y := encT p) rfl (step_t (okT_sh p) ?_)))
    rw [lkT0, show ruleT ctx 8 m (.mk s u) [p] = (match p.parts with | [a, _] => if p.name = sPair then some a else none | _ => none) from rfl]
    by_cases h : p.name = sPair
    · obtain ⟨a, b, hab, _, _⟩ := formed_two hp.1 (.inr h)
      refine step_t (by rw [h]; rfl) (step_t k0 (step_b (y := encT p) rfl (step_t (okT_sh p) (step_t rfl ?_))))
      rw [lkT1, hab]
      refine step_b (y := encT a) rfl (step_t (okT_sh a) ?_)
      rw [lookT]
      simp only [if_pos h]
      rfl
    · refine step_f (by simp; exact h) ?_
      have : (match p.parts with | [a, _] => if p.name = sPair then some a else none | _ => none) = none := by
        split
        · rw [if_neg h]
        · rfl
      rw [this, outF_none]
  have d8 : (o == 8) = false := by simp [c8]
  refine step_f d8 ?_
  by_cases c9 : o = 9
  · subst c9
    obtain ⟨p, rfl⟩ := tlen1 hlen
    have hp := hts p (by simp)
    have k0 := condT 0 [p] (by omega) (by simp)
    refine step_t rfl (step_t k0 (step_b (y := encT p) rfl (step_t (okT_sh p) ?_)))
    rw [lkT0, show ruleT ctx 9 m (.mk s u) [p] = (match p.parts with | [_, b] => if p.name = sPair then some b else none | _ => none) from rfl]
    by_cases h : p.name = sPair
    · obtain ⟨a, b, hab, _, _⟩ := formed_two hp.1 (.inr h)
      refine step_t (by rw [h]; rfl) (step_t k0 (step_b (y := encT p) rfl (step_t (okT_sh p) (step_t rfl ?_))))
      rw [lkT1, hab]
      refine step_b (y := encT b) rfl (step_t (okT_sh b) ?_)
      rw [lookT]
      simp only [if_pos h]
      rfl
    · refine step_f (by simp; exact h) ?_
      have : (match p.parts with | [_, b] => if p.name = sPair then some b else none | _ => none) = none := by
        split
        · rw [if_neg h]
        · rfl
      rw [this, outF_none]
  exfalso
  unfold partsN at hlen
  rw [if_neg (by omega), if_neg (by omega), if_neg (by omega), if_neg (by omega)] at hlen
  omega

/-- The rule where there are no parts. -/
theorem end_empty (n q : Nat) (ctx inn : List Ty) (p0 : List Nat) (o m : Int) (s : List UInt8) (u : List Ty) (hc : ctx.length ≤ 1000000) (hlen : (0 : Int) = partsN o) (hm : 0 ≤ m ∧ m ≤ 1000000) (hn : 60000000 ≤ n) :
    L50_0 n (q + 1) (encTs ctx) (pathT p0) (encTs inn) 0 o m s (encTs u) [] [] = some (outF (toSum (ruleT ctx o m (.mk s u) [])) p0) := by
  rw [show q + 1 = Nat.succ q from rfl, l50_0]
  refine step_f rfl ?_
  by_cases c1 : o = 1
  · subst c1
    refine step_t rfl ?_
    rw [show ruleT ctx 1 m (.mk s u) [] = fromEnd ctx m from rfl]
    by_cases hlt : m < ctx.length
    · obtain ⟨w, hu, hf⟩ := fromEnd_some hm.1 hlt
      rw [lenT, hf, outF_some, w64 (x := (ctx.length : Int) - 1) (by omega), w64 (x := (ctx.length : Int) - 1 - m) (by omega)]
      refine step_t (decide_eq_true hlt) (step_t (decide_eq_true (by omega)) (step_b (y := encT w) ?_ (step_t (okT_sh w) ?_)))
      · rw [show ((ctx.length : Int) - 1 - m).toNat = ctx.length - 1 - m.toNat by omega, nthE, hu]; rfl
      · rw [lookT]
    · have hf : fromEnd ctx m = none := by unfold fromEnd; rw [if_neg (fun q => hlt q.2)]
      rw [lenT, hf, outF_none]
      exact step_f (decide_eq_false hlt) rfl
  have c4 : o = 4 := by
    unfold partsN at hlen
    split at hlen
    · omega
    · split at hlen
      · omega
      · split at hlen
        · omega
        · split at hlen <;> omega
  subst c4
  refine step_f rfl (step_f rfl (step_f rfl (step_t rfl ?_)))
  rw [show ruleT ctx 4 m (.mk s u) [] = some tNat from rfl, outF_some]
  refine step_b (s72 n (by omega)) (step_t (okT_sh _) ?_)
  rw [lookT]

theorem parts_pos {o : Int} {k : Nat} (h : (k : Int) = partsN o) (h2 : o = 2) : k = 1 := by
  subst h2
  have : partsN 2 = 1 := rfl
  omega

mutual
theorem s50 : ∀ (t : Lam) (ctx : List Ty), shaped t = true → CtxOk ctx → ctx.length + sizeL t ≤ 1000000 → sizeL t ≤ 100000 →
    ∃ c, ∀ p0 : List Nat, p0.length + sizeL t ≤ 1000000 → Ev E c 50 [.slc (encTs ctx), encL t, .slc (pathT p0)] (outF (typed ctx t) p0)
  | .mk o m (.mk s u) l, ctx, hs, hc, hcl, hz => by
    have q := shaped_eq hs
    rw [sizeL_mk] at hcl hz
    have hll := len_sizeLs l
    have htop : m ≤ 1000000 := by
      have := q.hi
      unfold topN at this
      split at this
      · omega
      · split at this <;> omega
    have tsok : ∀ ctx', CtxOk ctx' → ∀ ts, typeds ctx' 0 l = .inl ts → TsOk ts ∧ ts.length = l.length := by
      intro ctx' hc' ts hts
      obtain ⟨k1, k2, k3⟩ := typeds_ok l _ 0 q.parts hc' hts
      exact ⟨fun x hx => ⟨k1 x hx, by have := sizeTs_mem hx; omega⟩, k3⟩
    by_cases c2 : o = 2
    · have hc' : CtxOk (ctx ++ [.mk s u]) := hc.push (q.lam c2)
      obtain ⟨c1, h1⟩ := l50b l ctx (ctx ++ [.mk s u]) q.parts hc' (by simp; omega) (by omega)
      refine ⟨c1 + 60000000 + l.length + 5, fun p0 hp0 => Ev.mk fun n hn => ?_⟩
      rw [sizeL_mk] at hp0
      have e := h1 n (by omega) n (by omega) [] [] p0 o m s u l rfl (by simp; omega) rfl (by omega)
      rw [encL, e50]
      refine step_t (by simp [c2]) (step_t (firstT ctx) (step_t ?_ (step_t ?_ ?_)))
      · have : Nat.ble ((List.length ([] : List Tree) + (encTs ctx).length) * 40) 140737488355328 = true := by rw [Nat.ble_eq, lenT]; simp; omega
        rw [this]; rfl
      · have : Nat.ble ((([] ++ encTs ctx).length + List.length [Tree.agg [Tree.str s, Tree.slc (encTs u)]]) * 40) 140737488355328 = true := by rw [Nat.ble_eq, List.nil_append, lenT]; simp; omega
        rw [this]; rfl
      · have e2 : [] ++ encTs ctx ++ [Tree.agg [Tree.str s, Tree.slc (encTs u)]] = encTs (ctx ++ [.mk s u]) := by rw [encTs_app]; simp [encTs, encT]
        rw [e2]
        refine Eq.trans e ?_
        unfold typed
        rw [if_pos c2]
        simp only [List.length_nil]
        cases hts : typeds (ctx ++ [.mk s u]) 0 l with
        | inr p => rfl
        | inl ts =>
          obtain ⟨k1, k2⟩ := tsok _ hc' ts hts
          simp only [List.nil_append]
          cases ts with
          | nil =>
            exfalso
            have := parts_pos q.len c2
            simp at k2
            omega
          | cons a ac =>
            obtain ⟨q', hq'⟩ : ∃ q', n - l.length = q' + 1 := ⟨n - l.length - 1, by omega⟩
            have ee := endx3 n q' ctx p0 (ctx ++ [.mk s u]) o m s u l (a :: ac) (by omega) (by rw [k2]; exact q.len) ⟨q.lo, htop⟩ k1 (by omega)
            simp only [hq']
            rw [ee]
            cases ruleT ctx o m (.mk s u) (a :: ac) <;> rfl
    · obtain ⟨c1, h1⟩ := l50a l ctx ctx q.parts hc (by omega) (by omega)
      refine ⟨c1 + 60000000 + l.length + 5, fun p0 hp0 => Ev.mk fun n hn => ?_⟩
      rw [sizeL_mk] at hp0
      have e := h1 n (by omega) n (by omega) [] [] p0 o m s u l rfl (by simp; omega) rfl (by omega)
      rw [encL, e50]
      refine step_f (by simp [c2]) ?_
      refine Eq.trans e ?_
      unfold typed
      rw [if_neg c2]
      simp only [List.length_nil]
      cases hts : typeds ctx 0 l with
      | inr p => rfl
      | inl ts =>
        obtain ⟨k1, k2⟩ := tsok _ hc ts hts
        simp only [List.nil_append]
        obtain ⟨q', hq'⟩ : ∃ q', n - l.length = q' + 1 := ⟨n - l.length - 1, by omega⟩
        cases ts with
        | nil =>
          have hl0 : l = [] := by cases l with | nil => rfl | cons a b => simp at k2
          subst hl0
          have ee := end_empty n q' ctx ctx p0 o m s u (by omega) q.len ⟨q.lo, htop⟩ (by omega)
          simp only [hq']
          simp only [encLs, List.length_nil, show ((0 : Nat) : Int) = 0 from rfl]
          rw [ee]
          cases ruleT ctx o m (.mk s u) [] <;> rfl
        | cons a ac =>
          have ee := endb n q' ctx p0 ctx o m s u l (a :: ac) (by omega) (by rw [k2]; exact q.len) ⟨q.lo, htop⟩ k1 (by omega)
          simp only [hq']
          rw [ee]
          cases ruleT ctx o m (.mk s u) (a :: ac) <;> rfl
theorem l50a : ∀ (r : List Lam) (ctx inn : List Ty), shapeds r = true → CtxOk inn → inn.length + sizeLs r ≤ 1000000 → sizeLs r ≤ 100000 →
    ∃ c, ∀ n, c ≤ n → ∀ q, r.length < q → ∀ (pre : List Lam) (us : List Ty) (p0 : List Nat) (o m : Int) (s : List UInt8) (u : List Ty) (l : List Lam), us.length = pre.length → (pre ++ r).length ≤ 100000 → l = pre ++ r → p0.length + sizeLs r + 1 ≤ 1000000 →
    (match us with
      | [] => L50_0 n q (encTs ctx) (pathT p0) (encTs inn) (pre.length : Nat) o m s (encTs u) (encLs l) [] 
      | _ => L50_0b n q (encTs ctx) (pathT p0) (encTs inn) (pre.length : Nat) o m s (encTs u) (encLs l) []  (encTs us)) =
    (match typeds inn pre.length r with
      | .inr p => some (.tup [encT tyZero, .slc (pathT (p0 ++ p)), .bool false])
      | .inl vs => (match us ++ vs with
        | [] => L50_0 n (q - r.length) (encTs ctx) (pathT p0) (encTs inn) (l.length : Nat) o m s (encTs u) (encLs l) [] 
        | _ => L50_0b n (q - r.length) (encTs ctx) (pathT p0) (encTs inn) (l.length : Nat) o m s (encTs u) (encLs l) []  (encTs (us ++ vs))))
  | [], ctx, inn, hs, hc, hcl, hz => ⟨0, fun n hn q hq pre us p0 o m s u l hu hb hl hp => by
    have hlen : l.length = pre.length := by rw [hl]; simp
    unfold typeds
    simp only [List.append_nil, List.length_nil, Nat.sub_zero, hlen]⟩
  | x :: r, ctx, inn, hs, hc, hcl, hz => by
    unfold shapeds at hs
    simp only [Bool.and_eq_true] at hs
    simp only [sizeLs] at hcl hz
    obtain ⟨c1, h1⟩ := s50 x inn hs.1 hc (by omega) (by omega)
    obtain ⟨c2, h2⟩ := l50a r ctx inn hs.2 hc (by omega) (by omega)
    refine ⟨c1 + c2 + 5, fun n hn q hq pre us p0 o m s u l hu hb hl hp => ?_⟩
    have hsx : 1 ≤ sizeL x := sizeL_pos x
    simp only [sizeLs] at hp
    obtain ⟨q, rfl⟩ : ∃ k, q = k + 1 := ⟨q - 1, by omega⟩
    simp only [List.length_cons] at hq
    have hpl : pre.length < l.length := by rw [hl]; simp
    have hlb : l.length ≤ 100000 := by rw [hl]; exact hb
    have h1 := h1 (p0 ++ [pre.length]) (by simp; omega) n (by omega)
    have h70 := s70 p0 pre.length (by omega) n (by omega)
    have hnth : nth (encLs l) pre.length = some (encL x) := by rw [hl]; exact nthL pre x r
    have ih := h2 n (by omega) q (by omega) (pre ++ [x])
    cases us with
    | nil =>
      simp only [show q + 1 = Nat.succ q from rfl]
      rw [l50_0]
      refine step_t (by rw [lenL]; exact decide_eq_true (by omega)) (step_t (decide_eq_true (by omega)) (step_b (y := encL x) (by rw [Int.toNat_natCast]; exact hnth) (step_t (okL_sh x) ?_)))
      rw [lookL]
      refine step_b h70 (step_t (ok_slc _) ?_)
      rw [elems_slc]
      unfold typeds
      cases ht : typed inn x with
      | inr p =>
        rw [ht] at h1
        refine step_b h1 (step_t (tup3Ok _ _ _) (step_t rfl ?_))
        simp only [outF, tupl_tup, List.headD_cons, List.tail_cons, elems_slc, List.append_assoc, List.singleton_append]
        rfl
      | inl v =>
        rw [ht] at h1
        refine step_b h1 (step_t (tup3Ok _ _ _) (step_f rfl ?_))
        simp only [outF, tupl_tup, List.headD_cons, List.tail_cons, elems_slc]
        rw [lookT, w64 (by omega)]
        have e := ih ([v]) p0 o m s u l (by simp only [List.length_append, List.length_cons, List.length_singleton, List.length_nil] at hu ⊢; omega) (by simpa using hb) (by simp [hl]) (by omega)
        simp only [List.length_append, List.length_singleton] at e
        rw [show (((pre.length : Nat) : Int) + 1) = ((pre.length + 1 : Nat) : Int) by omega]
        refine Eq.trans e ?_
        cases typeds inn (pre.length + 1) r with
        | inl vs =>
          simp only [List.length_cons, List.nil_append, List.cons_append, List.append_assoc, List.singleton_append, Nat.succ_eq_add_one, Nat.add_sub_add_right]
        | inr p => rfl
    | cons a ac =>
      simp only [show q + 1 = Nat.succ q from rfl]
      rw [l50_0b]
      refine step_t (by rw [lenL]; exact decide_eq_true (by omega)) (step_t (decide_eq_true (by omega)) (step_b (y := encL x) (by rw [Int.toNat_natCast]; exact hnth) (step_t (okL_sh x) ?_)))
      rw [lookL]
      refine step_b h70 (step_t (ok_slc _) ?_)
      rw [elems_slc]
      unfold typeds
      cases ht : typed inn x with
      | inr p =>
        rw [ht] at h1
        refine step_b h1 (step_t (tup3Ok _ _ _) (step_t rfl ?_))
        simp only [outF, tupl_tup, List.headD_cons, List.tail_cons, elems_slc, List.append_assoc, List.singleton_append]
        rfl
      | inl v =>
        rw [ht] at h1
        refine step_b h1 (step_t (tup3Ok _ _ _) (step_f rfl ?_))
        simp only [outF, tupl_tup, List.headD_cons, List.tail_cons, elems_slc]
        rw [lookT, w64 (by omega)]
        have e := ih (a :: ac ++ [v]) p0 o m s u l (by simp only [List.length_append, List.length_cons, List.length_singleton, List.length_nil] at hu ⊢; omega) (by simpa using hb) (by simp [hl]) (by omega)
        simp only [List.length_append, List.length_singleton] at e
        rw [show (((pre.length : Nat) : Int) + 1) = ((pre.length + 1 : Nat) : Int) by omega]
        refine step_t ?_ ?_
        · have : Nat.ble (((encTs (a :: ac)).length + List.length [encT v]) * 40) 140737488355328 = true := by rw [Nat.ble_eq, lenT]; simp at hu ⊢; omega
          rw [this]
          rfl
        rw [show encTs (a :: ac) ++ [encT v] = encTs (a :: ac ++ [v]) by rw [encTs_app]; rfl]
        refine Eq.trans e ?_
        cases typeds inn (pre.length + 1) r with
        | inl vs =>
          simp only [List.length_cons, List.nil_append, List.cons_append, List.append_assoc, List.singleton_append, Nat.succ_eq_add_one, Nat.add_sub_add_right]
        | inr p => rfl
theorem l50b : ∀ (r : List Lam) (ctx inn : List Ty), shapeds r = true → CtxOk inn → inn.length + sizeLs r ≤ 1000000 → sizeLs r ≤ 100000 →
    ∃ c, ∀ n, c ≤ n → ∀ q, r.length < q → ∀ (pre : List Lam) (us : List Ty) (p0 : List Nat) (o m : Int) (s : List UInt8) (u : List Ty) (l : List Lam), us.length = pre.length → (pre ++ r).length ≤ 100000 → l = pre ++ r → p0.length + sizeLs r + 1 ≤ 1000000 →
    (match us with
      | [] => L50_0c n q (encTs ctx) (pathT p0)  (pre.length : Nat) o m s (encTs u) (encLs l) [] (encTs inn)
      | _ => L50_0x3 n q (encTs ctx) (pathT p0)  (pre.length : Nat) o m s (encTs u) (encLs l) [] (encTs inn) (encTs us)) =
    (match typeds inn pre.length r with
      | .inr p => some (.tup [encT tyZero, .slc (pathT (p0 ++ p)), .bool false])
      | .inl vs => (match us ++ vs with
        | [] => L50_0c n (q - r.length) (encTs ctx) (pathT p0)  (l.length : Nat) o m s (encTs u) (encLs l) [] (encTs inn)
        | _ => L50_0x3 n (q - r.length) (encTs ctx) (pathT p0)  (l.length : Nat) o m s (encTs u) (encLs l) [] (encTs inn) (encTs (us ++ vs))))
  | [], ctx, inn, hs, hc, hcl, hz => ⟨0, fun n hn q hq pre us p0 o m s u l hu hb hl hp => by
    have hlen : l.length = pre.length := by rw [hl]; simp
    unfold typeds
    simp only [List.append_nil, List.length_nil, Nat.sub_zero, hlen]⟩
  | x :: r, ctx, inn, hs, hc, hcl, hz => by
    unfold shapeds at hs
    simp only [Bool.and_eq_true] at hs
    simp only [sizeLs] at hcl hz
    obtain ⟨c1, h1⟩ := s50 x inn hs.1 hc (by omega) (by omega)
    obtain ⟨c2, h2⟩ := l50b r ctx inn hs.2 hc (by omega) (by omega)
    refine ⟨c1 + c2 + 5, fun n hn q hq pre us p0 o m s u l hu hb hl hp => ?_⟩
    have hsx : 1 ≤ sizeL x := sizeL_pos x
    simp only [sizeLs] at hp
    obtain ⟨q, rfl⟩ : ∃ k, q = k + 1 := ⟨q - 1, by omega⟩
    simp only [List.length_cons] at hq
    have hpl : pre.length < l.length := by rw [hl]; simp
    have hlb : l.length ≤ 100000 := by rw [hl]; exact hb
    have h1 := h1 (p0 ++ [pre.length]) (by simp; omega) n (by omega)
    have h70 := s70 p0 pre.length (by omega) n (by omega)
    have hnth : nth (encLs l) pre.length = some (encL x) := by rw [hl]; exact nthL pre x r
    have ih := h2 n (by omega) q (by omega) (pre ++ [x])
    cases us with
    | nil =>
      simp only [show q + 1 = Nat.succ q from rfl]
      rw [l50_0c]
      refine step_t (by rw [lenL]; exact decide_eq_true (by omega)) (step_t (decide_eq_true (by omega)) (step_b (y := encL x) (by rw [Int.toNat_natCast]; exact hnth) (step_t (okL_sh x) ?_)))
      rw [lookL]
      refine step_b h70 (step_t (ok_slc _) ?_)
      rw [elems_slc]
      unfold typeds
      cases ht : typed inn x with
      | inr p =>
        rw [ht] at h1
        refine step_b h1 (step_t (tup3Ok _ _ _) (step_t rfl ?_))
        simp only [outF, tupl_tup, List.headD_cons, List.tail_cons, elems_slc, List.append_assoc, List.singleton_append]
        rfl
      | inl v =>
        rw [ht] at h1
        refine step_b h1 (step_t (tup3Ok _ _ _) (step_f rfl ?_))
        simp only [outF, tupl_tup, List.headD_cons, List.tail_cons, elems_slc]
        rw [lookT, w64 (by omega)]
        have e := ih ([v]) p0 o m s u l (by simp only [List.length_append, List.length_cons, List.length_singleton, List.length_nil] at hu ⊢; omega) (by simpa using hb) (by simp [hl]) (by omega)
        simp only [List.length_append, List.length_singleton] at e
        rw [show (((pre.length : Nat) : Int) + 1) = ((pre.length + 1 : Nat) : Int) by omega]
        refine Eq.trans e ?_
        cases typeds inn (pre.length + 1) r with
        | inl vs =>
          simp only [List.length_cons, List.nil_append, List.cons_append, List.append_assoc, List.singleton_append, Nat.succ_eq_add_one, Nat.add_sub_add_right]
        | inr p => rfl
    | cons a ac =>
      simp only [show q + 1 = Nat.succ q from rfl]
      rw [l50_0x3]
      refine step_t (by rw [lenL]; exact decide_eq_true (by omega)) (step_t (decide_eq_true (by omega)) (step_b (y := encL x) (by rw [Int.toNat_natCast]; exact hnth) (step_t (okL_sh x) ?_)))
      rw [lookL]
      refine step_b h70 (step_t (ok_slc _) ?_)
      rw [elems_slc]
      unfold typeds
      cases ht : typed inn x with
      | inr p =>
        rw [ht] at h1
        refine step_b h1 (step_t (tup3Ok _ _ _) (step_t rfl ?_))
        simp only [outF, tupl_tup, List.headD_cons, List.tail_cons, elems_slc, List.append_assoc, List.singleton_append]
        rfl
      | inl v =>
        rw [ht] at h1
        refine step_b h1 (step_t (tup3Ok _ _ _) (step_f rfl ?_))
        simp only [outF, tupl_tup, List.headD_cons, List.tail_cons, elems_slc]
        rw [lookT, w64 (by omega)]
        have e := ih (a :: ac ++ [v]) p0 o m s u l (by simp only [List.length_append, List.length_cons, List.length_singleton, List.length_nil] at hu ⊢; omega) (by simpa using hb) (by simp [hl]) (by omega)
        simp only [List.length_append, List.length_singleton] at e
        rw [show (((pre.length : Nat) : Int) + 1) = ((pre.length + 1 : Nat) : Int) by omega]
        refine step_t ?_ ?_
        · have : Nat.ble (((encTs (a :: ac)).length + List.length [encT v]) * 40) 140737488355328 = true := by rw [Nat.ble_eq, lenT]; simp at hu ⊢; omega
          rw [this]
          rfl
        rw [show encTs (a :: ac) ++ [encT v] = encTs (a :: ac ++ [v]) by rw [encTs_app]; rfl]
        refine Eq.trans e ?_
        cases typeds inn (pre.length + 1) r with
        | inl vs =>
          simp only [List.length_cons, List.nil_append, List.cons_append, List.append_assoc, List.singleton_append, Nat.succ_eq_add_one, Nat.add_sub_add_right]
        | inr p => rfl
end

end Go.Proofs.Aw.Sa
