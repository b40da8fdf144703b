/- SIMPLE: what the functions that the law reaches come to, and why. -/
import Derived.Test.YtominoddfkpflaaDoorPart3
import Derived.Test.YtominoddfkpflaaDoorPart2
import Derived.Test.YtominoddfkpflaaDoorPart1
set_option linter.unusedSimpArgs false
set_option linter.unusedVariables false

/-
  THE INFERER'S WORLD 14: infer: all cases.
-/
section
namespace Go.Proofs.Cw.Si
open Go.Proofs
theorem Has.parts {Γ : List FT} {o k : Int} {t : Ty} {l : List Lam} {τ : FT} (ho : o ≠ 2) (h : Has Γ (.mk o k t l) τ) : ∃ τs, HasL Γ l τs := by
 cases h with
 | var _ _ _ => exact ⟨_, .nil⟩
 | lam _ => exact absurd rfl ho
 | app h1 h2 => exact ⟨_, .cons h1 (.cons h2 .nil)⟩
 | num => exact ⟨_, .nil⟩
 | suc h => exact ⟨_, .cons h .nil⟩
 | iter h1 h2 h3 => exact ⟨_, .cons h1 (.cons h2 (.cons h3 .nil))⟩
 | pair h1 h2 => exact ⟨_, .cons h1 (.cons h2 .nil)⟩
 | fst h => exact ⟨_, .cons h .nil⟩
 | snd h => exact ⟨_, .cons h .nil⟩
def Fin19 (f m : Nat) (N : NT) (next : Nat) (es : Bd) (ctx : List Nat) (t : Lam) (G : World') (Z : Nat → Option (Tree × World')) : Prop :=
 ∃ c v u G', (∀ n, c ≤ n → Z n = some (.tup [u, .bool v], G')) ∧ ((v = false ∧ u.isSc = true ∧ Non N es ctx [t]) ∨
  (v = true ∧ ∃ i N' next' es', u = .wp i 0 ∧ Infd f m N next es ctx [t] G G' [i] N' next' es'))
section
variable {f m : Nat} {N : NT} {next : Nat} {es : Bd} {ctx : List Nat} {G : World'}
theorem frame19 {o k : Int} {ty : Ty} {l : List Lam} (ho : o ≠ 2) (hl : l.length ≤ 100000) (hs : ∀ t, t ∈ l → Spec19 f m ctx t) (w : Wok G f m N next es) (hctx : ∀ i, i ∈ ctx → ∃ nd, N i = some nd) (hn : next + 2 * sizeLs l ≤ 1000000) :
  ∃ c, (Non N es ctx l ∧ ∃ G', ∀ n, c ≤ n → evWQ (Tab.env tab) n 19 [.wp f 0, .slc (wps ctx), encL (.mk o k ty l)] G = some (.tup [.nilp, .bool false], G')) ∨
   ∃ us N' next' es' G', Infd f m N next es ctx l G G' us N' next' es' ∧ us.length = l.length ∧ ∀ n, c ≤ n → evWQ (Tab.env tab) n 19 [.wp f 0, .slc (wps ctx), encL (.mk o k ty l)] G =
    evZW (Tab.env tab) n 19 5 (S19s false f (wps ctx) (wps ctx) (encLs l) (l.length : Nat) (l.length : Nat) G' o k ty.name (encTs ty.parts) (encLs l) (wps us)) := by
 obtain ⟨c, h⟩ := l19 (row := false) (s1 := wps ctx) (o := o) (k := k) (tn := ty.name) (tl := encTs ty.parts) (ps := encLs l) hl l 0 hs rfl [] G N next es (by simp) (by omega) w hctx hn
 rcases h with ⟨no, G', h⟩ | ⟨us, N', next', es', G', a, hu, h⟩
 ·exact ⟨c, .inl ⟨no, G', fun n hc => by rw [head19 ho]; exact h n n _ hc hc⟩⟩
 ·exact ⟨c, .inr ⟨us, N', next', es', G', a, hu, fun n hc => by rw [head19 ho]; exact h n n _ hc hc⟩⟩
theorem fin_suc (fm : f ≠ m) {N1 : NT} {next1 : Nat} {es1 : Bd} {G1 : World'} {x : Lam} {k : Int} {t : Ty} {a : Nat} {s1 ctx2 l : List Tree} {len i : Int} {tn : List UInt8} {tl ps : List Tree} (h : Infd f m N next es ctx [x] G G1 [a] N1 next1 es1) :
  Fin19 f m N next es ctx (.mk 5 k t [x]) G fun n => evZW (Tab.env tab) n 19 5 (S19s false f s1 ctx2 l len i G1 5 k tn tl ps (wps [a])) := by
 have hnum := h.w.new.1
 have w1 := h.w.add (nd := .nat) (fun k e => by cases e) (fun p a b e => by cases e)
 obtain ⟨nd, hnd⟩ := h.kn a (by simp)
 obtain ⟨c, v, G2, e, hv⟩ := s46 w1 fm (a := a) (b := G1.length) ⟨nd, NT.le_add hnum _ _ hnd⟩ ⟨_, NT.add_self _ _ _⟩
 refine ⟨c, v, .wp G1.length 0, G2, fun n hn => rest_suc e n hn, ?_⟩
 rcases hv with ⟨rfl, no⟩ | ⟨rfl, es2, w2, _, iff⟩
 ·exact .inl ⟨rfl, rfl, h.suc_no hnum no⟩
 ·exact .inr ⟨rfl, _, _, _, _, rfl, h.suc hnum w2 iff⟩
theorem fin_pair {N1 : NT} {next1 : Nat} {es1 : Bd} {G1 : World'} {x y : Lam} {k : Int} {t : Ty} {a b : Nat} {s1 ctx2 l : List Tree} {len i : Int} {tn : List UInt8} {tl ps : List Tree} (h : Infd f m N next es ctx [x, y] G G1 [a, b] N1 next1 es1) :
  Fin19 f m N next es ctx (.mk 7 k t [x, y]) G fun n => evZW (Tab.env tab) n 19 5 (S19s false f s1 ctx2 l len i G1 7 k tn tl ps (wps [a, b])) :=
 ⟨1, true, _, _, fun n hn => rest_pair n hn, .inr ⟨rfl, _, _, _, _, rfl, h.pair (h.w.app [Nd.nat.obj])⟩⟩
theorem fin_app (fm : f ≠ m) {N1 : NT} {next1 : Nat} {es1 : Bd} {G1 : World'} {x y : Lam} {k : Int} {t : Ty} {a b : Nat} {s1 ctx2 l : List Tree} {len i : Int} {tn : List UInt8} {tl ps : List Tree} (h : Infd f m N next es ctx [x, y] G G1 [a, b] N1 next1 es1) (hn : next1 + 1 ≤ 1000000) :
  Fin19 f m N next es ctx (.mk 3 k t [x, y]) G fun n => evZW (Tab.env tab) n 19 5 (S19s false f s1 ctx2 l len i G1 3 k tn tl ps (wps [a, b])) := by
 have w1 := h.w.app [Nd.nat.obj]
 have e1 := s44 w1 hn
 have w2 := w1.fresh fm hn
 have hr := w1.new.1
 have hp := w2.new.1
 obtain ⟨na, hna⟩ := h.kn a (by simp)
 obtain ⟨nb, hnb⟩ := h.kn b (by simp)
 have w3 := w2.add (nd := .bin true b (G1 ++ [Nd.nat.obj]).length) (fun k e => by cases e) (fun p a' b' e => by
  cases e
  exact ⟨⟨nb, NT.le_add hr _ _ hnb⟩, ⟨_, NT.add_self _ _ _⟩⟩)
 obtain ⟨c, v, G4, e2, hv⟩ := s46 w3 fm (a := a) (b := (freshW (G1 ++ [Nd.nat.obj]) f m next1).length) ⟨na, NT.le_add hp _ _ (NT.le_add hr _ _ hna)⟩ ⟨_, NT.add_self _ _ _⟩
 refine ⟨c + 1, v, _, G4, fun n hn => rest_app e1 e2 n hn, ?_⟩
 rcases hv with ⟨rfl, no⟩ | ⟨rfl, es2, w4, _, iff⟩
 ·exact .inl ⟨rfl, rfl, h.app_no hr w2 hp no⟩
 ·exact .inr ⟨rfl, _, _, _, _, rfl, h.app hr w2 hp w4 iff⟩
theorem fin_iter (fm : f ≠ m) {N1 : NT} {next1 : Nat} {es1 : Bd} {G1 : World'} {x y z : Lam} {k : Int} {t : Ty} {a b d : Nat} {s1 ctx2 l : List Tree} {len i : Int} {tn : List UInt8} {tl ps : List Tree} (h : Infd f m N next es ctx [x, y, z] G G1 [a, b, d] N1 next1 es1) :
  Fin19 f m N next es ctx (.mk 6 k t [x, y, z]) G fun n => evZW (Tab.env tab) n 19 5 (S19s false f s1 ctx2 l len i G1 6 k tn tl ps (wps [a, b, d])) := by
 have hnum := h.w.new.1
 have w1 := h.w.add (nd := .nat) (fun k e => by cases e) (fun p a b e => by cases e)
 obtain ⟨na, hna⟩ := h.kn a (by simp)
 obtain ⟨nb, hnb⟩ := h.kn b (by simp)
 obtain ⟨ndd, hnd⟩ := h.kn d (by simp)
 obtain ⟨c, v, G2, e, hv⟩ := s46 w1 fm (a := a) (b := G1.length) ⟨na, NT.le_add hnum _ _ hna⟩ ⟨_, NT.add_self _ _ _⟩
 rcases hv with ⟨rfl, no⟩ | ⟨rfl, es2, w2, _, iff⟩
 ·exact ⟨c, false, _, G2, fun n hn => rest_iter_no e n hn, .inl ⟨rfl, rfl, h.iter_no1 hnum no⟩⟩
 ·have hp := w2.new.1
  have w3 := w2.add (nd := .bin true d d) (fun k e => by cases e) (fun p a' b' e => by
   cases e
   exact ⟨⟨ndd, NT.le_add hnum _ _ hnd⟩, ⟨ndd, NT.le_add hnum _ _ hnd⟩⟩)
  obtain ⟨c2, v, G4, e2, hv⟩ := s46 w3 fm (a := b) (b := G2.length) ⟨nb, NT.le_add hp _ _ (NT.le_add hnum _ _ hnb)⟩ ⟨_, NT.add_self _ _ _⟩
  refine ⟨c + c2 + 1, v, _, G4, fun n hn => rest_iter (e.mono (Nat.le_add_right c c2)) (e2.mono (Nat.le_add_left c2 c)) n hn, ?_⟩
  rcases hv with ⟨rfl, no⟩ | ⟨rfl, es3, w4, _, iff2⟩
  ·exact .inl ⟨rfl, rfl, h.iter_no2 hnum w2 iff hp no⟩
  ·exact .inr ⟨rfl, _, _, _, _, rfl, h.iter hnum w2 iff hp w4 iff2⟩
theorem fin_fst (fm : f ≠ m) {N1 : NT} {next1 : Nat} {es1 : Bd} {G1 : World'} {x : Lam} {k : Int} {t : Ty} {a : Nat} {s1 ctx2 l : List Tree} {len i : Int} {tn : List UInt8} {tl ps : List Tree} (h : Infd f m N next es ctx [x] G G1 [a] N1 next1 es1) (hn : next1 + 1 + 1 ≤ 1000000) :
  (Fin19 f m N next es ctx (.mk 8 k t [x]) G fun n => evZW (Tab.env tab) n 19 5 (S19s false f s1 ctx2 l len i G1 8 k tn tl ps (wps [a]))) ∧
  Fin19 f m N next es ctx (.mk 9 k t [x]) G fun n => evZW (Tab.env tab) n 19 5 (S19s false f s1 ctx2 l len i G1 9 k tn tl ps (wps [a])) := by
 have w1 := h.w.app [Nd.nat.obj]
 have e1 := s44 w1 (by omega)
 have w2 := w1.fresh fm (by omega)
 have hr := w1.new.1
 have e2 := s44 w2 hn
 have w3 := w2.fresh fm hn
 have hr2 := w2.new.1
 have hp := w3.new.1
 obtain ⟨na, hna⟩ := h.kn a (by simp)
 have l1 := NT.le_add (nd := .unk (next1 + 1)) hr
 have l2 := NT.le_add (nd := .unk (next1 + 1 + 1)) hr2
 have w4 := w3.add (nd := .bin false (G1 ++ [Nd.nat.obj]).length (freshW (G1 ++ [Nd.nat.obj]) f m next1).length) (fun k e => by cases e) (fun p a' b' e => by
  cases e
  exact ⟨⟨_, l2 _ _ (NT.add_self _ _ _)⟩, ⟨_, NT.add_self _ _ _⟩⟩)
 obtain ⟨c, v, G4, e3, hv⟩ := s46 w4 fm (a := a) (b := (freshW (freshW (G1 ++ [Nd.nat.obj]) f m next1) f m (next1 + 1)).length) ⟨na, NT.le_add hp _ _ (l2 _ _ (l1 _ _ hna))⟩ ⟨_, NT.add_self _ _ _⟩
 rcases hv with ⟨rfl, no⟩ | ⟨rfl, es2, w5, _, iff⟩
 ·obtain ⟨n1, n2⟩ := h.fst_no (k := k) (t := t) hr w2 hr2 w3 hp no
  exact ⟨⟨c + 1, false, _, G4, fun n hn => rest_fst e1 e2 e3 n hn, .inl ⟨rfl, rfl, n1⟩⟩, ⟨c + 1, false, _, G4, fun n hn => rest_snd e1 e2 e3 n hn, .inl ⟨rfl, rfl, n2⟩⟩⟩
 ·obtain ⟨i1, i2⟩ := h.fst (k := k) (t := t) hr w2 hr2 w3 hp w5 iff
  exact ⟨⟨c + 1, true, _, G4, fun n hn => rest_fst e1 e2 e3 n hn, .inr ⟨rfl, _, _, _, _, rfl, i1⟩⟩, ⟨c + 1, true, _, G4, fun n hn => rest_snd e1 e2 e3 n hn, .inr ⟨rfl, _, _, _, _, rfl, i2⟩⟩⟩
end
theorem len_two {α : Type} {l : List α} (h : l.length = 2) : ∃ a b, l = [a, b] := by
 match l, h with
 | [a, b], _ => exact ⟨a, b, rfl⟩
theorem len_three {α : Type} {l : List α} (h : l.length = 3) : ∃ a b c, l = [a, b, c] := by
 match l, h with
 | [a, b, c], _ => exact ⟨a, b, c, rfl⟩
theorem s19 {f m : Nat} (fm : f ≠ m) : ∀ (t : Lam) (ctx : List Nat), esh ctx.length t → ctx.length + sizeL t ≤ 1000000 → sizeL t ≤ 100000 → Spec19 f m ctx t
 | .mk o k ty l, ctx, hs, hc, hz => by
  intro G N next es w hctx hn
  unfold esh at hs
  obtain ⟨h1, h2, h3⟩ := hs
  rw [sizeL_mk] at hc hz hn
  have hl := len_sizeLs l
  by_cases ho : o = 2
  ·subst ho
   rw [if_pos rfl] at h3
   obtain ⟨x, rfl⟩ : ∃ x, l = [x] := by
    rcases ops_of h1 with ⟨e, _⟩ | ⟨e, _⟩ | ⟨_, e⟩ | ⟨e, _⟩ | ⟨e, _⟩ | ⟨e, _⟩ | ⟨e, _⟩ | ⟨e, _⟩ | ⟨e, _⟩ <;> first | (exfalso; omega) | exact List.length_eq_one_iff.1 e
   have hx : x ∈ [x] := List.mem_singleton.2 rfl
   have hsz := sizeLs_mem hx
   have e1 := s44 w (show next + 1 ≤ 1000000 by omega)
   have w1 := w.fresh fm (by omega)
   have ha := w.new.1
   have le1 := NT.le_add (nd := .unk (next + 1)) ha
   have ih : ∀ t, t ∈ [x] → Spec19 f m (ctx ++ [G.length]) t := fun t ht => by
    have : sizeL t < sizeL (.mk 2 k ty [x]) := by have := sizeLs_mem ht; rw [sizeL_mk]; omega
    have hsz := sizeLs_mem ht
    exact s19 fm t (ctx ++ [G.length]) (by
     have := eshs_mem ht h3
     simpa using this) (by simp; omega) (by omega)
   have hctx1 : ∀ i, i ∈ ctx ++ [G.length] → ∃ nd, N.add G.length (.unk (next + 1)) i = some nd := fun i hi => by
    rcases List.mem_append.1 hi with hi | hi
    ·obtain ⟨nd, hnd⟩ := hctx i hi
     exact ⟨nd, le1 _ _ hnd⟩
    ·rw [List.mem_singleton.1 hi]; exact ⟨_, NT.add_self _ _ _⟩
   obtain ⟨c, h⟩ := l19 (row := true) (s1 := wps ctx) (o := 2) (k := k) (tn := ty.name) (tl := encTs ty.parts) (ps := encLs [x]) (by simp) [x] 0 ih rfl [] (freshW G f m next) (N.add G.length (.unk (next + 1))) (next + 1) es (by simp) (by omega) w1 hctx1 (by omega)
   rcases h with ⟨no, G', h⟩ | ⟨us, N', next', es', G', a, hu, h⟩
   ·refine ⟨c + 1 + 1, false, .nilp, G', EvW.mk fun n hn => ?_, .inl ⟨rfl, rfl, Infd.lam_no (G1 := G') w ha rfl no⟩⟩
    rw [head19r e1 (by omega) (by omega)]
    exact h n n _ (by omega) (by omega)
   ·obtain ⟨b, rfl⟩ := List.length_eq_one_iff.1 (show us.length = 1 by simpa using hu)
    refine ⟨c + 1 + 1, true, _, _, EvW.mk fun n hn => ?_, .inr ⟨rfl, _, _, _, _, rfl, Infd.lam w ha hctx rfl w1 a (a.w.app [Nd.nat.obj])⟩⟩
    rw [head19r e1 (by omega) (by omega), h n n _ (by omega) (by omega)]
    exact rest_lam n (by omega) (by omega)
  ·rw [if_neg ho] at h3
   have ih : ∀ t, t ∈ l → Spec19 f m ctx t := fun t ht => by
    have : sizeL t < sizeL (.mk o k ty l) := by have := sizeLs_mem ht; rw [sizeL_mk]; omega
    have hsz := sizeLs_mem ht
    exact s19 fm t ctx (eshs_mem ht h3) (by omega) (by omega)
   have leaf : l = [] → ∀ n, evWQ (Tab.env tab) (n + 1) 19 [.wp f 0, .slc (wps ctx), encL (.mk o k ty l)] G = evZW (Tab.env tab) (n + 1) 19 5 (S19s false f (wps ctx) (wps ctx) (encLs l) (l.length : Nat) (l.length : Nat) G o k ty.name (encTs ty.parts) (encLs l) []) := by
    intro e n
    subst e
    rw [head19 ho]
    exact k19_end
   rcases ops_of h1 with ⟨rfl, e⟩ | ⟨rfl, e⟩ | hh
   ·have hle := List.length_eq_zero_iff.1 e
    obtain ⟨h0, hk⟩ := h2 rfl
    have hlt : ctx.length - 1 - k.toNat < ctx.length := by omega
    have hj : ctx[ctx.length - 1 - k.toNat]? = some ctx[ctx.length - 1 - k.toNat] := List.getElem?_eq_getElem hlt
    have inf : Infd f m N next es ctx [.mk 1 k ty l] G (G ++ [Nd.nat.obj]) [ctx[ctx.length - 1 - k.toNat]] N next es := by
     subst hle
     exact Infd.var w (w.app [Nd.nat.obj]) h0 hk hj (hctx _ (List.getElem_mem hlt))
    refine ⟨2, true, _, _, EvW.mk fun n hn => ?_, .inr ⟨rfl, _, _, _, _, rfl, inf⟩⟩
    obtain ⟨n, rfl⟩ : ∃ p, n = p + 1 := ⟨n - 1, by omega⟩
    rw [leaf hle]
    exact rest_var _ h0 hk (by omega) hj
   ·have hle := List.length_eq_zero_iff.1 e
    have inf : Infd f m N next es ctx [.mk 4 k ty l] G (G ++ [Nd.nat.obj]) [G.length] (N.add G.length .nat) next es := by
     subst hle
     exact Infd.num w
    refine ⟨2, true, _, _, EvW.mk fun n hn => ?_, .inr ⟨rfl, _, _, _, _, rfl, inf⟩⟩
    obtain ⟨n, rfl⟩ : ∃ p, n = p + 1 := ⟨n - 1, by omega⟩
    rw [leaf hle]
    exact rest_num _
   ·obtain ⟨c, ⟨no, G', h⟩ | ⟨us, N1, next1, es1, G1, a, hu, h⟩⟩ := frame19 (o := o) (k := k) (ty := ty) ho (by omega) ih w hctx (by omega)
    ·exact ⟨c + 1, false, .nilp, G', EvW.mk h, .inl ⟨rfl, rfl, no.parts fun Γ τ hh => hh.parts ho⟩⟩
    ·have hnext := a.hi
     have fin : Fin19 f m N next es ctx (.mk o k ty l) G (fun n => evZW (Tab.env tab) n 19 5 (S19s false f (wps ctx) (wps ctx) (encLs l) (l.length : Nat) (l.length : Nat) G1 o k ty.name (encTs ty.parts) (encLs l) (wps us))) := by
      rcases hh with ⟨e, _⟩ | ⟨rfl, e⟩ | ⟨rfl, e⟩ | ⟨rfl, e⟩ | ⟨rfl, e⟩ | ⟨rfl, e⟩ | ⟨rfl, e⟩
      ·exact absurd e ho
      ·obtain ⟨x, rfl⟩ := List.length_eq_one_iff.1 e
       obtain ⟨y, rfl⟩ := List.length_eq_one_iff.1 (hu.trans e)
       exact fin_suc fm a
      ·obtain ⟨x, rfl⟩ := List.length_eq_one_iff.1 e
       obtain ⟨y, rfl⟩ := List.length_eq_one_iff.1 (hu.trans e)
       exact (fin_fst fm a (by omega)).1
      ·obtain ⟨x, rfl⟩ := List.length_eq_one_iff.1 e
       obtain ⟨y, rfl⟩ := List.length_eq_one_iff.1 (hu.trans e)
       exact (fin_fst fm a (by omega)).2
      ·obtain ⟨x, x2, rfl⟩ := len_two e
       obtain ⟨y, y2, rfl⟩ := len_two (hu.trans e)
       exact fin_app fm a (by omega)
      ·obtain ⟨x, x2, rfl⟩ := len_two e
       obtain ⟨y, y2, rfl⟩ := len_two (hu.trans e)
       exact fin_pair a
      ·obtain ⟨x, x2, x3, rfl⟩ := len_three e
       obtain ⟨y, y2, y3, rfl⟩ := len_three (hu.trans e)
       exact fin_iter fm a
     obtain ⟨c2, v, u, G', hz, fin⟩ := fin
     refine ⟨c + c2 + 1, v, u, G', EvW.mk fun n hn => ?_, fin⟩
     rw [h n (by omega)]
     exact hz n (by omega)
termination_by t => sizeL t
end Go.Proofs.Cw.Si
end

/-
  NAMES: the digits of a number below 100.
-/
section
set_option maxRecDepth 100000
namespace Go.Proofs.Cw.Si
open Go.Proofs
def nmI (k : Nat) : List UInt8 := if k < 10 then [UInt8.ofNat (48 + k)] else [UInt8.ofNat (48 + k / 10), UInt8.ofNat (48 + k % 10)]
def unI : List UInt8 → Nat
 | [a] => a.toNat - 48
 | [a, b] => (a.toNat - 48) * 10 + (b.toNat - 48)
 | _ => 0
def unOk : Nat → Bool
 | 0 => true
 | k + 1 => decide (unI (nmI k) = k) && decide ((nmI k).length ≤ 2) && unOk k
theorem unOk_of : ∀ {n k : Nat}, unOk n = true → k < n → unI (nmI k) = k ∧ (nmI k).length ≤ 2
 | n + 1, k, h, hk => by
  unfold unOk at h
  simp only [Bool.and_eq_true, decide_eq_true_eq] at h
  by_cases e : k = n
  ·subst e; exact h.1
  ·exact unOk_of h.2 (by omega)
theorem nmI_len {k : Nat} (h : k < 100) : (nmI k).length ≤ 2 := (unOk_of (n := 100) (by decide) h).2
theorem q90 (n : Nat) : ∀ k : Nat, k < 100 → evQ (Tab.env tab) n 90 [I (k : Nat)] = some (.str (nmI k))
 | 0, _ => rfl
 | 1, _ => rfl
 | 2, _ => rfl
 | 3, _ => rfl
 | 4, _ => rfl
 | 5, _ => rfl
 | 6, _ => rfl
 | 7, _ => rfl
 | 8, _ => rfl
 | 9, _ => rfl
 | 10, _ => rfl
 | 11, _ => rfl
 | 12, _ => rfl
 | 13, _ => rfl
 | 14, _ => rfl
 | 15, _ => rfl
 | 16, _ => rfl
 | 17, _ => rfl
 | 18, _ => rfl
 | 19, _ => rfl
 | 20, _ => rfl
 | 21, _ => rfl
 | 22, _ => rfl
 | 23, _ => rfl
 | 24, _ => rfl
 | 25, _ => rfl
 | 26, _ => rfl
 | 27, _ => rfl
 | 28, _ => rfl
 | 29, _ => rfl
 | 30, _ => rfl
 | 31, _ => rfl
 | 32, _ => rfl
 | 33, _ => rfl
 | 34, _ => rfl
 | 35, _ => rfl
 | 36, _ => rfl
 | 37, _ => rfl
 | 38, _ => rfl
 | 39, _ => rfl
 | 40, _ => rfl
 | 41, _ => rfl
 | 42, _ => rfl
 | 43, _ => rfl
 | 44, _ => rfl
 | 45, _ => rfl
 | 46, _ => rfl
 | 47, _ => rfl
 | 48, _ => rfl
 | 49, _ => rfl
 | 50, _ => rfl
 | 51, _ => rfl
 | 52, _ => rfl
 | 53, _ => rfl
 | 54, _ => rfl
 | 55, _ => rfl
 | 56, _ => rfl
 | 57, _ => rfl
 | 58, _ => rfl
 | 59, _ => rfl
 | 60, _ => rfl
 | 61, _ => rfl
 | 62, _ => rfl
 | 63, _ => rfl
 | 64, _ => rfl
 | 65, _ => rfl
 | 66, _ => rfl
 | 67, _ => rfl
 | 68, _ => rfl
 | 69, _ => rfl
 | 70, _ => rfl
 | 71, _ => rfl
 | 72, _ => rfl
 | 73, _ => rfl
 | 74, _ => rfl
 | 75, _ => rfl
 | 76, _ => rfl
 | 77, _ => rfl
 | 78, _ => rfl
 | 79, _ => rfl
 | 80, _ => rfl
 | 81, _ => rfl
 | 82, _ => rfl
 | 83, _ => rfl
 | 84, _ => rfl
 | 85, _ => rfl
 | 86, _ => rfl
 | 87, _ => rfl
 | 88, _ => rfl
 | 89, _ => rfl
 | 90, _ => rfl
 | 91, _ => rfl
 | 92, _ => rfl
 | 93, _ => rfl
 | 94, _ => rfl
 | 95, _ => rfl
 | 96, _ => rfl
 | 97, _ => rfl
 | 98, _ => rfl
 | 99, _ => rfl
 | k + 100, h => by omega
theorem s48 {k : Nat} (h : k < 100) : Ev E 4 48 [I (k : Nat)] (.str (nmI k)) := by
 have h90 : Ev E 1 90 [I (k : Nat)] (.str (nmI k)) := Ev.mk fun n _ => q90 n k h
 have h82 : Ev E 2 82 [I (k : Nat), I 10] (.str (nmI k)) := Ev.mk fun n hn => by
  rw [e82]
  exact step_t rfl (step_t (by simp) (step_t (by simp; omega) (step_b (h90 n hn) rfl)))
 have h69 : Ev E 3 69 [I (k : Nat)] (.str (nmI k)) := Ev.mk fun n hn => by
  rw [e69]
  exact step_b (h82 n hn) rfl
 exact Ev.mk fun n hn => by
  rw [e48]
  exact step_b (h69 n hn) rfl
end Go.Proofs.Cw.Si
end

/-
  THE INFERER'S WORLD 15: told.
-/
section
namespace Go.Proofs.Cw.Si
open Go.Proofs
def nmM (i : Nat) : List Nat → List (Tree × Tree)
 | [] => []
 | k :: r => (I (k : Nat), .str (63 :: nmI i)) :: nmM (i + 1) r
theorem nmM_len (i : Nat) : ∀ ns : List Nat, (nmM i ns).length = ns.length
 | [] => rfl
 | _ :: r => by simp [nmM, nmM_len (i + 1) r]
theorem nmM_app (k : Nat) : ∀ (ns : List Nat) (i : Nat), nmM i (ns ++ [k]) = nmM i ns ++ [(I (k : Nat), .str (63 :: nmI (i + ns.length)))]
 | [], i => rfl
 | x :: r, i => by
  simp only [List.cons_append, nmM, nmM_app k r (i + 1), List.length_cons]
  rw [show i + 1 + r.length = i + (r.length + 1) by omega]
theorem mfind_nm (k : Nat) : ∀ (ns : List Nat) (i j : Nat), (idx ns k = none → mfind .int (I k) (nmM i ns) j = some none) ∧ ∀ p, idx ns k = some p → mfind .int (I k) (nmM i ns) j = some (some (j + p, .str (63 :: nmI (i + p))))
 | [], i, j => ⟨fun _ => rfl, fun p h => by cases h⟩
 | x :: r, i, j => by
  have e : keyEq .int (I k) (I x) = some (((k : Nat) : Int) == ((x : Nat) : Int)) := rfl
  obtain ⟨h1, h2⟩ := mfind_nm k r (i + 1) (j + 1)
  have hb : (((k : Nat) : Int) == ((x : Nat) : Int)) = decide (k = x) := by
   by_cases h : k = x
   ·simp [h]
   ·simp [h]; omega
  have step : mfind .int (I k) (nmM i (x :: r)) j = match decide (k = x) with
    | true => some (some (j, .str (63 :: nmI i)))
    | false => mfind .int (I k) (nmM (i + 1) r) (j + 1) := by
   show (match keyEq .int (I k) (I x) with | some true => _ | some false => _ | none => _) = _
   rw [e, hb]
   cases decide (k = x) <;> rfl
  rw [step]
  simp only [idx]
  by_cases h : x = k
  ·rw [if_pos h]
   simp only [h, decide_true]
   exact ⟨fun c => (by cases c), fun p hp => by cases hp; rfl⟩
  ·rw [if_neg h]
   simp only [show decide (k = x) = false from decide_eq_false fun c => h c.symm]
   refine ⟨fun c => h1 ?_, fun p hp => ?_⟩
   ·cases hi : idx r k with
    | none => rfl
    | some q => rw [hi] at c; cases c
   ·cases hi : idx r k with
    | none => rw [hi] at hp; cases hp
    | some q =>
     rw [hi] at hp
     cases hp
     rw [h2 q hi, show j + 1 + q = j + (q + 1) by omega, show i + 1 + q = i + (q + 1) by omega]
structure Tst (G : World') (f m : Nat) (N : NT) (next : Nat) (es : Bd) (mp lf : Nat) (ns : List Nat) (v : Nat) : Prop where
 w : Wok G f m N next es
 hm : nth G mp = some (.map (nmM 0 ns))
 hl : nth G lf = some (.cells [I (v : Nat)])
section
variable {G : World'} {f m : Nat} {N : NT} {next : Nat} {es : Bd} {mp lf : Nat}
theorem Tst.down {ns : List Nat} {v : Nat} (h : Tst G f m N next es mp lf ns (v + 1)) (l1 : lf ≠ f) (l2 : lf ≠ m) (l3 : N lf = none) (ml : mp ≠ lf) : Tst (setN G lf (.cells [I (v : Nat)])) f m N next es mp lf ns v where
 w := h.w.set _ l1 l2 l3
 hm := by rw [nth_set_ne _ _ fun e => ml e.symm]; exact h.hm
 hl := nth_set_same _ h.hl
theorem r20 {n q i c x t : Nat} {l : List Tree} {s1 s2 sy : List UInt8} {ly : List Ty} {G1 : World'} {us : List Tree} (hx : nth l i = some (.wp x 0)) (hi : i < l.length) (hl : l.length ≤ 1000) (hu : us.length ≤ 1000)
  (h : EvW E c 20 [.wp f 0, .wp x 0, .wm mp, .wp lf 0] G (.tup [encT (.mk sy ly), .bool true]) G1) (hn : c ≤ n) :
  (us = [] → L20_0 n (Nat.succ q) f mp lf l (l.length : Nat) (i : Nat) G s1 s2 = L20_0b n q f mp lf l (l.length : Nat) ((i + 1 : Nat) : Int) G1 s1 s2 [encT (.mk sy ly)]) ∧
  L20_0b n (Nat.succ q) f mp lf l (l.length : Nat) (i : Nat) G s1 s2 us = L20_0b n q f mp lf l (l.length : Nat) ((i + 1 : Nat) : Int) G1 s1 s2 (us ++ [encT (.mk sy ly)]) := by
 have h := h n hn
 have hw : IntKind.wrap .i64 (((i : Nat) : Int) + 1) = ((i + 1 : Nat) : Int) := by rw [w64 (by omega)]; omega
 have hb : Nat.ble ((us.length + 1) * 40) 140737488355328 = true := by rw [Nat.ble_eq]; omega
 have hx' : nth l (Int.toNat ((i : Nat) : Int)) = some (.wp x 0) := by rw [Int.toNat_natCast]; exact hx
 constructor
 ·intro _
  rw [v20_0]
  refine step_t (by simp; omega) (step_t (by simp) (step_b hx' (step_t rfl (step_b h (step_t rfl (step_f rfl ?_))))))
  rw [hw]; rfl
 ·rw [v20_0b]
  refine step_t (by simp; omega) (step_t (by simp) (step_b hx' (step_t rfl (step_b h (step_t rfl (step_f rfl (step_t (by rw [hb]; rfl) ?_)))))))
  rw [hw]; rfl
theorem r20_no {n q i c x t : Nat} {l : List Tree} {s1 s2 : List UInt8} {y : Ty} {G1 : World'} {us : List Tree} (hx : nth l i = some (.wp x 0)) (hi : i < l.length) (hl : l.length ≤ 1000)
  (h : EvW E c 20 [.wp f 0, .wp x 0, .wm mp, .wp lf 0] G (.tup [encT y, .bool false]) G1) (hn : c ≤ n) :
  L20_0 n (Nat.succ q) f mp lf l (l.length : Nat) (i : Nat) G s1 s2 = some (.tup [encT tyZero, .bool false], G1) ∧
  L20_0b n (Nat.succ q) f mp lf l (l.length : Nat) (i : Nat) G s1 s2 us = some (.tup [encT tyZero, .bool false], G1) := by
 have h := h n hn
 cases y with
 | mk sy ly =>
 have hx' : nth l (Int.toNat ((i : Nat) : Int)) = some (.wp x 0) := by rw [Int.toNat_natCast]; exact hx
 constructor
 ·rw [v20_0]
  exact step_t (by simp; omega) (step_t (by simp) (step_b hx' (step_t rfl (step_b h (step_t rfl (step_t rfl rfl))))))
 ·rw [v20_0b]
  exact step_t (by simp; omega) (step_t (by simp) (step_b hx' (step_t rfl (step_b h (step_t rfl (step_t rfl rfl))))))
theorem end20 {n q : Nat} {l : List Tree} {s1 s2 : List UInt8} {us : List Tree} {i : Int} : L20_0 n (Nat.succ q) f mp lf l i i G s1 s2 = some (.tup [.agg [.str s2, .slc []], .bool true], G) ∧
  L20_0b n (Nat.succ q) f mp lf l i i G s1 s2 us = some (.tup [.agg [.str s2, .slc us], .bool true], G) := by
 constructor
 ·rw [v20_0]; exact step_f (by simp) rfl
 ·rw [v20_0b]; exact step_f (by simp) rfl
theorem wlook_nm_none {k : Nat} {ns : List Nat} (hm : nth G mp = some (.map (nmM 0 ns))) (h : idx ns k = none) : wlook .int G mp (I k) (.str []) = some (false, .str []) := by
 unfold wlook; simp only [hm, (mfind_nm k ns 0 0).1 h]
theorem wlook_nm_some {k p : Nat} {ns : List Nat} (hm : nth G mp = some (.map (nmM 0 ns))) (h : idx ns k = some p) : wlook .int G mp (I k) (.str []) = some (true, .str (63 :: nmI p)) := by
 have := (mfind_nm k ns 0 0).2 p h
 unfold wlook; simp only [hm, this]
 rw [Nat.zero_add]
theorem idx_app (k : Nat) : ∀ (ns : List Nat), idx ns k = none → idx (ns ++ [k]) k = some ns.length
 | [], _ => by simp [idx]
 | x :: r, h => by
  simp only [idx] at h
  by_cases e : x = k
  ·rw [if_pos e] at h; cases h
  ·rw [if_neg e] at h
   have hr : idx r k = none := by
    cases hi : idx r k with
    | none => rfl
    | some q => rw [hi] at h; cases h
   simp only [List.cons_append, idx, if_neg e, idx_app k r hr, List.length_cons]
   rfl
theorem u20_no {t r : Nat} {ns : List Nat} (h : Tst G f m N next es mp lf ns 0) (hf : Find N es t r) : ∃ c G', EvW E c 20 [.wp f 0, .wp t 0, .wm mp, .wp lf 0] G (.tup [encT tyZero, .bool false]) G' := by
 obtain ⟨c, e⟩ := s47 h.w hf
 have hset : wset G lf 0 [I (-1)] = some (setN G lf (.cells [I (-1)])) := by unfold wset; simp only [h.hl]; rfl
 have hl1 : wcell (setN G lf (.cells [I (-1)])) lf 0 = some (I (-1)) := wcell_of (nth_set_same _ h.hl) 0
 refine ⟨c + 1, setN G lf (.cells [I (-1)]), EvW.mk fun n hn => ?_⟩
 rw [w20]
 refine step_b (e n hn) (step_t rfl (step_b (wcell_of h.hl 0) (step_t rfl (step_b hset (step_b hl1 (step_t rfl (step_t rfl rfl)))))))
theorem u20_old (l1 : lf ≠ f) (l2 : lf ≠ m) (l3 : N lf = none) (ml : mp ≠ lf) {t r k p v : Nat} {ns : List Nat} (h : Tst G f m N next es mp lf ns (v + 1)) (hv : v < 1000) (hf : Find N es t r) (hr : N r = some (.unk k)) (hp : idx ns k = some p) :
  ∃ c, EvW E c 20 [.wp f 0, .wp t 0, .wm mp, .wp lf 0] G (.tup [encT (.mk (63 :: nmI p) []), .bool true]) (setN G lf (.cells [I (v : Nat)])) := by
 obtain ⟨c, e⟩ := s47 h.w hf
 have h1 := h.down l1 l2 l3 ml
 obtain ⟨c0, c1, _⟩ := h1.w.cell hr
 have hset : wset G lf 0 [I (v : Nat)] = some (setN G lf (.cells [I (v : Nat)])) := by unfold wset; simp only [h.hl]; rfl
 have hw : IntKind.wrap .i64 (Tree.toInt (I ((v + 1 : Nat) : Int)) - 1) = ((v : Nat) : Int) := by
  show IntKind.wrap .i64 (((v + 1 : Nat) : Int) - 1) = _
  rw [w64 (by omega)]; omega
 have hk := wlook_nm_some h1.hm hp
 refine ⟨c + 1, EvW.mk fun n hn => ?_⟩
 rw [w20]
 refine step_b (e n hn) (step_t rfl (step_b (wcell_of h.hl 0) (step_t rfl ?_)))
 rw [hw]
 refine step_b hset (step_b (wcell_of h1.hl 0) (step_t rfl (step_f (show decide (((v : Nat) : Int) < 0) = false from decide_eq_false (by omega)) ?_)))
 exact step_b c0 (step_t rfl (step_t rfl (step_b c1 (step_t rfl (step_b hk (step_t rfl (step_t rfl (step_b c1 (step_t rfl (step_b hk (step_t rfl rfl)))))))))))
theorem u20_new (m1 : mp ≠ f) (m2 : mp ≠ m) (m3 : N mp = none) (l1 : lf ≠ f) (l2 : lf ≠ m) (l3 : N lf = none) (ml : mp ≠ lf) {t r k v : Nat} {ns : List Nat} (h : Tst G f m N next es mp lf ns (v + 1)) (hv : v < 1000) (hf : Find N es t r) (hr : N r = some (.unk k)) (hp : idx ns k = none) (hl : ns.length < 100) :
  ∃ c G', EvW E c 20 [.wp f 0, .wp t 0, .wm mp, .wp lf 0] G (.tup [encT (.mk (63 :: nmI ns.length) []), .bool true]) G' ∧ Tst G' f m N next es mp lf (ns ++ [k]) v := by
 obtain ⟨c, e⟩ := s47 h.w hf
 have h1 := h.down l1 l2 l3 ml
 have h2 : Tst (setN (setN G lf (.cells [I (v : Nat)])) mp (.map (nmM 0 (ns ++ [k])))) f m N next es mp lf (ns ++ [k]) v :=
  ⟨h1.w.set _ m1 m2 m3, nth_set_same _ h1.hm, by rw [nth_set_ne _ _ ml]; exact h1.hl⟩
 obtain ⟨c0, c1, _⟩ := h1.w.cell hr
 obtain ⟨_, d1, _⟩ := h2.w.cell hr
 have hset : wset G lf 0 [I (v : Nat)] = some (setN G lf (.cells [I (v : Nat)])) := by unfold wset; simp only [h.hl]; rfl
 have hw : IntKind.wrap .i64 (Tree.toInt (I ((v + 1 : Nat) : Int)) - 1) = ((v : Nat) : Int) := by
  show IntKind.wrap .i64 (((v + 1 : Nat) : Int) - 1) = _
  rw [w64 (by omega)]; omega
 have hk := wlook_nm_none h1.hm hp
 have hk2 := wlook_nm_some h2.hm (idx_app k ns hp)
 have hlen : wlenM (setN G lf (.cells [I (v : Nat)])) mp = some ns.length := by unfold wlenM; simp only [h1.hm, nmM_len]
 have hput : wput .int (setN G lf (.cells [I (v : Nat)])) mp (I k) (.str ([63] ++ Tree.toStr (.str (nmI ns.length)))) = some (setN (setN G lf (.cells [I (v : Nat)])) mp (.map (nmM 0 (ns ++ [k])))) := by
  unfold wput
  simp only [h1.hm, (mfind_nm k ns 0 0).1 hp, nmM_app, Nat.zero_add]
  rfl
 have h48 := s48 hl
 have h2l := nmI_len hl
 refine ⟨c + 4 + 1, _, EvW.mk fun n hn => ?_, h2⟩
 rw [w20]
 refine step_b (e n (by omega)) (step_t rfl (step_b (wcell_of h.hl 0) (step_t rfl ?_)))
 rw [hw]
 refine step_b hset (step_b (wcell_of h1.hl 0) (step_t rfl (step_f (show decide (((v : Nat) : Int) < 0) = false from decide_eq_false (by omega)) ?_)))
 refine step_b c0 (step_t rfl (step_t rfl (step_b c1 (step_t rfl (step_b hk (step_f rfl (step_b c1 (step_t rfl (step_b hlen (step_b (h48 n (by omega)) (step_t rfl (step_t ?_ ?_))))))))))))
 ·show decide (1 + (nmI ns.length).length ≤ 140737488355328) = true
  simp; omega
 ·exact step_b hput (step_b d1 (step_t rfl (step_b hk2 (step_t rfl rfl))))
theorem u20_nd (l1 : lf ≠ f) (l2 : lf ≠ m) (l3 : N lf = none) (ml : mp ≠ lf) {t r v : Nat} {nd : Nd} {ns : List Nat} (h : Tst G f m N next es mp lf ns (v + 1)) (hv : v < 1000) (hf : Find N es t r) (hr : N r = some nd) (hu : nd.name ≠ []) {R : Option (Tree × World')} {d : Nat}
  (hR : ∀ n, d ≤ n → L20_0 n n f mp lf nd.kids (nd.kids.length : Nat) ((0 : Nat) : Int) (setN G lf (.cells [I (v : Nat)])) [] nd.name = R) :
  ∃ c, ∀ n, c ≤ n → evWQ (Tab.env tab) n 20 [.wp f 0, .wp t 0, .wm mp, .wp lf 0] G = R := by
 obtain ⟨c, e⟩ := s47 h.w hf
 have h1 := h.down l1 l2 l3 ml
 obtain ⟨c0, c1, c2⟩ := h1.w.cell hr
 have hset : wset G lf 0 [I (v : Nat)] = some (setN G lf (.cells [I (v : Nat)])) := by unfold wset; simp only [h.hl]; rfl
 have hw : IntKind.wrap .i64 (Tree.toInt (I ((v + 1 : Nat) : Int)) - 1) = ((v : Nat) : Int) := by
  show IntKind.wrap .i64 (((v + 1 : Nat) : Int) - 1) = _
  rw [w64 (by omega)]; omega
 refine ⟨c + d, fun n hn => ?_⟩
 have hR := hR n (by omega)
 rw [z0] at hR
 rw [w20]
 refine step_b (e n (by omega)) (step_t rfl (step_b (wcell_of h.hl 0) (step_t rfl ?_)))
 rw [hw]
 refine step_b hset (step_b (wcell_of h1.hl 0) (step_t rfl (step_f (show decide (((v : Nat) : Int) < 0) = false from decide_eq_false (by omega)) ?_)))
 refine step_b c0 (step_t rfl (step_f ?_ (step_b c0 (step_t rfl (step_b c2 (step_t rfl hR))))))
 show (nd.name == []) = false
 cases h : nd.name with
 | nil => exact absurd h hu
 | cons a b => rfl
theorem bin_name (q : Bool) : (if q then sTo else sPair) ≠ [] := by cases q <;> exact fun h => by cases h
theorem s20 (m1 : mp ≠ f) (m2 : mp ≠ m) (m3 : N mp = none) (l1 : lf ≠ f) (l2 : lf ≠ m) (l3 : N lf = none) (ml : mp ≠ lf) : ∀ (τ : FT) {G : World'} {t : Nat} {ns : List Nat} {v p : Nat}, Tst G f m N next es mp lf ns v → Res N es t τ → 2 * ns.length + v + 1 + p ≤ 201 →
  ∃ c y u G', EvW E c 20 [.wp f 0, .wp t 0, .wm mp, .wp lf 0] G (.tup [encT y, .bool u]) G' ∧
   ((u = false ∧ v < τ.size) ∨ (u = true ∧ τ.size ≤ v ∧ y = (tell nmI τ ns).1 ∧ Tst G' f m N next es mp lf (tell nmI τ ns).2 (v - τ.size) ∧ 2 * (tell nmI τ ns).2.length + (v - τ.size) + p ≤ 201)) := by
 intro τ
 induction τ with
 | var k =>
  intro G t ns v p h hr hl
  obtain ⟨r, hf, _, hc⟩ := hr.find
  rcases hc with ⟨k', hn, hk, e⟩ | ⟨_, e⟩ | ⟨_, _, _, _, _, _, _, _, e⟩
  ·cases e
   cases v with
   | zero =>
    obtain ⟨c, G', e⟩ := u20_no h hf
    exact ⟨c, _, false, G', e, .inl ⟨rfl, by simp [FT.size]⟩⟩
   | succ v =>
    cases hi : idx ns k with
    | some j =>
     obtain ⟨c, e⟩ := u20_old l1 l2 l3 ml h (by omega) hf hn hi
     refine ⟨c, _, true, _, e, .inr ⟨rfl, by simp [FT.size], by simp only [tell, hi], ?_, ?_⟩⟩
     ·simp only [tell, hi, FT.size, Nat.add_sub_cancel]; exact h.down l1 l2 l3 ml
     ·simp only [tell, hi, FT.size]; omega
    | none =>
     obtain ⟨c, G', e, h2⟩ := u20_new m1 m2 m3 l1 l2 l3 ml h (by omega) hf hn hi (by omega)
     refine ⟨c, _, true, _, e, .inr ⟨rfl, by simp [FT.size], by simp only [tell, hi], ?_, ?_⟩⟩
     ·simp only [tell, hi, FT.size, Nat.add_sub_cancel]; exact h2
     ·simp only [tell, hi, FT.size, List.length_append, List.length_singleton]; omega
  ·cases e
  ·cases e
 | nat =>
  intro G t ns v p h hr hl
  obtain ⟨r, hf, _, hc⟩ := hr.find
  rcases hc with ⟨k', hn, hk, e⟩ | ⟨hn, _⟩ | ⟨_, _, _, _, _, _, _, _, e⟩
  ·cases e
  ·cases v with
   | zero =>
    obtain ⟨c, G', e⟩ := u20_no h hf
    exact ⟨c, _, false, G', e, .inl ⟨rfl, by simp [FT.size]⟩⟩
   | succ v =>
    obtain ⟨c, e⟩ := u20_nd l1 l2 l3 ml h (by omega) hf hn (fun h => by cases h) (d := 1) (R := some (.tup [encT (.mk sNat []), .bool true], setN G lf (.cells [I (v : Nat)]))) fun n hn => by
     obtain ⟨n, rfl⟩ : ∃ p, n = Nat.succ p := ⟨n - 1, by omega⟩
     exact (end20 (us := [])).1
    refine ⟨c + 1, _, true, _, EvW.mk e, .inr ⟨rfl, by simp [FT.size], by simp only [tell], ?_, ?_⟩⟩
    ·simp only [tell, FT.size, Nat.add_sub_cancel]; exact h.down l1 l2 l3 ml
    ·simp only [tell, FT.size]; omega
  ·cases e
 | bin q a b iha ihb =>
  intro G t ns v p h hr hl
  obtain ⟨r, hf, _, hc⟩ := hr.find
  rcases hc with ⟨k', hn, hk, e⟩ | ⟨hn, e⟩ | ⟨q', x1, x2, y1, y2, hn, hr1, hr2, e⟩
  ·cases e
  ·cases e
  ·cases e
   cases v with
   | zero =>
    obtain ⟨c, G', e⟩ := u20_no h hf
    exact ⟨c, _, false, G', e, .inl ⟨rfl, by simp [FT.size]⟩⟩
   | succ v =>
    have h1 := h.down l1 l2 l3 ml
    obtain ⟨ca, ya, ua, Ga, ea, ha⟩ := iha (p := p + 1) h1 hr1 (by omega)
    have hx1 : nth [Tree.wp x1 0, Tree.wp x2 0] 0 = some (.wp x1 0) := rfl
    have hx2 : nth [Tree.wp x1 0, Tree.wp x2 0] 1 = some (.wp x2 0) := rfl
    rcases ha with ⟨rfl, sa⟩ | ⟨rfl, sa, rfl, ta, na⟩
    ·obtain ⟨c, e⟩ := u20_nd l1 l2 l3 ml h (by omega) hf hn (bin_name q) (d := ca + 1) (R := some (.tup [encT tyZero, .bool false], Ga)) fun n hn => by
      obtain ⟨m', hm'⟩ : ∃ p, n = Nat.succ p := ⟨n - 1, by omega⟩
      have := (r20_no (n := n) (q := m') (s1 := []) (s2 := Nd.name (.bin q x1 x2)) (us := []) (t := 0) hx1 (by simp) (by simp) ea (by omega)).1
      rw [← hm'] at this
      exact this
     exact ⟨c + 1, _, false, _, EvW.mk e, .inl ⟨rfl, by simp only [FT.size]; omega⟩⟩
    ·obtain ⟨cb, yb, ub, Gb, eb, hb⟩ := ihb (p := p) ta hr2 (by omega)
     generalize hya : (tell nmI a ns).1 = ya at ea
     cases ya with
     | mk sy ly =>
     have stepA : ∀ n q', ca ≤ n → L20_0 n (Nat.succ q') f mp lf [.wp x1 0, .wp x2 0] (([Tree.wp x1 0, Tree.wp x2 0].length : Nat) : Int) ((0 : Nat) : Int) (setN G lf (.cells [I (v : Nat)])) [] (Nd.name (.bin q x1 x2)) =
       L20_0b n q' f mp lf [.wp x1 0, .wp x2 0] (([Tree.wp x1 0, Tree.wp x2 0].length : Nat) : Int) ((1 : Nat) : Int) Ga [] (Nd.name (.bin q x1 x2)) [encT (.mk sy ly)] := fun n q' hn =>
      (r20 (n := n) (q := q') (s1 := []) (s2 := Nd.name (.bin q x1 x2)) (us := []) (t := 0) hx1 (by simp) (by simp) (by simp) ea hn).1 rfl
     rcases hb with ⟨rfl, sb⟩ | ⟨rfl, sb, rfl, tb, nb⟩
     ·obtain ⟨c, e⟩ := u20_nd l1 l2 l3 ml h (by omega) hf hn (bin_name q) (d := ca + cb + 2) (R := some (.tup [encT tyZero, .bool false], Gb)) fun n hn => by
       obtain ⟨m', hm'⟩ : ∃ p, n = Nat.succ (Nat.succ p) := ⟨n - 2, by omega⟩
       have s1 := stepA n (Nat.succ m') (by omega)
       have s2 := (r20_no (n := n) (q := m') (s1 := []) (s2 := Nd.name (.bin q x1 x2)) (us := [encT (.mk sy ly)]) (t := 0) hx2 (by simp) (by simp) eb (by omega)).2
       rw [← hm'] at s1
       exact s1.trans s2
      exact ⟨c + 1, _, false, _, EvW.mk e, .inl ⟨rfl, by simp only [FT.size]; omega⟩⟩
     ·generalize hyb : (tell nmI b (tell nmI a ns).2).1 = yb at eb
      cases yb with
      | mk sz lz =>
      obtain ⟨c, e⟩ := u20_nd l1 l2 l3 ml h (by omega) hf hn (bin_name q) (d := ca + cb + 3) (R := some (.tup [encT (.mk (if q then sTo else sPair) [.mk sy ly, .mk sz lz]), .bool true], Gb)) fun n hn => by
       obtain ⟨m', hm'⟩ : ∃ p, n = Nat.succ (Nat.succ (Nat.succ p)) := ⟨n - 3, by omega⟩
       have s1 := stepA n (Nat.succ (Nat.succ m')) (by omega)
       have s2 := (r20 (n := n) (q := Nat.succ m') (s1 := []) (s2 := Nd.name (.bin q x1 x2)) (us := [encT (.mk sy ly)]) (t := 0) hx2 (by simp) (by simp) (by simp) eb (by omega)).2
       have s3 := (end20 (G := Gb) (f := f) (mp := mp) (lf := lf) (n := n) (q := m') (l := [.wp x1 0, .wp x2 0]) (s1 := []) (s2 := Nd.name (.bin q x1 x2)) (us := [encT (.mk sy ly), encT (.mk sz lz)]) (i := ((2 : Nat) : Int))).2
       rw [← hm'] at s1
       exact s1.trans (s2.trans s3)
      refine ⟨c + 1, _, true, _, EvW.mk e, .inr ⟨rfl, by simp only [FT.size]; omega, by simp only [tell, hya, hyb], ?_, ?_⟩⟩
      ·simp only [tell, FT.size]
       rw [show v + 1 - (a.size + b.size + 1) = v - a.size - b.size by omega]
       exact tb
      ·simp only [tell, FT.size]; omega
end
end Go.Proofs.Cw.Si
end

/-
  SIMPLE, specs 16: the type of a node whose parts have types.
-/
section
namespace Go.Proofs.Cw.Si
open Go.Proofs
theorem s41 : Ev E 1 41 [] (encT tNat) := Ev.mk fun n _ => by rw [e41]; rfl
theorem s50 : Ev E 1 50 [] (encT tNat) := Ev.mk fun n _ => by rw [e50]; rfl
theorem eqT_dec (a b : Ty) : eqT a b = decide (a = b) := by
 cases h : eqT a b with
 | true => rw [(eqT_iff a b).1 h]; simp
 | false =>
  have : ¬ a = b := fun e => by rw [(eqT_iff a b).2 e] at h; cases h
  simp [this]
end Go.Proofs.Cw.Si
end

/-
  TERMS WITHOUT TYPES 1: erased, closed, plain.
-/
section
namespace Go.Proofs.Cw.Si
open Go.Proofs
mutual
def erL : Lam → Bool
 | .mk _ _ t l => zeroT t && erLs l
def erLs : List Lam → Bool
 | [] => true
 | t :: r => erL t && erLs r
end
mutual
def closL (d : Int) : Lam → Bool
 | .mk o n _ l => if o = 1 then decide (n < d) else closLs (if o = 2 then d + 1 else d) l
def closLs (d : Int) : List Lam → Bool
 | [] => true
 | t :: r => closL d t && closLs d r
end
mutual
def plainL : Lam → Lam
 | .mk o n t l => .mk o n (if o = 2 then tNat else t) (plainLs l)
def plainLs : List Lam → List Lam
 | [] => []
 | t :: r => plainL t :: plainLs r
end
def idxP (p : Lam → Bool) : Int → List Lam → Int
 | _, [] => -1
 | i, x :: r => bif p x then i else idxP p (i + 1) r
theorem idxP_ge (p : Lam → Bool) : ∀ (l : List Lam) (i : Int), 0 ≤ i → (idxP p i l ≥ 0 ↔ l.any p = true)
 | [], i, h => by simp [idxP]
 | x :: r, i, h => by
  simp only [idxP, List.any_cons]
  cases hx : p x with
  | true => simp [h]
  | false => simpa using idxP_ge p r (i + 1) (by omega)
theorem l65p {g c : Nat} {ps cap : List Tree} {p : Lam → Bool} : ∀ (r pre : List Lam) (n q : Nat), (∀ x, x ∈ r → Ev E c g (ps ++ [encL x] ++ cap) (.bool (p x))) → r.length < q → c ≤ n → (pre ++ r).length ≤ 1000000000000 →
  L65_0 n q (encLs (pre ++ r)) g ps cap ((pre ++ r).length : Nat) (pre.length : Nat) = some (I (idxP p pre.length r))
 | [], pre, n, q, h, hq, hn, hb => by
  obtain ⟨q, rfl⟩ : ∃ k, q = k + 1 := ⟨q - 1, by omega⟩
  rw [show q + 1 = Nat.succ q from rfl, l65_0, bif_neg (by simp)]
  rfl
 | x :: r, pre, n, q, h, hq, hn, hb => by
  obtain ⟨q, rfl⟩ : ∃ k, q = k + 1 := ⟨q - 1, by omega⟩
  simp only [List.length_cons] at hq
  have hpl : pre.length < (pre ++ x :: r).length := by simp
  have hx := h x List.mem_cons_self n hn
  rw [show q + 1 = Nat.succ q from rfl, l65_0, bif_pos (by exact decide_eq_true (by omega)), bif_pos (by exact decide_eq_true (by omega)), Int.toNat_natCast, nthL, Option.bind_some, okL_sh, cond_true, lookL, hx]
  simp only [Option.bind_some, ok_bool, cond_true, toBool_bool, idxP]
  cases hx2 : p x with
  | true => simp
  | false =>
   have ih := l65p r (pre ++ [x]) n q (fun y hy => h y (List.mem_cons_of_mem _ hy)) (by omega) (by omega) (by simp at hb ⊢; omega)
   simp only [List.append_assoc, List.singleton_append, List.length_append, List.length_singleton] at ih
   rw [w64 (by simp at hb; omega)]
   simpa using ih
theorem s37 {g c : Nat} {ps cap : List Tree} {p : Lam → Bool} (l : List Lam) (h : ∀ x, x ∈ l → Ev E c g (ps ++ [encL x] ++ cap) (.bool (p x))) (hc : l.length < c) (hl : l.length ≤ 1000000000000) : Ev E (c + 2) 37 [.slc (encLs l), .fn g ps cap] (.bool (l.any p)) := by
 have h65 : Ev E (c + 1) 65 [.slc (encLs l), .fn g ps cap] (I (idxP p 0 l)) := Ev.mk fun n hn => by
  rw [e65, lenL]
  have := l65p (p := p) l [] n n h (by omega) hn (by simpa using hl)
  simpa using this
 refine Ev.mk fun n hn => ?_
 rw [e37]
 refine step_b (h65 n hn) (step_t rfl ?_)
 have := idxP_ge p l 0 (by omega)
 show some (Tree.bool (decide (idxP p 0 l ≥ 0))) = _
 cases hs : l.any p with
 | true => rw [decide_eq_true (this.2 hs)]
 | false => rw [decide_eq_false fun q => by rw [this, hs] at q; cases q]
theorem erLs_any : ∀ l : List Lam, erLs l = !(l.any fun x => !erL x)
 | [] => rfl
 | x :: r => by simp only [erLs, List.any_cons, erLs_any r]; cases erL x <;> simp
theorem closLs_any (d : Int) : ∀ l : List Lam, closLs d l = !(l.any fun x => !closL d x)
 | [] => rfl
 | x :: r => by simp only [closLs, List.any_cons, closLs_any d r]; cases closL d x <;> simp
theorem wLs_mem {l : List Lam} {t : Lam} (h : t ∈ l) : wL t ≤ wLs l := by
 induction l with
 | nil => cases h
 | cons x r ih =>
  simp only [wLs]
  rcases List.mem_cons.1 h with rfl | h
  ·omega
  ·have := ih h; omega
theorem s15 : ∀ t : Lam, wL t ≤ 500000000000 → Ev E (8 * wL t) 15 [encL t] (.bool (erL t))
 | .mk o m (.mk s u) l, h => by
  have hw := wL_pos (.mk o m (.mk s u) l)
  obtain ⟨c, hc⟩ : ∃ c, 8 * wL (.mk o m (.mk s u) l) = c + 1 := ⟨8 * wL (.mk o m (.mk s u) l) - 1, by omega⟩
  rw [hc]
  have hl := len_wLs l
  unfold wL at h hc
  have h38 : ∀ x, x ∈ l → Ev E (8 * wLs l + 1) 38 ([] ++ [encL x] ++ []) (.bool (!erL x)) := fun x hx => by
   have hxl := wLs_mem hx
   have : wL x < wL (Lam.mk o m (.mk s u) l) := by
    rw [wL]; omega
   have ih := s15 x (by omega)
   refine Ev.mono (c := 8 * wL x + 1) (Ev.mk fun n hn => ?_) (by omega)
   have ih := ih n hn
   rw [encL_eta] at ih
   simp only [List.nil_append, List.append_nil]
   rw [encL_eta, e38]
   exact step_b ih (step_t rfl rfl)
  have h37 := s37 l h38 (by omega) (by omega)
  refine Ev.mk fun n hn => ?_
  have h36 := s36 (.mk s u) n (by omega)
  rw [encT] at h36
  rw [encL, e15]
  refine step_b h36 (step_t rfl ?_)
  show (bif zeroT (.mk s u) then _ else _) = _
  unfold erL
  cases zeroT (.mk s u) with
  | false => rfl
  | true =>
   rw [erLs_any]
   exact step_b (h37 n (by omega)) (step_t rfl rfl)
termination_by t => wL t
theorem s18 : ∀ (t : Lam) (d : Nat), wL t ≤ 500000000000 → d + wL t ≤ 1000000000000 → Ev E (8 * wL t) 18 [encL t, I (d : Nat)] (.bool (closL d t))
 | .mk o m (.mk s u) l, d, h, hd => by
  have hw := wL_pos (.mk o m (.mk s u) l)
  obtain ⟨c, hc⟩ : ∃ c, 8 * wL (.mk o m (.mk s u) l) = c + 1 := ⟨8 * wL (.mk o m (.mk s u) l) - 1, by omega⟩
  rw [hc]
  have hl := len_wLs l
  unfold wL at h hc hd
  have h42 : ∀ (d : Nat), d + wLs l ≤ 1000000000000 → ∀ x, x ∈ l → Ev E (8 * wLs l + 1) 42 ([] ++ [encL x] ++ [Tree.ptr (I (d : Nat)) 0]) (.bool (!closL d x)) := fun d hd x hx => by
   have hxl := wLs_mem hx
   have : wL x < wL (Lam.mk o m (.mk s u) l) := by
    rw [wL]; omega
   have ih := s18 x d (by omega) (by omega)
   refine Ev.mono (c := 8 * wL x + 1) (Ev.mk fun n hn => ?_) (by omega)
   have ih := ih n hn
   rw [encL_eta] at ih
   simp only [List.nil_append, List.cons_append]
   rw [encL_eta, e42]
   exact step_b ih (step_t rfl rfl)
  refine Ev.mk fun n hn => ?_
  rw [encL, e18]
  unfold closL
  by_cases c1 : o = 1
  ·rw [if_pos c1]
   exact step_t (by simp [c1]) rfl
  ·rw [if_neg c1]
   refine step_f (by simp [c1]) ?_
   rw [closLs_any]
   by_cases c2 : o = 2
   ·rw [if_pos c2]
    refine step_t (by simp [c2]) ?_
    have e : IntKind.wrap .i64 (((d : Nat) : Int) + 1) = ((d + 1 : Nat) : Int) := by rw [w64 (by omega)]; omega
    have h37 := s37 l (h42 (d + 1) (by have := sizeT_pos (.mk s u); omega)) (by omega) (by omega)
    rw [e]
    exact step_b (h37 n (by omega)) (step_t rfl rfl)
   ·rw [if_neg c2]
    refine step_f (by simp [c2]) ?_
    have h37 := s37 l (h42 d (by omega)) (by omega) (by omega)
    exact step_b (h37 n (by omega)) (step_t rfl rfl)
termination_by t => wL t
mutual
theorem s17 : ∀ t : Lam, wL t ≤ 500000000000 → Ev E (2 * wL t + 4) 17 [encL t] (encL (plainL t))
 | .mk o m (.mk s u) l, h => Ev.mk fun n hn => by
  have hl := len_wLs l
  unfold wL at h hn
  have hL := l17 l [] n n o m (by omega) (by omega) (by omega) (by simp; omega)
  simp only [List.nil_append, List.length_nil] at hL
  rw [show ((0 : Nat) : Int) = 0 from rfl] at hL
  rw [encL, e17]
  unfold plainL
  by_cases c : o = 2
  ·rw [if_pos c, tNat, encL]
   refine step_t (by simp [c]) (step_b (s41 n (by omega)) (step_t rfl (step_t (firstL l) (step_t (by rw [lenL, Nat.ble_eq]; omega) ?_))))
   rw [lenL]
   exact hL _ _ _ _ _
  ·rw [if_neg c, encL]
   refine step_f (by simp [c]) (step_t (firstL l) (step_t (by rw [lenL, Nat.ble_eq]; omega) ?_))
   rw [lenL]
   exact hL _ _ _ _ _
theorem l17 : ∀ (r pre : List Lam) (n q : Nat) (o m : Int), r.length < q → 2 * wLs r + 4 ≤ n → wLs r ≤ 500000000000 → (pre ++ r).length ≤ 1000000000000 →
  ∀ (s : List UInt8) (u : List Tree) (j1 j2 : Int) (j3 : List UInt8),
  L17_0 n q ((pre ++ r).length : Nat) (pre.length : Nat) o m s u (encLs (pre ++ r)) j1 j2 j3 = some (.agg [I o, I m, .str s, .slc u, .slc (encLs (pre ++ plainLs r))])
 | [], pre, n, q, o, m, hq, hn, hs, hb => fun s u j1 j2 j3 => by
  obtain ⟨q, rfl⟩ : ∃ k, q = k + 1 := ⟨q - 1, by omega⟩
  rw [show q + 1 = Nat.succ q from rfl, l17_0, bif_neg (by simp)]
  simp [plainLs]
 | x :: r, pre, n, q, o, m, hq, hn, hs, hb => fun s u j1 j2 j3 => by
  obtain ⟨q, rfl⟩ : ∃ k, q = k + 1 := ⟨q - 1, by omega⟩
  simp only [List.length_cons] at hq
  have hx := wL_pos x
  simp only [wLs] at hn hs
  have hpl : pre.length < (pre ++ x :: r).length := by simp
  have hc : (decide ((0 : Int) ≤ (pre.length : Nat)) && (decide (((pre.length : Nat) : Int) < ((encLs (pre ++ x :: r)).length : Nat)) && true)) = true := by
   rw [lenL, decide_eq_true (by omega), decide_eq_true (by omega)]; rfl
  rw [show q + 1 = Nat.succ q from rfl, l17_0, bif_pos (by exact decide_eq_true (by omega)), bif_pos hc, Int.toNat_natCast, nthL, Option.bind_some, okL_sh, cond_true, lookL, s17 x (by omega) n (by omega), Option.bind_some, okL_sh, cond_true, bif_pos hc, Option.bind_some, okL_sh, cond_true, lookL]
  have ih := l17 r (pre ++ [plainL x]) n q o m (by omega) (by omega) (by omega) (by simp at hb ⊢; omega) s u j1 j2 j3
  simp only [List.append_assoc, List.singleton_append, List.length_append, List.length_singleton] at ih
  have hset : setN (encLs (pre ++ x :: r)) pre.length (encL (plainL x)) = encLs (pre ++ plainL x :: r) := by
   have := setN_app (encL x) (encL (plainL x)) (encLs r) (encLs pre)
   rw [lenL] at this
   simpa [encLs_map] using this
  rw [hset, w64 (by simp at hb; omega)]
  simpa [plainLs] using ih
end
end Go.Proofs.Cw.Si
end

/-
  TERMS WITHOUT TYPES 2: the reference's erased, closed, dressed; what Infer is given.
-/
section
namespace Go.Proofs.Cw.Si
open Go.Proofs
mutual
def closR (d : Int) : Lam → Bool
 | .mk o n _ l => !(decide (o = 1) && decide (n ≥ d)) && closRs (d + bindsN o l.length) l
def closRs (d : Int) : List Lam → Bool
 | [] => true
 | t :: r => closR d t && closRs d r
end
mutual
def dressL : Lam → Lam
 | .mk o n _ l => .mk o n (if o = 2 then tNat else tyZero) (dressLs l)
def dressLs : List Lam → List Lam
 | [] => []
 | t :: r => dressL t :: dressLs r
end
theorem s51 (o m : Int) (s : List UInt8) (u : List Ty) (l : List Lam) : Ev E 3 51 [encL (.mk o m (.mk s u) l)] (I (bindsN o l.length)) := by
 have h72 : Ev E 2 72 [encL (.mk o m (.mk s u) l)] (.bool (partsN o == (l.length : Nat))) := Ev.mk fun n hn => by
  rw [encL, e72]
  refine step_b (s70 o n hn) (step_t rfl ?_)
  rw [lenL]; rfl
 refine Ev.mk fun n hn => ?_
 have h72 := h72 n hn
 rw [encL] at h72 ⊢
 rw [e51]
 unfold bindsN
 by_cases c : o = 2
 ·refine step_t (by simp [c]) (step_b h72 (step_t rfl ?_))
  subst c
  by_cases c2 : l.length = 1
  ·rw [if_pos ⟨rfl, c2⟩, c2]; rfl
  ·rw [if_neg fun h => c2 h.2]
   refine step_f ?_ rfl
   show (partsN 2 == (l.length : Nat)) = false
   have : partsN 2 = 1 := rfl
   rw [this]
   simp; omega
 ·rw [if_neg fun h => c h.1]
  exact step_f (by simp [c]) rfl
theorem bindsN_le (o : Int) (k : Nat) : 0 ≤ bindsN o k ∧ bindsN o k ≤ 1 := by unfold bindsN; split <;> omega
mutual
theorem s21 : ∀ t : Lam, wL t ≤ 500000000000 → Ev E (2 * wL t + 4) 21 [encL t] (.bool (erL t))
 | .mk o m (.mk s u) l, h => Ev.mk fun n hn => by
  have hl := len_wLs l
  unfold wL at h hn
  have h8 := s8 (.mk s u) tyZero (by omega) n (by omega)
  have e8 : eqT (.mk s u) tyZero = zeroT (.mk s u) := by
   rw [eqT_dec]
   unfold zeroT tyZero
   cases s <;> cases u <;> simp [Ty.name, Ty.parts]
  rw [e8] at h8
  have hL := l21 l [] n n o m s (encTs u) (by omega) (by omega) (by omega) (by simp; omega)
  simp only [List.nil_append, List.length_nil] at hL
  rw [show ((0 : Nat) : Int) = 0 from rfl] at hL
  rw [encL, e21]
  refine step_b h8 (step_t rfl ?_)
  show (bif !zeroT (.mk s u) then _ else _) = _
  unfold erL
  cases zeroT (.mk s u) with
  | false => rfl
  | true => exact hL
theorem l21 : ∀ (r pre : List Lam) (n q : Nat) (o m : Int) (s : List UInt8) (u : List Tree), r.length < q → 2 * wLs r + 4 ≤ n → wLs r ≤ 500000000000 → (pre ++ r).length ≤ 1000000000000 →
  L21_0 n q (pre.length : Nat) o m s u (encLs (pre ++ r)) = some (.bool (erLs r))
 | [], pre, n, q, o, m, s, u, hq, hn, hs, hb => by
  obtain ⟨q, rfl⟩ : ∃ k, q = k + 1 := ⟨q - 1, by omega⟩
  rw [show q + 1 = Nat.succ q from rfl, l21_0, bif_neg (by rw [lenL]; simp)]
  rfl
 | x :: r, pre, n, q, o, m, s, u, hq, hn, hs, hb => by
  obtain ⟨q, rfl⟩ : ∃ k, q = k + 1 := ⟨q - 1, by omega⟩
  simp only [List.length_cons] at hq
  have hx := wL_pos x
  simp only [wLs] at hn hs
  have hpl : pre.length < (pre ++ x :: r).length := by simp
  have hx := s21 x (by omega) n (by omega)
  rw [show q + 1 = Nat.succ q from rfl, l21_0, bif_pos (by rw [lenL]; exact decide_eq_true (by omega)), bif_pos (by exact decide_eq_true (by omega)), Int.toNat_natCast, nthL, Option.bind_some, okL_sh, cond_true, lookL, hx]
  simp only [Option.bind_some, ok_bool, cond_true, toBool_bool, erLs]
  cases hx2 : erL x with
  | false => simp
  | true =>
   have ih := l21 r (pre ++ [x]) n q o m s u (by omega) (by omega) (by omega) (by simp at hb ⊢; omega)
   simp only [List.append_assoc, List.singleton_append, List.length_append, List.length_singleton] at ih
   rw [w64 (by simp at hb; omega)]
   simpa using ih
end
mutual
theorem s24 : ∀ (t : Lam) (d : Nat), wL t ≤ 500000000000 → d + wL t ≤ 1000000000000 → Ev E (2 * wL t + 4) 24 [encL t, I (d : Nat)] (.bool (closR d t))
 | .mk o m (.mk s u) l, d, h, hd => Ev.mk fun n hn => by
  have hl := len_wLs l
  have hsp := sizeT_pos (.mk s u)
  unfold wL at h hn hd
  have hL := l24 l [] n n o m s u d (by omega) (by omega) (by omega) (by omega) (by simp; omega)
  simp only [List.nil_append, List.length_nil] at hL
  rw [show ((0 : Nat) : Int) = 0 from rfl] at hL
  rw [encL, e24]
  unfold closR
  by_cases c : o = 1
  ·refine step_t (by simp [c]) ?_
   by_cases c2 : m ≥ d
   ·refine step_t (decide_eq_true c2) ?_
    simp [c, c2]
   ·refine step_f (decide_eq_false c2) ?_
    rw [hL]; simp [c, c2]
  ·refine step_f (by simp [c]) ?_
   rw [hL]; simp [c]
theorem l24 : ∀ (r pre : List Lam) (n q : Nat) (o m : Int) (s : List UInt8) (u : List Ty) (d : Nat), r.length < q → 2 * wLs r + 5 ≤ n → wLs r ≤ 500000000000 → d + 1 + wLs r ≤ 1000000000000 → (pre ++ r).length ≤ 1000000000000 →
  L24_0 n q (d : Nat) (pre.length : Nat) o m s (encTs u) (encLs (pre ++ r)) = some (.bool (closRs (d + bindsN o (pre ++ r).length) r))
 | [], pre, n, q, o, m, s, u, d, hq, hn, hs, hd, hb => by
  obtain ⟨q, rfl⟩ : ∃ k, q = k + 1 := ⟨q - 1, by omega⟩
  rw [show q + 1 = Nat.succ q from rfl, l24_0, bif_neg (by rw [lenL]; simp)]
  rfl
 | x :: r, pre, n, q, o, m, s, u, d, hq, hn, hs, hd, hb => by
  obtain ⟨q, rfl⟩ : ∃ k, q = k + 1 := ⟨q - 1, by omega⟩
  simp only [List.length_cons] at hq
  have hx := wL_pos x
  simp only [wLs] at hn hs hd
  have hpl : pre.length < (pre ++ x :: r).length := by simp
  have h51 := s51 o m s u (pre ++ x :: r) n (by omega)
  rw [encL] at h51
  have hbn := bindsN_le o (pre ++ x :: r).length
  obtain ⟨d', hd'⟩ : ∃ d' : Nat, (d : Int) + bindsN o (pre ++ x :: r).length = (d' : Nat) := ⟨((d : Int) + bindsN o (pre ++ x :: r).length).toNat, by omega⟩
  have hx := s24 x d' (by omega) (by omega) n (by omega)
  rw [show q + 1 = Nat.succ q from rfl, l24_0, bif_pos (by rw [lenL]; exact decide_eq_true (by omega)), bif_pos (by exact decide_eq_true (by omega)), Int.toNat_natCast, nthL, Option.bind_some, okL_sh, cond_true, h51]
  simp only [Option.bind_some, ok_int, cond_true, toInt_int]
  rw [lookL, w64 (x := (d : Int) + _) (by omega), hd', hx]
  simp only [Option.bind_some, ok_bool, cond_true, toBool_bool, closRs]
  cases hx2 : closR d' x with
  | false => simp
  | true =>
   have ih := l24 r (pre ++ [x]) n q o m s u d (by omega) (by omega) (by omega) (by omega) (by simp at hb ⊢; omega)
   simp only [List.append_assoc, List.singleton_append, List.length_append, List.length_singleton] at ih
   have hpe : pre.length + (r.length + 1) = (pre ++ x :: r).length := by simp
   simp only [List.length_cons] at ih
   rw [hpe, hd'] at ih
   rw [w64 (by simp at hb; omega)]
   simpa using ih
end
def D23 (row : Bool) (n q : Nat) (i o m : Int) (s : List UInt8) (u p : List Tree) (j1 j2 : Int) (j3 : List UInt8) (o' m' : Int) (s' : List UInt8) (acc : List Tree) : Option Tree :=
 match row, acc with
 | false, [] => L23_0 n q i o m s u p j1 j2 j3 o' m' s'
 | false, acc => L23_0b n q i o m s u p j1 j2 j3 o' m' s' acc
 | true, [] => L23_0c n q i o m s u p j1 j2 j3 o' m' s' []
 | true, acc => L23_0x3 n q i o m s u p j1 j2 j3 o' m' s' [] acc
mutual
theorem s23 : ∀ t : Lam, wL t ≤ 500000000000 → Ev E (2 * wL t + 4) 23 [encL t] (encL (dressL t))
 | .mk o m (.mk s u) l, h => Ev.mk fun n hn => by
  have hl := len_wLs l
  unfold wL at h hn
  have hL := fun row s' => l23 l [] [] n n o m s (encTs u) row s' (by omega) (by omega) (by omega) (by simp; omega) 0 0 [] o m
  simp only [List.nil_append, List.length_nil] at hL
  rw [show ((0 : Nat) : Int) = 0 from rfl] at hL
  rw [encL, e23]
  unfold dressL
  by_cases c : o = 2
  ·rw [if_pos c, tNat, encL]
   exact step_t (by simp [c]) (step_b (s50 n (by omega)) (step_t rfl (hL true sNat)))
  ·rw [if_neg c, tyZero, encL]
   exact step_f (by simp [c]) (hL false [])
theorem l23 : ∀ (r pre : List Lam) (acc : List Tree) (n q : Nat) (o m : Int) (s : List UInt8) (u : List Tree) (row : Bool) (s' : List UInt8), r.length < q → 2 * wLs r + 4 ≤ n → wLs r ≤ 500000000000 → acc.length + r.length + (pre ++ r).length ≤ 1500000000000 →
  ∀ (j1 j2 : Int) (j3 : List UInt8) (o' m' : Int),
  D23 row n q (pre.length : Nat) o m s u (encLs (pre ++ r)) j1 j2 j3 o' m' s' acc = some (.agg [I o', I m', .str s', .slc [], .slc (acc ++ encLs (dressLs r))])
 | [], pre, acc, n, q, o, m, s, u, row, s', hq, hn, hs, hb => fun j1 j2 j3 o' m' => by
  obtain ⟨q, rfl⟩ : ∃ k, q = k + 1 := ⟨q - 1, by omega⟩
  simp only [show q + 1 = Nat.succ q from rfl]
  cases row with
  | false =>
   cases acc with
   | nil =>
    show L23_0 n (Nat.succ q) _ _ _ _ _ _ _ _ _ _ _ _ = _
    rw [l23_0, bif_neg (by rw [lenL]; simp)]
    simp [dressLs, encLs]
   | cons a ac =>
    show L23_0b n (Nat.succ q) _ _ _ _ _ _ _ _ _ _ _ _ _ = _
    rw [l23_0b, bif_neg (by rw [lenL]; simp)]
    simp [dressLs, encLs]
  | true =>
   cases acc with
   | nil =>
    show L23_0c n (Nat.succ q) _ _ _ _ _ _ _ _ _ _ _ _ _ = _
    rw [l23_0c, bif_neg (by rw [lenL]; simp)]
    simp [dressLs, encLs]
   | cons a ac =>
    show L23_0x3 n (Nat.succ q) _ _ _ _ _ _ _ _ _ _ _ _ _ _ = _
    rw [l23_0x3, bif_neg (by rw [lenL]; simp)]
    simp [dressLs, encLs]
 | x :: r, pre, acc, n, q, o, m, s, u, row, s', hq, hn, hs, hb => fun j1 j2 j3 o' m' => by
  obtain ⟨q, rfl⟩ : ∃ k, q = k + 1 := ⟨q - 1, by omega⟩
  simp only [List.length_cons] at hq hb
  have hx := wL_pos x
  simp only [wLs] at hn hs
  have hpl : pre.length < (pre ++ x :: r).length := by simp
  have h35 := s23 x (by omega) n (by omega)
  have ih := l23 r (pre ++ [x]) (acc ++ [encL (dressL x)]) n q o m s u row s' (by omega) (by omega) (by omega) (by simp at hb ⊢; omega) j1 j2 j3 o' m'
  simp only [List.append_assoc, List.singleton_append, List.length_append, List.length_singleton] at ih
  have hgoal : acc ++ encLs (dressLs (x :: r)) = acc ++ ([encL (dressL x)] ++ encLs (dressLs r)) := by
   simp [dressLs, encLs]
  rw [hgoal]
  have hlim : Nat.ble ((acc.length + 1) * 80) 140737488355328 = true := by
   rw [Nat.ble_eq]; omega
  simp only [show q + 1 = Nat.succ q from rfl]
  cases row with
  | false =>
   cases acc with
   | nil =>
    show L23_0 n (Nat.succ q) _ _ _ _ _ _ _ _ _ _ _ _ = _
    rw [l23_0, bif_pos (by rw [lenL]; exact decide_eq_true (by omega)), bif_pos (by exact decide_eq_true (by omega)), Int.toNat_natCast, nthL, Option.bind_some, okL_sh, cond_true, lookL, h35]
    simp only [Option.bind_some, okL_sh, cond_true]
    rw [lookL, w64 (by simp at hb; omega)]
    simp at ih ⊢
    exact ih
   | cons a ac =>
    show L23_0b n (Nat.succ q) _ _ _ _ _ _ _ _ _ _ _ _ _ = _
    rw [l23_0b, bif_pos (by rw [lenL]; exact decide_eq_true (by omega)), bif_pos (by exact decide_eq_true (by omega)), Int.toNat_natCast, nthL, Option.bind_some, okL_sh, cond_true, lookL, h35]
    simp only [Option.bind_some, okL_sh, cond_true]
    rw [bif_pos (by rw [hlim]; rfl), lookL, w64 (by simp at hb; omega)]
    simp at ih ⊢
    exact ih
  | true =>
   cases acc with
   | nil =>
    show L23_0c n (Nat.succ q) _ _ _ _ _ _ _ _ _ _ _ _ _ = _
    rw [l23_0c, bif_pos (by rw [lenL]; exact decide_eq_true (by omega)), bif_pos (by exact decide_eq_true (by omega)), Int.toNat_natCast, nthL, Option.bind_some, okL_sh, cond_true, lookL, h35]
    simp only [Option.bind_some, okL_sh, cond_true]
    rw [lookL, w64 (by simp at hb; omega)]
    simp at ih ⊢
    exact ih
   | cons a ac =>
    show L23_0x3 n (Nat.succ q) _ _ _ _ _ _ _ _ _ _ _ _ _ _ = _
    rw [l23_0x3, bif_pos (by rw [lenL]; exact decide_eq_true (by omega)), bif_pos (by exact decide_eq_true (by omega)), Int.toNat_natCast, nthL, Option.bind_some, okL_sh, cond_true, lookL, h35]
    simp only [Option.bind_some, okL_sh, cond_true]
    rw [bif_pos (by rw [hlim]; rfl), lookL, w64 (by simp at hb; omega)]
    simp at ih ⊢
    exact ih
end
end Go.Proofs.Cw.Si
end

/-
  SIMPLE, the plain part: types found are well formed and not too large.
-/
section
namespace Go.Proofs.Cw.Si
open Go.Proofs
def CtxOk (ctx : List Ty) : Prop := ∀ x, x ∈ ctx → formed x = true ∧ sizeT x ≤ 60
structure Sh1 (o n : Int) (t : Ty) (l : List Lam) : Prop where
 len : (l.length : Int) = partsN o
 lo : 0 ≤ n
 hi : n ≤ topN o
 lam : o = 2 → formed t = true ∧ sizeT t ≤ 60
 zero : o ≠ 2 → t = tyZero
 parts : shapeds l = true
theorem zeroT_eq {t : Ty} (h : zeroT t = true) : t = tyZero := by
 cases t with
 | mk s l =>
 unfold zeroT at h
 simp only [Bool.and_eq_true, Ty.name, Ty.parts, List.isEmpty_iff] at h
 rw [h.1, h.2]; rfl
theorem shaped_eq {o n : Int} {t : Ty} {l : List Lam} (h : shaped (.mk o n t l) = true) : Sh1 o n t l := by
 unfold shaped at h
 simp only [Bool.and_eq_true, beq_iff_eq, decide_eq_true_eq] at h
 obtain ⟨⟨⟨⟨h1, h2⟩, h3⟩, h4⟩, h5⟩ := h
 refine ⟨h1, h2, h3, fun e => ?_, fun e => ?_, h5⟩
 ·rw [if_pos e] at h4
  unfold validT at h4
  simp only [Bool.and_eq_true, decide_eq_true_eq] at h4
  exact ⟨h4.2, h4.1.1⟩
 ·rw [if_neg e] at h4
  exact zeroT_eq h4
theorem CtxOk.push {ctx : List Ty} {t : Ty} (h : CtxOk ctx) (ht : formed t = true ∧ sizeT t ≤ 60) : CtxOk (ctx ++ [t]) := by
 intro x hx
 rcases List.mem_append.1 hx with hx | hx
 ·exact h x hx
 ·simp at hx; subst hx; exact ht
end Go.Proofs.Cw.Si
end

/-
  TERMS WITHOUT TYPES 3: what Infer is given; what it is to say.
-/
section
namespace Go.Proofs.Cw.Si
open Go.Proofs
mutual
theorem plain_dress : ∀ t : Lam, erL t = true → plainL t = dressL t
 | .mk o n t l, h => by
  unfold erL at h
  simp only [Bool.and_eq_true] at h
  unfold plainL dressL
  rw [plains_dress l h.2, zeroT_eq h.1]
theorem plains_dress : ∀ l : List Lam, erLs l = true → plainLs l = dressLs l
 | [], _ => rfl
 | t :: r, h => by
  unfold erLs at h
  simp only [Bool.and_eq_true] at h
  unfold plainLs dressLs
  rw [plain_dress t h.1, plains_dress r h.2]
end
theorem dressLs_len : ∀ l : List Lam, (dressLs l).length = l.length
 | [] => rfl
 | _ :: r => by simp [dressLs, dressLs_len r]
mutual
theorem clos_same : ∀ (t : Lam) (d : Int), shaped (dressL t) = true → closR d t = closL d t
 | .mk o n t l, d, h => by
  unfold dressL at h
  have q := shaped_eq h
  have hl : (l.length : Int) = partsN o := by rw [← dressLs_len l]; exact q.len
  unfold closR closL
  by_cases c : o = 1
  ·subst c
   have e : l = [] := List.length_eq_zero_iff.1 (by have : partsN 1 = 0 := rfl; omega)
   subst e
   rw [if_pos rfl]
   by_cases c2 : n < d
   ·simp [c2, closRs]
   ·simp [c2]
  ·rw [if_neg c, decide_eq_false c, Bool.false_and, Bool.not_false, Bool.true_and]
   have e : d + bindsN o l.length = if o = 2 then d + 1 else d := by
    unfold bindsN
    by_cases c2 : o = 2
    ·subst c2
     have : partsN 2 = 1 := rfl
     rw [if_pos ⟨rfl, by omega⟩, if_pos rfl]
    ·rw [if_neg fun x => c2 x.1, if_neg c2]; omega
   rw [e]
   exact closs_same l _ q.parts
theorem closs_same : ∀ (l : List Lam) (d : Int), shapeds (dressLs l) = true → closRs d l = closLs d l
 | [], _, _ => rfl
 | t :: r, d, h => by
  unfold dressLs shapeds at h
  simp only [Bool.and_eq_true] at h
  unfold closRs closLs
  rw [clos_same t d h.1, closs_same r d h.2]
end
mutual
theorem wL_dress : ∀ t : Lam, wL (dressL t) ≤ wL t
 | .mk o n t l => by
  have h1 := wLs_dress l
  have h2 := sizeT_pos t
  unfold dressL wL
  have : sizeT (if o = 2 then tNat else tyZero) = 1 := by split <;> rfl
  omega
theorem wLs_dress : ∀ l : List Lam, wLs (dressLs l) ≤ wLs l
 | [] => Nat.le_refl _
 | t :: r => by
  have h1 := wL_dress t
  have h2 := wLs_dress r
  unfold dressLs wLs
  omega
end
mutual
theorem sizeL_dress : ∀ t : Lam, sizeL (dressL t) = sizeL t
 | .mk o n t l => by unfold dressL sizeL; rw [sizeLs_dress l]
theorem sizeLs_dress : ∀ l : List Lam, sizeLs (dressLs l) = sizeLs l
 | [] => rfl
 | t :: r => by unfold dressLs sizeLs; rw [sizeL_dress t, sizeLs_dress r]
end
mutual
theorem esh_of : ∀ (t : Lam) (d : Nat), shaped (dressL t) = true → closL d t = true → esh d t
 | .mk o n t l, d, h, hc => by
  unfold dressL at h
  have q := shaped_eq h
  have hl : (l.length : Int) = partsN o := by rw [← dressLs_len l]; exact q.len
  unfold closL at hc
  unfold esh
  by_cases c : o = 1
  ·subst c
   have e : l = [] := List.length_eq_zero_iff.1 (by have : partsN 1 = 0 := rfl; omega)
   subst e
   rw [if_pos rfl] at hc
   exact ⟨hl, fun _ => ⟨q.lo, of_decide_eq_true hc⟩, trivial⟩
  ·rw [if_neg c] at hc
   refine ⟨hl, fun x => absurd x c, ?_⟩
   by_cases c2 : o = 2
   ·rw [if_pos c2] at hc ⊢
    exact eshs_of l (d + 1) q.parts (by rw [show (((d + 1 : Nat)) : Int) = (d : Int) + 1 by omega]; exact hc)
   ·rw [if_neg c2] at hc ⊢
    exact eshs_of l d q.parts hc
theorem eshs_of : ∀ (l : List Lam) (d : Nat), shapeds (dressLs l) = true → closLs d l = true → eshs d l
 | [], _, _, _ => trivial
 | t :: r, d, h, hc => by
  unfold dressLs shapeds at h
  unfold closLs at hc
  simp only [Bool.and_eq_true] at h hc
  exact ⟨esh_of t d h.1 hc.1, eshs_of r d h.2 hc.2⟩
end
def inOk (t : Lam) : Bool := erL t && (validL (dressL t) && closL 0 t)
theorem inOk_iff {t : Lam} (h : inOk t = true) : esh 0 t ∧ sizeL t ≤ 300 := by
 unfold inOk validL at h
 simp only [Bool.and_eq_true, decide_eq_true_eq] at h
 exact ⟨esh_of t 0 h.2.1.2 h.2.2, by rw [← sizeL_dress t]; exact h.2.1.1.1⟩
def Most (t : Lam) : Option FT → Prop
 | none => ∀ τ, ¬ Has [] t τ
 | some τ => ∀ σ, Has [] t σ ↔ ∃ ρ, σ = τ.sub ρ
def outI : Option FT → Ty × Int
 | none => (tyZero, 250)
 | some τ => if τ.size ≤ 200 then ((tell nmI τ []).1, 0) else (tyZero, 2)
theorem Most.same {t : Lam} {r s : Option FT} (h : Most t r) (k : Most t s) : outI r = outI s := by
 cases r with
 | none =>
  cases s with
  | none => rfl
  | some τ => exact absurd ((k (τ.sub .var)).2 ⟨_, rfl⟩) (h _)
 | some σ =>
  cases s with
  | none => exact absurd ((h (σ.sub .var)).2 ⟨_, rfl⟩) (k _)
  | some τ =>
   have a := (h (σ.sub .var)).2 ⟨_, rfl⟩
   have b := (k (τ.sub .var)).2 ⟨_, rfl⟩
   rw [FT.sub_var] at a b
   obtain ⟨ρ, e1⟩ := (k σ).1 a
   obtain ⟨η, e2⟩ := (h τ).1 b
   obtain ⟨q1, q2⟩ := tell_same nmI e1.symm e2.symm
   simp only [outI, q1, q2]
end Go.Proofs.Cw.Si
end

/-
  THE INFERER'S WORLD 16: Infer.
-/
section
namespace Go.Proofs.Cw.Si
open Go.Proofs
def noN : NT := fun _ => none
theorem Wok.first : Wok [.map [], .cells [I 0, .wm 0]] 1 0 noN 0 [] where
 hf := rfl
 hm := rfl
 hN i nd h := by cases h
 le i k h := by cases h
 tot i nd h := by cases h
 tg k j h := by cases h
 src k j h := by cases h
 kid i p a b h := by cases h
 nx := by omega
theorem most_of {f m : Nat} {t : Lam} {G G' : World'} {i : Nat} {N' : NT} {next' : Nat} {es' : Bd} {τ : FT} (h : Infd f m noN 0 [] [] [t] G G' [i] N' next' es') (hr : Res N' es' i τ) : Most t (some τ) := by
 intro σ
 constructor
 ·intro ht
  obtain ⟨θ', _, s, v⟩ := h.full .var [] [σ] (fun k j hk => by cases hk) .nil (.cons ht .nil)
  exact ⟨θ', v.one_of.det (hr.val s)⟩
 ·rintro ⟨ρ, rfl⟩
  obtain ⟨θ, s, _, hv⟩ := Sol.of h.w.tot h.w.tg h.w.src ρ
  obtain ⟨_, k⟩ := h.sound θ s
  obtain ⟨τs, v, hl⟩ := k [] .nil
  obtain ⟨τ', rfl, ht⟩ := hl.one
  rw [v.one_of.det (hv i τ hr)] at ht
  exact ht
theorem most_no {t : Lam} (h : Non noN [] [] [t]) : Most t none := fun τ ht => h .var [] [τ] (fun k j hk => by cases hk) .nil (.cons ht .nil)
theorem s6_no {t : Lam} (ht : wL t ≤ 500000000000) (h : inOk t = false) : ∃ c, EvW E c 6 [encL t] [] (.tup [encT tyZero, I 4]) [] := by
 refine ⟨8 * wL t + 6 + 1, EvW.mk fun n hn => ?_⟩
 have hw := wL_dress t
 have h15 := s15 t ht n (by omega)
 have h17 := s17 t ht n (by omega)
 have h18 := s18 t 0 ht (by omega) n (by omega)
 rw [encL_eta] at h15 h17 h18 ⊢
 rw [w6]
 refine step_b h15 (step_t rfl ?_)
 unfold inOk at h
 cases he : erL t with
 | false => exact step_t rfl rfl
 | true =>
  rw [he, Bool.true_and] at h
  have h16 := s16 (dressL t) (by omega) n (by omega)
  rw [plain_dress t he] at h17
  rw [encL_eta] at h16 h17
  refine step_f rfl (step_b h17 (step_t rfl (step_b h16 (step_t rfl ?_))))
  cases hv : validL (dressL t) with
  | false => exact step_t rfl rfl
  | true =>
   rw [hv, Bool.true_and] at h
   refine step_f rfl (step_b h18 (step_t rfl ?_))
   show (bif !closL ((0 : Nat) : Int) t then _ else _) = _
   rw [show closL ((0 : Nat) : Int) t = false from h]
   rfl
theorem s6 {t : Lam} (ht : wL t ≤ 500000000000) (h : inOk t = true) : ∃ r, Most t r ∧ ∃ c G', EvW E c 6 [encL t] [] (.tup [encT (outI r).1, I (outI r).2]) G' := by
 obtain ⟨hsh, hsz⟩ := inOk_iff h
 obtain ⟨c, v, u, G1, e, hc⟩ := s19 (f := 1) (m := 0) (by omega) t [] hsh (by simp; omega) (by omega) _ _ _ _ Wok.first (fun i hi => by simp at hi) (by omega)
 have hw := wL_dress t
 unfold inOk at h
 simp only [Bool.and_eq_true] at h
 have step : ∀ n, 8 * wL t + 6 ≤ n → ∀ R, Option.bind (evW (Tab.env tab) n 19 [.wp 1 0, .slc [], encL t] [.map [], .cells [I 0, .wm 0]]) (fun y =>
   bif Sh.ok (Sh.tup [Sh.any, Sh.bool]) (Prod.fst y) then
    bif !Tree.toBool (List.headD (List.tail (Tree.tupl (Prod.fst y))) (Tree.bool false)) then
     some (Tree.tup [Tree.agg [Tree.str [], Tree.slc []], Tree.int IntKind.i64 250], Prod.snd y)
    else
     Option.bind (wset (Prod.snd y ++ [WObj.cells [Tree.int IntKind.i64 0]]) (List.length (Prod.snd y)) 0 [Tree.int IntKind.i64 200])
      fun y_1 =>
      Option.bind
       (evW (Tab.env tab) n 20
        [Tree.wp 1 0, List.headD (Tree.tupl (Prod.fst y)) (Tree.bool false),
         Tree.wm (List.length y_1), Tree.wp (List.length (Prod.snd y)) 0]
        (y_1 ++ [WObj.map []]))
       fun y =>
       bif Sh.ok (Sh.tup [Sh.agg [Sh.str, Sh.slc], Sh.bool]) (Prod.fst y) then
        bif !Tree.toBool (List.headD (List.tail (Tree.tupl (Prod.fst y))) (Tree.bool false)) then
         some (Tree.tup [Tree.agg [Tree.str [], Tree.slc []], Tree.int IntKind.i64 2], Prod.snd y)
        else
         some
          (Tree.tup
            [Tree.agg
              [Tree.str
                (Tree.toStr (List.headD (Tree.cs (List.headD (Tree.tupl (Prod.fst y)) (Tree.bool false))) (Tree.bool false))),
               Tree.slc
                (Tree.elems
                 (List.headD (List.tail (Tree.cs (List.headD (Tree.tupl (Prod.fst y)) (Tree.bool false))))
                  (Tree.bool false)))],
             Tree.int IntKind.i64 0],
           Prod.snd y)
       else none
   else none) = R → evWQ (Tab.env tab) n 6 [encL t] [] = R := by
  intro n hn R hR
  have h15 := s15 t ht n (by omega)
  have h17 := s17 t ht n (by omega)
  have h18 := s18 t 0 ht (by omega) n (by omega)
  have h16 := s16 (dressL t) (by omega) n (by omega)
  rw [plain_dress t h.1] at h17
  rw [h.1] at h15
  rw [show closL ((0 : Nat) : Int) t = true from h.2.2] at h18
  rw [h.2.1] at h16
  rw [encL_eta] at h15 h17 h18 h16 hR ⊢
  rw [encL_eta (dressL t)] at h17
  rw [w6]
  exact step_b h15 (step_t rfl (step_f rfl (step_b h17 (step_t rfl (step_b h16 (step_t rfl (step_f rfl (step_b h18 (step_t rfl (step_f rfl hR))))))))))
 rcases hc with ⟨rfl, hu, no⟩ | ⟨rfl, i, N', next', es', rfl, a⟩
 ·refine ⟨none, most_no no, c + (8 * wL t + 6) + 1, G1, EvW.mk fun n hn => step n (by omega) _ ?_⟩
  exact step_b (e n (by omega)) (step_t (by simp [Sh.ok, Sh.oks, hu]) (step_t rfl rfl))
 ·obtain ⟨nd, hnd⟩ := a.kn i (by simp)
  obtain ⟨τ, hr⟩ := a.w.tot i nd hnd
  refine ⟨some τ, most_of a hr, ?_⟩
  have hlen := a.w.new
  have hset : wset (G1 ++ [WObj.cells [I 0]]) G1.length 0 [I 200] = some (G1 ++ [WObj.cells [I 200]]) := by
   unfold wset
   simp only [nth_app_new]
   show some (setN (G1 ++ [WObj.cells [I 0]]) G1.length (.cells [I 200])) = _
   rw [setN_app]
  have w2 := (a.w.app [WObj.cells [I 200]]).app [WObj.map []]
  have hl2 : (G1 ++ [WObj.cells [I 200]]).length = G1.length + 1 := by simp
  have hnew := (a.w.app [WObj.cells [I 200]]).new
  have ts : Tst (G1 ++ [WObj.cells [I 200]] ++ [WObj.map []]) 1 0 N' next' es' (G1 ++ [WObj.cells [I 200]]).length G1.length [] 200 :=
   ⟨w2, nth_app_new _ _, nth_app_left _ (nth_app_new _ _)⟩
  obtain ⟨c2, y, u, G3, e2, ho⟩ := s20 hnew.2.1 hnew.2.2 hnew.1 hlen.2.1 hlen.2.2 hlen.1 (by omega) τ (p := 0) ts hr (by simp)
  refine ⟨c + c2 + (8 * wL t + 6) + 1, G3, EvW.mk fun n hn => step n (by omega) _ ?_⟩
  refine step_b (e n (by omega)) (step_t rfl (step_f rfl (step_b hset (step_b (e2 n (by omega)) ?_))))
  cases y with
  | mk sy ly =>
  rcases ho with ⟨rfl, hs⟩ | ⟨rfl, hs, hy, _, _⟩
  ·refine step_t rfl (step_t rfl ?_)
   simp only [outI]
   rw [if_neg (by omega)]
   rfl
  ·refine step_t rfl (step_f rfl ?_)
   simp only [outI]
   rw [if_pos hs, ← hy]
   rfl
mutual
theorem noWT : ∀ t : Ty, noW (encT t) = true
 | .mk s l => by
  unfold encT
  simp only [noW, noWs, noWTs l]; rfl
theorem noWTs : ∀ l : List Ty, noWs (encTs l) = true
 | [] => rfl
 | t :: r => by
  unfold encTs
  simp only [noWs, noWT t, noWTs r]; rfl
end
mutual
theorem noWL : ∀ t : Lam, noW (encL t) = true
 | .mk o n (.mk s u) l => by
  unfold encL
  simp only [noW, noWs, noWTs u, noWLs l]; rfl
theorem noWLs : ∀ l : List Lam, noWs (encLs l) = true
 | [] => rfl
 | t :: r => by
  unfold encLs
  simp only [noWs, noWL t, noWLs r]; rfl
end
def InferSays (t : Lam) (r : Ty × Int) : Prop := (inOk t = false ∧ r = (tyZero, 4)) ∨ (inOk t = true ∧ ∃ o, Most t o ∧ r = outI o)
theorem InferSays.same {t : Lam} {r s : Ty × Int} (h : InferSays t r) (k : InferSays t s) : r = s := by
 rcases h with ⟨h1, h2⟩ | ⟨h1, o, h2, h3⟩
 ·rcases k with ⟨k1, k2⟩ | ⟨k1, _⟩
  ·rw [h2, k2]
  ·rw [h1] at k1; cases k1
 ·rcases k with ⟨k1, k2⟩ | ⟨k1, o', k2, k3⟩
  ·rw [h1] at k1; cases k1
  ·rw [h3, k3, h2.same k2]
theorem i6 {t : Lam} (ht : wL t ≤ 500000000000) : ∃ c r, InferSays t r ∧ Ev E c 6 [encL t] (.tup [encT r.1, I r.2]) := by
 have hr : E.root 6 = true := rfl
 have hx : noWs [encL t] = true := by simp only [noWs, noWL]; rfl
 have hy : ∀ r : Ty × Int, noW (.tup [encT r.1, I r.2]) = true := fun r => by simp only [noW, noWs, noWT]; rfl
 cases h : inOk t with
 | false =>
  obtain ⟨c, e⟩ := s6_no ht h
  exact ⟨c, (tyZero, 4), .inl ⟨h, rfl⟩, Ev.root hr hx e (hy (tyZero, 4))⟩
 | true =>
  obtain ⟨o, mo, c, G', e⟩ := s6 ht h
  exact ⟨c, outI o, .inr ⟨h, o, mo, rfl⟩, Ev.root hr hx e (hy (outI o))⟩
end Go.Proofs.Cw.Si
end

/-
  THE GRAPH 1, plain: types that share parts, where nodes lead, what types the nodes may stand for.
-/
section
namespace Go.Proofs.Cw.Si
inductive GK where
 | var
 | nat
 | bin (p : Bool) (a b : Nat)
structure GN where
 to : Option Nat
 k : GK
inductive At (gr : List GN) : Nat → Nat → Prop where
 | root {i : Nat} {k : GK} : gr[i]? = some ⟨none, k⟩ → At gr i i
 | link {i j r : Nat} {k : GK} : gr[i]? = some ⟨some j, k⟩ → At gr j r → At gr i r
def GN.holds (θ : Nat → FT) (i : Nat) (g : GN) : Prop :=
 match g.to with
 | some j => θ i = θ j
 | none => match g.k with
  | .var => True
  | .nat => θ i = .nat
  | .bin p a b => θ i = .bin p (θ a) (θ b)
def GS (gr : List GN) (θ : Nat → FT) : Prop := ∀ (i : Nat) (g : GN), gr[i]? = some g → g.holds θ i
structure Gok (gr : List GN) : Prop where
 to : ∀ (i j : Nat) (k : GK), gr[i]? = some ⟨some j, k⟩ → j < gr.length
 kid : ∀ (i : Nat) (t : Option Nat) (p : Bool) (a b : Nat), gr[i]? = some ⟨t, .bin p a b⟩ → a < gr.length ∧ b < gr.length
 at_ : ∀ i, i < gr.length → ∃ r, At gr i r
def roots : List GN → Nat
 | [] => 0
 | g :: r => (match g.to with | none => 1 | some _ => 0) + roots r
theorem At.root_of {gr : List GN} {i r : Nat} (h : At gr i r) : ∃ k, gr[r]? = some ⟨none, k⟩ := by
 induction h with
 | root h => exact ⟨_, h⟩
 | link _ _ ih => exact ih
theorem At.det {gr : List GN} {i r : Nat} (h : At gr i r) : ∀ {s : Nat}, At gr i s → r = s := by
 induction h with
 | root h =>
  intro s k
  cases k with
  | root _ => rfl
  | link h' _ => rw [h] at h'; cases h'
 | link h _ ih =>
  intro s k
  cases k with
  | root h' => rw [h] at h'; cases h'
  | link h' k => rw [h] at h'; cases h'; exact ih k
theorem At.eq {gr : List GN} {θ : Nat → FT} (sol : GS gr θ) {i r : Nat} (h : At gr i r) : θ i = θ r := by
 induction h with
 | root h => rfl
 | link h _ ih => exact (show θ _ = θ _ from sol _ _ h).trans ih
theorem At.lt {gr : List GN} {i r : Nat} (h : At gr i r) : r < gr.length := by
 obtain ⟨k, hk⟩ := h.root_of
 exact (List.getElem?_eq_some_iff.1 hk).1
theorem At.self {gr : List GN} {i r : Nat} (h : At gr i r) : At gr r r := by
 obtain ⟨k, hk⟩ := h.root_of
 exact .root hk
def leadTo (gr : List GN) (i j : Nat) (k : GK) : List GN := gr.set i ⟨some j, k⟩
section
variable {gr : List GN} {i j : Nat} {k : GK}
theorem lead_get (hi : gr[i]? = some ⟨none, k⟩) (x : Nat) : (leadTo gr i j k)[x]? = if x = i then some ⟨some j, k⟩ else gr[x]? := by
 unfold leadTo
 have hl := (List.getElem?_eq_some_iff.1 hi).1
 by_cases e : x = i
 ·subst e; rw [if_pos rfl, List.getElem?_set_self hl]
 ·rw [if_neg e, List.getElem?_set_ne fun c => e c.symm]
theorem lead_roots : ∀ {gr : List GN} {i j : Nat}, gr[i]? = some ⟨none, k⟩ → roots (leadTo gr i j k) + 1 = roots gr
 | g :: r, 0, j, h => by
  simp at h
  subst h
  simp [leadTo, roots]; omega
 | g :: r, i + 1, j, h => by
  simp at h
  have := lead_roots (j := j) h
  unfold leadTo at this ⊢
  simp only [List.set_cons_succ, roots]
  omega
theorem lead_at (hi : gr[i]? = some ⟨none, k⟩) (hj : At gr j j) (hne : i ≠ j) {x r : Nat} (h : At gr x r) : At (leadTo gr i j k) x (if r = i then j else r) := by
 obtain ⟨kj, hkj⟩ := hj.root_of
 have hj' : At (leadTo gr i j k) j j := .root (k := kj) (by rw [lead_get hi, if_neg fun e => hne e.symm]; exact hkj)
 induction h with
 | @root x kx h =>
  by_cases e : x = i
  ·rw [if_pos e]
   exact .link (j := j) (k := k) (by rw [lead_get hi, if_pos e]) hj'
  ·rw [if_neg e]
   exact .root (k := kx) (by rw [lead_get hi, if_neg e]; exact h)
 | @link x y r ky h _ ih =>
  refine .link (j := y) (k := ky) ?_ ih
  rw [lead_get hi, if_neg fun e => by rw [e, hi] at h; cases h]
  exact h
theorem lead_len : (leadTo gr i j k).length = gr.length := by simp [leadTo]
theorem lead_ok (g : Gok gr) (hi : gr[i]? = some ⟨none, k⟩) (hj : At gr j j) (hne : i ≠ j) : Gok (leadTo gr i j k) where
 to x y k' h := by
  rw [lead_len]
  rw [lead_get hi] at h
  by_cases e : x = i
  ·rw [if_pos e] at h; cases h; exact hj.lt
  ·rw [if_neg e] at h; exact g.to x y k' h
 kid x t p a b h := by
  rw [lead_len]
  rw [lead_get hi] at h
  by_cases e : x = i
  ·rw [if_pos e] at h; cases h; exact g.kid i _ p a b hi
  ·rw [if_neg e] at h; exact g.kid x t p a b h
 at_ x h := by
  rw [lead_len] at h
  obtain ⟨r, hr⟩ := g.at_ x h
  exact ⟨_, lead_at hi hj hne hr⟩
theorem lead_sol (hi : gr[i]? = some ⟨none, k⟩) {θ : Nat → FT} : GS (leadTo gr i j k) θ ↔ (∀ (x : Nat) (g : GN), x ≠ i → gr[x]? = some g → g.holds θ x) ∧ θ i = θ j := by
 constructor
 ·intro h
  refine ⟨fun x g hx hg => h x g (by rw [lead_get hi, if_neg hx]; exact hg), ?_⟩
  exact h i ⟨some j, k⟩ (by rw [lead_get hi, if_pos rfl])
 ·intro ⟨h1, h2⟩ x g hg
  rw [lead_get hi] at hg
  by_cases e : x = i
  ·rw [if_pos e] at hg; cases hg; rw [e]; exact h2
  ·rw [if_neg e] at hg; exact h1 x g e hg
end
section
variable {gr : List GN}
theorem add_get_lt {x : Nat} {n : GN} (h : x < gr.length) : (gr ++ [n])[x]? = gr[x]? := List.getElem?_append_left h
theorem add_get_new (n : GN) : (gr ++ [n])[gr.length]? = some n := by simp
theorem add_cases {x : Nat} {n g : GN} (h : (gr ++ [n])[x]? = some g) : (x = gr.length ∧ g = n) ∨ gr[x]? = some g := by
 have hl := (List.getElem?_eq_some_iff.1 h).1
 simp at hl
 by_cases e : x = gr.length
 ·subst e
  rw [add_get_new] at h
  cases h
  exact .inl ⟨rfl, rfl⟩
 ·rw [add_get_lt (by omega)] at h
  exact .inr h
theorem add_of {x : Nat} {n g : GN} (h : gr[x]? = some g) : (gr ++ [n])[x]? = some g := by
 rw [add_get_lt (List.getElem?_eq_some_iff.1 h).1]; exact h
theorem add_at {n : GN} {x r : Nat} (h : At gr x r) : At (gr ++ [n]) x r := by
 induction h with
 | root h => exact .root (add_of h)
 | link h _ ih => exact .link (add_of h) ih
theorem add_ok (g : Gok gr) {k : GK} (hk : ∀ p a b, k = .bin p a b → a < gr.length ∧ b < gr.length) : Gok (gr ++ [⟨none, k⟩]) where
 to x y k' h := by
  rw [List.length_append]
  rcases add_cases h with ⟨_, e⟩ | h
  ·cases e
  ·have := g.to x y k' h; omega
 kid x t p a b h := by
  rw [List.length_append]
  rcases add_cases h with ⟨_, e⟩ | h
  ·cases e
   have := hk p a b rfl; omega
  ·have := g.kid x t p a b h; omega
 at_ x h := by
  by_cases e : x = gr.length
  ·rw [e]; exact ⟨_, .root (add_get_new _)⟩
  ·rw [List.length_append] at h
   simp at h
   obtain ⟨r, hr⟩ := g.at_ x (by omega)
   exact ⟨r, add_at hr⟩
theorem add_sol {n : GN} {θ : Nat → FT} : GS (gr ++ [n]) θ ↔ GS gr θ ∧ n.holds θ gr.length := by
 constructor
 ·intro h
  exact ⟨fun x g hg => h x g (add_of hg), h _ _ (add_get_new n)⟩
 ·intro ⟨h1, h2⟩ x g hg
  rcases add_cases hg with ⟨e, rfl⟩ | hg
  ·rw [e]; exact h2
  ·exact h1 x g hg
theorem GS.agree (g : Gok gr) {θ η : Nat → FT} (ha : ∀ x, x < gr.length → η x = θ x) (h : GS gr θ) : GS gr η := by
 intro x n hn
 have hx := (List.getElem?_eq_some_iff.1 hn).1
 have := h x n hn
 unfold GN.holds at this ⊢
 obtain ⟨t, k⟩ := n
 cases t with
 | some j =>
  simp only at this ⊢
  rw [ha x hx, ha j (g.to x j k hn)]; exact this
 | none =>
  cases k with
  | var => trivial
  | nat => simp only at this ⊢; rw [ha x hx]; exact this
  | bin p a b =>
   simp only at this ⊢
   obtain ⟨h1, h2⟩ := g.kid x none p a b hn
   rw [ha x hx, ha a h1, ha b h2]; exact this
end
inductive GRes (gr : List GN) : Nat → FT → Prop where
 | var {i r : Nat} : At gr i r → gr[r]? = some ⟨none, .var⟩ → GRes gr i (.var r)
 | nat {i r : Nat} : At gr i r → gr[r]? = some ⟨none, .nat⟩ → GRes gr i .nat
 | bin {i r : Nat} {p : Bool} {a b : Nat} {x y : FT} : At gr i r → gr[r]? = some ⟨none, .bin p a b⟩ → GRes gr a x → GRes gr b y → GRes gr i (.bin p x y)
theorem GRes.det {gr : List GN} {i : Nat} {x : FT} (h : GRes gr i x) : ∀ {y : FT}, GRes gr i y → x = y := by
 induction h with
 | var a h =>
  intro y k
  cases k with
  | var a' h' => rw [a.det a']
  | nat a' h' => rw [a.det a', h'] at h; cases h
  | bin a' h' _ _ => rw [a.det a', h'] at h; cases h
 | nat a h =>
  intro y k
  cases k with
  | var a' h' => rw [a.det a', h'] at h; cases h
  | nat a' h' => rfl
  | bin a' h' _ _ => rw [a.det a', h'] at h; cases h
 | bin a h _ _ i1 i2 =>
  intro y k
  cases k with
  | var a' h' => rw [a.det a', h'] at h; cases h
  | nat a' h' => rw [a.det a', h'] at h; cases h
  | bin a' h' k1 k2 => rw [a.det a', h'] at h; cases h; rw [i1 k1, i2 k2]
theorem At.trans {gr : List GN} {i r s : Nat} (h : At gr i r) (k : At gr r s) : r = s := h.self.det k
theorem GRes.lead {gr : List GN} {i r : Nat} {x : FT} (h : GRes gr r x) (a : At gr i r) : GRes gr i x := by
 cases h with
 | var a' h => rw [← a.trans a'] at h ⊢; exact .var a h
 | nat a' h => rw [← a.trans a'] at h; exact .nat a h
 | bin a' h k1 k2 => rw [← a.trans a'] at h; exact .bin a h k1 k2
theorem GRes.val {gr : List GN} {θ : Nat → FT} (sol : GS gr θ) {i : Nat} {x : FT} (h : GRes gr i x) : θ i = x.sub θ := by
 induction h with
 | var a h => exact a.eq sol
 | nat a h => exact (a.eq sol).trans (sol _ _ h)
 | bin a h _ _ i1 i2 =>
  rw [a.eq sol]
  refine (show θ _ = _ from sol _ _ h).trans ?_
  rw [i1, i2]; rfl
theorem GS.of {gr : List GN} (ht : ∀ i, i < gr.length → ∃ x, GRes gr i x) (ρ : Nat → FT) : ∃ θ, GS gr θ ∧ ∀ i x, GRes gr i x → θ i = x.sub ρ := by
 have key : ∀ i, ∃ v, ∀ x, GRes gr i x → v = x.sub ρ := by
  intro i
  by_cases hl : i < gr.length
  ·obtain ⟨x, hx⟩ := ht i hl
   exact ⟨x.sub ρ, fun y hy => by rw [hx.det hy]⟩
  ·refine ⟨.nat, fun x hx => ?_⟩
   exfalso
   have : ∀ {i r : Nat}, At gr i r → i < gr.length := fun h => by
    cases h with
    | root h => exact (List.getElem?_eq_some_iff.1 h).1
    | link h _ => exact (List.getElem?_eq_some_iff.1 h).1
   cases hx with
   | var a _ => exact hl (this a)
   | nat a _ => exact hl (this a)
   | bin a _ _ _ => exact hl (this a)
 let θ : Nat → FT := fun i => (key i).choose
 have hθ : ∀ i x, GRes gr i x → θ i = x.sub ρ := fun i x h => (key i).choose_spec x h
 refine ⟨θ, fun i g hg => ?_, hθ⟩
 have hi := (List.getElem?_eq_some_iff.1 hg).1
 obtain ⟨x, hx⟩ := ht i hi
 obtain ⟨t, k⟩ := g
 unfold GN.holds
 cases t with
 | some j =>
  simp only
  have hj : ∃ r, At gr i r := by
   cases hx with
   | var a _ => exact ⟨_, a⟩
   | nat a _ => exact ⟨_, a⟩
   | bin a _ _ _ => exact ⟨_, a⟩
  obtain ⟨r, a⟩ := hj
  cases a with
  | root h => rw [hg] at h; cases h
  | link h aj =>
   rw [hg] at h; cases h
   have hxr : GRes gr r x := by
    have a : At gr i r := .link hg aj
    cases hx with
    | var a' h => rw [← a.det a'] at h ⊢; exact .var aj.self h
    | nat a' h => rw [← a.det a'] at h; exact .nat aj.self h
    | bin a' h k1 k2 => rw [← a.det a'] at h; exact .bin aj.self h k1 k2
   rw [hθ i x hx, hθ _ x (hxr.lead aj)]
 | none =>
  have a : At gr i i := .root hg
  cases k with
  | var => trivial
  | nat => simp only; rw [hθ i _ (.nat a hg)]; rfl
  | bin p b c =>
   simp only
   cases hx with
   | var a' h' => rw [← a.det a', hg] at h'; cases h'
   | nat a' h' => rw [← a.det a', hg] at h'; cases h'
   | bin a' h' k1 k2 =>
    rw [← a.det a', hg] at h'
    cases h'
    rw [hθ i _ (.bin a hg k1 k2), hθ _ _ k1, hθ _ _ k2]; rfl
end Go.Proofs.Cw.Si
end

/-
  THE GRAPH 2: add, at, join.
-/
section
namespace Go.Proofs.Cw.Si
open Go.Proofs
abbrev shN : Sh := Sh.agg [Sh.int IntKind.i64, Sh.str, Sh.slc]
def GK.name : GK → List UInt8
 | .var => []
 | .nat => sNat
 | .bin p _ _ => if p then sTo else sPair
def GK.kids : GK → List Tree
 | .bin _ a b => [I (a : Nat), I (b : Nat)]
 | _ => []
def toI : Option Nat → Int
 | none => -1
 | some j => (j : Nat)
def encN (g : GN) : Tree := .agg [I (toI g.to), .str g.k.name, .slc g.k.kids]
def rowsG (gr : List GN) : List Tree := gr.map encN
theorem rowsG_len (gr : List GN) : (rowsG gr).length = gr.length := by simp [rowsG]
theorem nth_rowsG {gr : List GN} {i : Nat} {g : GN} (h : gr[i]? = some g) : nth (rowsG gr) i = some (encN g) := by
 rw [rowsG, nth_map, nth_eq, h]; rfl
theorem rowsG_lead {gr : List GN} {i j : Nat} {k : GK} : setN (rowsG gr) i (.agg [I (j : Nat), .str k.name, .slc k.kids]) = rowsG (leadTo gr i j k) := by
 rw [setN_eq, rowsG, rowsG, leadTo, List.map_set]
 rfl
theorem rowsG_add {gr : List GN} {k : GK} : rowsG gr ++ [.agg [I (-1), .str k.name, .slc k.kids]] = rowsG (gr ++ [⟨none, k⟩]) := by
 simp [rowsG, encN, toI]
abbrev gHeap (rows : List Tree) : Heap := [HObj.mix (Sh.agg [Sh.slc]) [AV.agg [AV.hsl 1 none]], HObj.tre shN rows]
abbrev zHeap : Heap := [HObj.mix (Sh.agg [Sh.slc]) [AV.agg [AV.nilS]]]
structure GOut (H : Heap) (gr : List GN) : Prop where
 form : gForm (Sh.agg [Sh.slc]) shN H = true
 row : gRow H = rowsG gr
theorem l54 {gr : List GN} {i r : Nat} (h : At gr i r) : ∃ c, ∀ n q, c ≤ q → L54_0 n q (rowsG gr) (i : Nat) = some (I (r : Nat)) := by
 induction h with
 | @root i k h =>
  refine ⟨1, fun n q hq => ?_⟩
  obtain ⟨q, rfl⟩ : ∃ p, q = Nat.succ p := ⟨q - 1, by omega⟩
  rw [l54_0]
  refine step_t (by simp) (step_b (y := encN ⟨none, k⟩) ?_ (step_t rfl (step_f rfl rfl)))
  rw [Int.toNat_natCast]; exact nth_rowsG h
 | @link i j r k h _ ih =>
  obtain ⟨c, hc⟩ := ih
  refine ⟨c + 1, fun n q hq => ?_⟩
  obtain ⟨q, rfl⟩ : ∃ p, q = Nat.succ p := ⟨q - 1, by omega⟩
  have hx : nth (rowsG gr) (Int.toNat ((i : Nat) : Int)) = some (encN ⟨some j, k⟩) := by
   rw [Int.toNat_natCast]; exact nth_rowsG h
  rw [l54_0]
  exact step_t (by simp) (step_b hx (step_t rfl (step_t (decide_eq_true (show ((j : Nat) : Int) ≥ 0 by omega)) (step_t (by simp) (step_b hx (step_t rfl (hc n q (by omega))))))))
theorem s54 {gr : List GN} {i r : Nat} (h : At gr i r) : ∃ c, Ev E c 54 [.ptr (.agg [.slc (rowsG gr)]) 0, I (i : Nat)] (I (r : Nat)) := by
 obtain ⟨c, hc⟩ := l54 h
 refine ⟨c + 1, Ev.mk fun n hn => ?_⟩
 rw [e54]
 exact hc n n hn
theorem s52 (gr : List GN) (k : GK) (hl : gr.length ≤ 100000) : ∃ H', EvH E 1 52 [.href 0 0 0, .t (.str k.name), .t (.slc k.kids)] (gHeap (rowsG gr)) (.t (I (gr.length : Nat)), H') ∧ GOut H' (gr ++ [⟨none, k⟩]) := by
 refine ⟨[HObj.mix (Sh.agg [Sh.slc]) [AV.agg [AV.hsl 3 none]], HObj.dead, HObj.tre shN [.agg [I (-1), .str k.name, .slc k.kids]], HObj.tre shN (rowsG gr ++ [.agg [I (-1), .str k.name, .slc k.kids]])], EvH.mk fun n _ => ?_, ?_⟩
 ·rw [r52]
  refine step_t (by rw [rowsG_len]; simp; omega) ?_
  have e : IntKind.wrap .i64 (((rowsG gr ++ [Tree.agg [I (-1), .str k.name, .slc k.kids]]).length : Int) - 1) = ((gr.length : Nat) : Int) := by
   rw [List.length_append, rowsG_len, w64 (by simp; omega)]; simp
  rw [e]
 ·exact ⟨rfl, rowsG_add⟩
theorem s52z (k : GK) : ∃ H', EvH E 1 52 [.href 0 0 0, .t (.str k.name), .t (.slc k.kids)] zHeap (.t (I ((0 : Nat) : Int)), H') ∧ GOut H' [⟨none, k⟩] := by
 refine ⟨[HObj.mix (Sh.agg [Sh.slc]) [AV.agg [AV.hsl 2 none]], HObj.tre shN [.agg [I (-1), .str k.name, .slc k.kids]], HObj.tre shN [.agg [I (-1), .str k.name, .slc k.kids]]], EvH.mk fun n _ => ?_, ?_⟩
 ·rw [r52z]; rfl
 ·exact ⟨rfl, rfl⟩
def Joined (gr : List GN) (a b : Nat) (v : Bool) (gr' : List GN) : Prop :=
 Gok gr' ∧ gr'.length = gr.length ∧ roots gr' ≤ roots gr ∧ ((v = false ∧ ∀ θ, GS gr θ → θ a ≠ θ b) ∨ (v = true ∧ ∀ θ, GS gr' θ ↔ GS gr θ ∧ θ a = θ b))
theorem joined_same {gr : List GN} {a b r : Nat} (g : Gok gr) (ha : At gr a r) (hb : At gr b r) : Joined gr a b true gr :=
 ⟨g, rfl, Nat.le_refl _, .inr ⟨rfl, fun θ => ⟨fun h => ⟨h, (ha.eq h).trans (hb.eq h).symm⟩, fun h => h.1⟩⟩⟩
theorem joined_var {gr : List GN} {a b ra rb : Nat} (g : Gok gr) (ha : At gr a ra) (hb : At gr b rb) (hne : ra ≠ rb) (hv : gr[ra]? = some ⟨none, .var⟩) : Joined gr a b true (leadTo gr ra rb .var) := by
 refine ⟨lead_ok g hv hb.self hne, lead_len, by have := lead_roots (j := rb) hv; omega, .inr ⟨rfl, fun θ => ?_⟩⟩
 rw [lead_sol hv]
 constructor
 ·intro ⟨h1, h2⟩
  have sol : GS gr θ := fun x n hn => by
   by_cases e : x = ra
   ·subst e; rw [hv] at hn; cases hn; trivial
   ·exact h1 x n e hn
  exact ⟨sol, by rw [ha.eq sol, hb.eq sol, h2]⟩
 ·intro ⟨h1, h2⟩
  exact ⟨fun x n _ hn => h1 x n hn, by rw [← ha.eq h1, ← hb.eq h1, h2]⟩
theorem joined_var2 {gr : List GN} {a b ra rb : Nat} (g : Gok gr) (ha : At gr a ra) (hb : At gr b rb) (hne : ra ≠ rb) (hv : gr[rb]? = some ⟨none, .var⟩) : Joined gr a b true (leadTo gr rb ra .var) := by
 obtain ⟨h1, h2, h3, h⟩ := joined_var g hb ha (fun e => hne e.symm) hv
 refine ⟨h1, h2, h3, ?_⟩
 rcases h with ⟨h, _⟩ | ⟨_, h⟩
 ·cases h
 ·exact .inr ⟨rfl, fun θ => by rw [h]; exact and_congr_right fun _ => ⟨fun e => e.symm, fun e => e.symm⟩⟩
section
variable {gr : List GN} {a b ra rb : Nat} {ka kb : GK}
theorem lead_of (ha : At gr a ra) (hb : At gr b rb) (h2 : gr[rb]? = some ⟨none, kb⟩) {θ : Nat → FT} (sol : GS gr θ) (e : θ a = θ b) : GS (leadTo gr rb ra kb) θ :=
 (lead_sol h2).2 ⟨fun x n _ hn => sol x n hn, by rw [← ha.eq sol, ← hb.eq sol, e]⟩
theorem joined_ne (g : Gok gr) (ha : At gr a ra) (hb : At gr b rb) (hne : ra ≠ rb) (h1 : gr[ra]? = some ⟨none, ka⟩) (h2 : gr[rb]? = some ⟨none, kb⟩) (na : ka ≠ .var) (nb : kb ≠ .var) (hn : ka.name ≠ kb.name) : Joined gr a b false (leadTo gr rb ra kb) := by
 refine ⟨lead_ok g h2 ha.self fun e => hne e.symm, lead_len, by have := lead_roots (j := ra) h2; omega, .inl ⟨rfl, fun θ sol e => ?_⟩⟩
 rw [ha.eq sol, hb.eq sol] at e
 have s1 := sol _ _ h1
 have s2 := sol _ _ h2
 cases ka with
 | var => exact na rfl
 | nat =>
  cases kb with
  | var => exact nb rfl
  | nat => exact hn rfl
  | bin p x y =>
   rw [show θ ra = _ from s1, show θ rb = _ from s2] at e; cases e
 | bin p x y =>
  cases kb with
  | var => exact nb rfl
  | nat => rw [show θ ra = _ from s1, show θ rb = _ from s2] at e; cases e
  | bin q z w =>
   rw [show θ ra = _ from s1, show θ rb = _ from s2] at e
   injection e with e _ _
   subst e
   exact hn rfl
theorem joined_nat (g : Gok gr) (ha : At gr a ra) (hb : At gr b rb) (hne : ra ≠ rb) (h1 : gr[ra]? = some ⟨none, .nat⟩) (h2 : gr[rb]? = some ⟨none, .nat⟩) : Joined gr a b true (leadTo gr rb ra .nat) := by
 refine ⟨lead_ok g h2 ha.self fun e => hne e.symm, lead_len, by have := lead_roots (j := ra) h2; omega, .inr ⟨rfl, fun θ => ⟨fun h => ?_, fun h => lead_of ha hb h2 h.1 h.2⟩⟩⟩
 obtain ⟨k1, k2⟩ := (lead_sol h2).1 h
 have sol : GS gr θ := fun x n hn => by
  by_cases e : x = rb
  ·subst e; rw [h2] at hn; cases hn
   exact k2.trans (k1 ra _ hne h1)
  ·exact k1 x n e hn
 exact ⟨sol, by rw [ha.eq sol, hb.eq sol, k2]⟩
theorem joined_bin {p : Bool} {a1 a2 b1 b2 : Nat} {v2 : Bool} {gr2 gr3 : List GN} (ha : At gr a ra) (hb : At gr b rb) (hne : ra ≠ rb) (h1 : gr[ra]? = some ⟨none, .bin p a1 a2⟩) (h2 : gr[rb]? = some ⟨none, .bin p b1 b2⟩)
  (j1 : Joined (leadTo gr rb ra (.bin p b1 b2)) a1 b1 true gr2) (j2 : Joined gr2 a2 b2 v2 gr3) : Joined gr a b v2 gr3 := by
 obtain ⟨g1, l1, r1, c1⟩ := j1
 obtain ⟨g2, l2, r2, c2⟩ := j2
 have hr := lead_roots (j := ra) h2
 refine ⟨g2, by rw [l2, l1, lead_len], by omega, ?_⟩
 rcases c1 with ⟨e, _⟩ | ⟨_, c1⟩
 ·cases e
 have fwd : ∀ θ, GS gr θ → θ a = θ b → GS gr2 θ ∧ θ a2 = θ b2 := fun θ sol e => by
  have e' := e
  rw [ha.eq sol, hb.eq sol, show θ ra = _ from sol _ _ h1, show θ rb = _ from sol _ _ h2] at e'
  injection e' with _ e1 e2
  exact ⟨(c1 θ).2 ⟨lead_of ha hb h2 sol e, e1⟩, e2⟩
 rcases c2 with ⟨rfl, c2⟩ | ⟨rfl, c2⟩
 ·exact .inl ⟨rfl, fun θ sol e => c2 θ (fwd θ sol e).1 (fwd θ sol e).2⟩
 ·refine .inr ⟨rfl, fun θ => ⟨fun h => ?_, fun h => (c2 θ).2 (fwd θ h.1 h.2)⟩⟩
  obtain ⟨s2, e2⟩ := (c2 θ).1 h
  obtain ⟨s1, e1⟩ := (c1 θ).1 s2
  obtain ⟨k1, k2⟩ := (lead_sol h2).1 s1
  have sol : GS gr θ := fun x n hn => by
   by_cases e : x = rb
   ·subst e; rw [h2] at hn; cases hn
    refine k2.trans ((show θ ra = _ from k1 ra _ hne h1).trans ?_)
    rw [e1, e2]
   ·exact k1 x n e hn
  exact ⟨sol, by rw [ha.eq sol, hb.eq sol, k2]⟩
theorem joined_bin1 {p : Bool} {a1 a2 b1 b2 : Nat} {gr2 : List GN} (ha : At gr a ra) (hb : At gr b rb) (h1 : gr[ra]? = some ⟨none, .bin p a1 a2⟩) (h2 : gr[rb]? = some ⟨none, .bin p b1 b2⟩)
  (j1 : Joined (leadTo gr rb ra (.bin p b1 b2)) a1 b1 false gr2) : Joined gr a b false gr2 := by
 obtain ⟨g1, l1, r1, c1⟩ := j1
 have hr := lead_roots (j := ra) h2
 refine ⟨g1, by rw [l1, lead_len], by omega, .inl ⟨rfl, fun θ sol e => ?_⟩⟩
 rcases c1 with ⟨_, c1⟩ | ⟨e, _⟩
 ·have e' := e
  rw [ha.eq sol, hb.eq sol, show θ ra = _ from sol _ _ h1, show θ rb = _ from sol _ _ h2] at e'
  injection e' with _ e1 e2
  exact c1 θ (lead_of ha hb h2 sol e) e1
 ·cases e
end
end Go.Proofs.Cw.Si
end

/-
  THE GRAPH 3: join.
-/
section
namespace Go.Proofs.Cw.Si
open Go.Proofs
theorem idxOk {gr : List GN} {i : Nat} (h : i < gr.length) : (decide ((0 : Int) ≤ (i : Nat)) && (decide (((i : Nat) : Int) < ((rowsG gr).length : Int)) && true)) = true := by
 rw [rowsG_len]; simp; omega
theorem name_ne {k : GK} (h : k ≠ .var) : (k.name == []) = false := by
 cases k with
 | var => exact absurd rfl h
 | nat => rfl
 | bin p a b => cases p <;> rfl
theorem intNe {a b : Nat} (h : a ≠ b) : (((a : Nat) : Int) == ((b : Nat) : Int)) = false := by
 simp; omega
def Run53 (gr : List GN) (a b : Nat) (v : Bool) (gr' : List GN) : Prop :=
 ∃ c H', EvH E c 53 [.href 0 0 0, .t (I (a : Nat)), .t (I (b : Nat))] (gHeap (rowsG gr)) (.t (.bool v), H') ∧ GOut H' gr'
section
variable {gr : List GN} {a b ra rb : Nat} {ka kb : GK}
theorem run53_same {r : Nat} (ha : At gr a r) (hb : At gr b r) : Run53 gr a b true gr := by
 obtain ⟨ca, ea⟩ := s54 ha
 obtain ⟨cb, eb⟩ := s54 hb
 refine ⟨ca + cb + 1, gHeap (rowsG gr), EvH.mk fun n hn => ?_, rfl, rfl⟩
 rw [r53]
 exact step_b (ea n (by omega)) (step_t rfl (step_b (eb n (by omega)) (step_t rfl (step_t (beq_self_eq_true _) rfl))))
theorem run53_var (ha : At gr a ra) (hb : At gr b rb) (hne : ra ≠ rb) (h1 : gr[ra]? = some ⟨none, .var⟩) (h2 : gr[rb]? = some ⟨none, kb⟩) : Run53 gr a b true (leadTo gr ra rb .var) := by
 obtain ⟨ca, ea⟩ := s54 ha
 obtain ⟨cb, eb⟩ := s54 hb
 refine ⟨ca + cb + 1, ?_⟩
 apply Exists.intro
 apply And.intro
 ·refine EvH.mk fun n hn => ?_
  rw [r53]
  refine step_b (ea n (by omega)) (step_t rfl (step_b (eb n (by omega)) (step_t rfl (step_f (intNe hne) ?_))))
  exact step_t (idxOk ha.lt) (step_b (nth_rowsG h1) (step_t rfl (step_t (idxOk hb.lt) (step_b (nth_rowsG h2) (step_t rfl (step_t rfl (step_t (idxOk ha.lt) (step_b (nth_rowsG h1) (step_t rfl rfl)))))))))
 ·refine ⟨rfl, ?_⟩
  show setN (rowsG gr) ra (.agg [I (rb : Nat), .str (GK.name .var), .slc (GK.kids .var)]) = _
  exact rowsG_lead
theorem run53_var2 (ha : At gr a ra) (hb : At gr b rb) (hne : ra ≠ rb) (h1 : gr[ra]? = some ⟨none, ka⟩) (h2 : gr[rb]? = some ⟨none, .var⟩) (na : ka ≠ .var) : Run53 gr a b true (leadTo gr rb ra .var) := by
 obtain ⟨ca, ea⟩ := s54 ha
 obtain ⟨cb, eb⟩ := s54 hb
 refine ⟨ca + cb + 1, ?_⟩
 apply Exists.intro
 apply And.intro
 ·refine EvH.mk fun n hn => ?_
  rw [r53]
  refine step_b (ea n (by omega)) (step_t rfl (step_b (eb n (by omega)) (step_t rfl (step_f (intNe hne) ?_))))
  exact step_t (idxOk ha.lt) (step_b (nth_rowsG h1) (step_t rfl (step_t (idxOk hb.lt) (step_b (nth_rowsG h2) (step_t rfl (step_f (name_ne na) (step_t (idxOk hb.lt) (step_b (nth_rowsG h2) (step_t rfl (step_t rfl rfl))))))))))
 ·refine ⟨rfl, ?_⟩
  show setN (rowsG gr) rb (.agg [I (ra : Nat), .str (GK.name .var), .slc (GK.kids .var)]) = _
  exact rowsG_lead
theorem run53_ne (ha : At gr a ra) (hb : At gr b rb) (hne : ra ≠ rb) (h1 : gr[ra]? = some ⟨none, ka⟩) (h2 : gr[rb]? = some ⟨none, kb⟩) (na : ka ≠ .var) (nb : kb ≠ .var) (hn : ka.name ≠ kb.name) : Run53 gr a b false (leadTo gr rb ra kb) := by
 obtain ⟨ca, ea⟩ := s54 ha
 obtain ⟨cb, eb⟩ := s54 hb
 refine ⟨ca + cb + 1, ?_⟩
 have hnn : (!(ka.name == kb.name)) = true := by
  rw [beq_eq_false_iff_ne.2 hn]; rfl
 apply Exists.intro
 apply And.intro
 ·refine EvH.mk fun n hn => ?_
  rw [r53]
  refine step_b (ea n (by omega)) (step_t rfl (step_b (eb n (by omega)) (step_t rfl (step_f (intNe hne) ?_))))
  exact step_t (idxOk ha.lt) (step_b (nth_rowsG h1) (step_t rfl (step_t (idxOk hb.lt) (step_b (nth_rowsG h2) (step_t rfl (step_f (name_ne na) (step_t (idxOk hb.lt) (step_b (nth_rowsG h2) (step_t rfl (step_f (name_ne nb) (step_t hnn rfl)))))))))))
 ·refine ⟨rfl, ?_⟩
  show setN (rowsG gr) rb (.agg [I (ra : Nat), .str kb.name, .slc kb.kids]) = _
  exact rowsG_lead
theorem run53_loop (ha : At gr a ra) (hb : At gr b rb) (hne : ra ≠ rb) (h1 : gr[ra]? = some ⟨none, ka⟩) (h2 : gr[rb]? = some ⟨none, kb⟩) (na : ka ≠ .var) (nb : kb ≠ .var) (hn : ka.name = kb.name) (hl : ka.kids.length = kb.kids.length)
  {c : Nat} {v : Bool} {H' : Heap} {gr' : List GN} (hr : ∀ n, c ≤ n → L53_0 n n 0 (rowsG (leadTo gr rb ra kb)) (-1) ka.name ka.kids (-1) kb.name kb.kids = some (.t (.bool v), H')) (ho : GOut H' gr') : Run53 gr a b v gr' := by
 obtain ⟨ca, ea⟩ := s54 ha
 obtain ⟨cb, eb⟩ := s54 hb
 refine ⟨ca + cb + c + 1, H', EvH.mk fun n hn' => ?_, ho⟩
 have hnn : (!(ka.name == kb.name)) = false := by rw [hn]; simp
 have hll : (((ka.kids.length : Nat) : Int) != ((kb.kids.length : Nat) : Int)) = false := by rw [hl]; simp
 rw [r53]
 refine step_b (ea n (by omega)) (step_t rfl (step_b (eb n (by omega)) (step_t rfl (step_f (intNe hne) ?_))))
 refine step_t (idxOk ha.lt) (step_b (nth_rowsG h1) (step_t rfl (step_t (idxOk hb.lt) (step_b (nth_rowsG h2) (step_t rfl (step_f (name_ne na) (step_t (idxOk hb.lt) (step_b (nth_rowsG h2) (step_t rfl (step_f (name_ne nb) (step_f hnn (step_f hll ?_))))))))))))
 have := hr n (by omega)
 rw [← rowsG_lead] at this
 exact this
end
section
variable {gr gr' : List GN} {la lb : List Tree} {i x y c : Nat} {ja jb : Int} {sa sb : List UInt8} {H' : Heap}
theorem formT {v : Bool} (ho : GOut H' gr') : (true && (isT Sh.bool (AV.t (.bool v)) && gForm (Sh.agg [Sh.slc]) shN H')) = true := by
 rw [ho.form]; rfl
theorem l53_0f (hi : i < la.length) (hx : nth la i = some (I (x : Nat))) (hy : nth lb i = some (I (y : Nat))) (h : EvH E c 53 [.href 0 0 0, .t (I (x : Nat)), .t (I (y : Nat))] (gHeap (rowsG gr)) (.t (.bool false), H')) (ho : GOut H' gr') :
  ∃ H2, GOut H2 gr' ∧ ∀ n q, c ≤ n → L53_0 n (Nat.succ q) (i : Nat) (rowsG gr) ja sa la jb sb lb = some (.t (.bool false), H2) := by
 refine ⟨[HObj.mix (Sh.agg [Sh.slc]) [AV.agg [AV.hsl 4 none]], HObj.dead, HObj.tre shN [Tree.agg [I ja, Tree.str sa, Tree.slc la]], HObj.tre shN [Tree.agg [I jb, Tree.str sb, Tree.slc lb]], HObj.tre shN (gRow H')], ⟨rfl, ho.row⟩, fun n q hn => ?_⟩
 have hx' : nth la (Int.toNat ((i : Nat) : Int)) = some (I (x : Nat)) := by rw [Int.toNat_natCast]; exact hx
 have hy' : nth lb (Int.toNat ((i : Nat) : Int)) = some (I (y : Nat)) := by rw [Int.toNat_natCast]; exact hy
 rw [m53_0]
 exact step_t (by simp; omega) (step_t (by simp) (step_b hx' (step_t rfl (step_t (by simp) (step_b hy' (step_t rfl (step_b (h n hn) (step_t (formT ho) (step_t rfl rfl)))))))))
theorem l53_0t (hi : i < la.length) (hl : la.length ≤ 1000) (hx : nth la i = some (I (x : Nat))) (hy : nth lb i = some (I (y : Nat))) (h : EvH E c 53 [.href 0 0 0, .t (I (x : Nat)), .t (I (y : Nat))] (gHeap (rowsG gr)) (.t (.bool true), H')) (ho : GOut H' gr') :
  ∀ n q, c ≤ n → L53_0 n (Nat.succ q) (i : Nat) (rowsG gr) ja sa la jb sb lb = L53_0b n q ((i + 1 : Nat) : Int) (rowsG gr') ja sa la jb sb lb := by
 intro n q hn
 have hx' : nth la (Int.toNat ((i : Nat) : Int)) = some (I (x : Nat)) := by rw [Int.toNat_natCast]; exact hx
 have hy' : nth lb (Int.toNat ((i : Nat) : Int)) = some (I (y : Nat)) := by rw [Int.toNat_natCast]; exact hy
 have hw : IntKind.wrap .i64 (((i : Nat) : Int) + 1) = ((i + 1 : Nat) : Int) := by rw [w64 (by omega)]; omega
 rw [m53_0]
 refine step_t (by simp; omega) (step_t (by simp) (step_b hx' (step_t rfl (step_t (by simp) (step_b hy' (step_t rfl (step_b (h n hn) (step_t (formT ho) (step_f rfl ?_)))))))))
 show L53_0b n q (IntKind.wrap IntKind.i64 (((i : Nat) : Int) + 1)) (gRow H') ja sa la jb sb lb = _
 rw [hw, ho.row]
theorem l53_bf (hi : i < la.length) (hx : nth la i = some (I (x : Nat))) (hy : nth lb i = some (I (y : Nat))) (h : EvH E c 53 [.href 0 0 0, .t (I (x : Nat)), .t (I (y : Nat))] (gHeap (rowsG gr)) (.t (.bool false), H')) (ho : GOut H' gr') :
  ∃ H2, GOut H2 gr' ∧ ∀ n q, c ≤ n → L53_0b n (Nat.succ q) (i : Nat) (rowsG gr) ja sa la jb sb lb = some (.t (.bool false), H2) := by
 refine ⟨[HObj.mix (Sh.agg [Sh.slc]) [AV.agg [AV.hsl 5 none]], HObj.dead, HObj.dead, HObj.tre shN [Tree.agg [I ja, Tree.str sa, Tree.slc la]], HObj.tre shN [Tree.agg [I jb, Tree.str sb, Tree.slc lb]], HObj.tre shN (gRow H')], ⟨rfl, ho.row⟩, fun n q hn => ?_⟩
 have hx' : nth la (Int.toNat ((i : Nat) : Int)) = some (I (x : Nat)) := by rw [Int.toNat_natCast]; exact hx
 have hy' : nth lb (Int.toNat ((i : Nat) : Int)) = some (I (y : Nat)) := by rw [Int.toNat_natCast]; exact hy
 rw [m53_0b]
 exact step_t (by simp; omega) (step_t (by simp) (step_b hx' (step_t rfl (step_t (by simp) (step_b hy' (step_t rfl (step_b (h n hn) (step_t (formT ho) (step_t rfl rfl)))))))))
theorem l53_bt (hi : i < la.length) (hl : la.length ≤ 1000) (hx : nth la i = some (I (x : Nat))) (hy : nth lb i = some (I (y : Nat))) (h : EvH E c 53 [.href 0 0 0, .t (I (x : Nat)), .t (I (y : Nat))] (gHeap (rowsG gr)) (.t (.bool true), H')) (ho : GOut H' gr') :
  ∀ n q, c ≤ n → L53_0b n (Nat.succ q) (i : Nat) (rowsG gr) ja sa la jb sb lb = L53_0b n q ((i + 1 : Nat) : Int) (rowsG gr') ja sa la jb sb lb := by
 intro n q hn
 have hx' : nth la (Int.toNat ((i : Nat) : Int)) = some (I (x : Nat)) := by rw [Int.toNat_natCast]; exact hx
 have hy' : nth lb (Int.toNat ((i : Nat) : Int)) = some (I (y : Nat)) := by rw [Int.toNat_natCast]; exact hy
 have hw : IntKind.wrap .i64 (((i : Nat) : Int) + 1) = ((i + 1 : Nat) : Int) := by rw [w64 (by omega)]; omega
 rw [m53_0b]
 refine step_t (by simp; omega) (step_t (by simp) (step_b hx' (step_t rfl (step_t (by simp) (step_b hy' (step_t rfl (step_b (h n hn) (step_t (formT ho) (step_f rfl ?_)))))))))
 show L53_0b n q (IntKind.wrap IntKind.i64 (((i : Nat) : Int) + 1)) (gRow H') ja sa la jb sb lb = _
 rw [hw, ho.row]
theorem l53_be : ∃ H2, GOut H2 gr ∧ ∀ n q, L53_0b n (Nat.succ q) (la.length : Nat) (rowsG gr) ja sa la jb sb lb = some (.t (.bool true), H2) := by
 refine ⟨[HObj.mix (Sh.agg [Sh.slc]) [AV.agg [AV.hsl 2 none]], HObj.dead, HObj.tre shN (rowsG gr), HObj.tre shN [Tree.agg [I ja, Tree.str sa, Tree.slc la]], HObj.tre shN [Tree.agg [I jb, Tree.str sb, Tree.slc lb]]], ⟨rfl, rfl⟩, fun n q => ?_⟩
 rw [m53_0b]
 exact step_f (by simp) rfl
theorem l53_0e : ∃ H2, GOut H2 gr ∧ ∀ n q, L53_0 n (Nat.succ q) 0 (rowsG gr) ja sa [] jb sb lb = some (.t (.bool true), H2) := by
 refine ⟨[HObj.mix (Sh.agg [Sh.slc]) [AV.agg [AV.hsl 1 none]], HObj.tre shN (rowsG gr), HObj.tre shN [Tree.agg [I ja, Tree.str sa, Tree.slc []]], HObj.tre shN [Tree.agg [I jb, Tree.str sb, Tree.slc lb]]], ⟨rfl, rfl⟩, fun n q => ?_⟩
 rw [m53_0]
 exact step_f rfl rfl
end
theorem s53 : ∀ (z : Nat) {gr : List GN} {a b : Nat}, roots gr ≤ z → Gok gr → a < gr.length → b < gr.length → ∃ v gr', Run53 gr a b v gr' ∧ Joined gr a b v gr' := by
 intro z
 induction z with
 | zero =>
  intro gr a b hz g ha hb
  exfalso
  obtain ⟨r, hr⟩ := g.at_ a ha
  obtain ⟨k, hk⟩ := hr.root_of
  have := lead_roots (j := 0) hk
  omega
 | succ z ih =>
  intro gr a b hz g ha hb
  obtain ⟨ra, hra⟩ := g.at_ a ha
  obtain ⟨rb, hrb⟩ := g.at_ b hb
  by_cases hne : ra = rb
  ·subst hne
   exact ⟨true, gr, run53_same hra hrb, joined_same g hra hrb⟩
  obtain ⟨ka, h1⟩ := hra.root_of
  obtain ⟨kb, h2⟩ := hrb.root_of
  by_cases na : ka = .var
  ·subst na
   exact ⟨true, _, run53_var hra hrb hne h1 h2, joined_var g hra hrb hne h1⟩
  by_cases nb : kb = .var
  ·subst nb
   exact ⟨true, _, run53_var2 hra hrb hne h1 h2 na, joined_var2 g hra hrb hne h2⟩
  by_cases hn : ka.name = kb.name
  ·have g1 := lead_ok g h2 hra.self (fun e => hne e.symm)
   have hr1 := lead_roots (j := ra) h2
   cases ka with
   | var => exact absurd rfl na
   | nat =>
    cases kb with
    | var => exact absurd rfl nb
    | nat =>
     obtain ⟨H2, ho, hL⟩ := l53_0e (gr := leadTo gr rb ra .nat) (ja := -1) (sa := GK.name .nat) (jb := -1) (sb := GK.name .nat) (lb := [])
     refine ⟨true, _, run53_loop hra hrb hne h1 h2 na nb hn rfl (c := 1) (fun n hn => ?_) ho, joined_nat g hra hrb hne h1 h2⟩
     obtain ⟨n, rfl⟩ : ∃ p, n = Nat.succ p := ⟨n - 1, by omega⟩
     exact hL _ _
    | bin q b1 b2 => cases q <;> exact absurd hn (fun h => by simp [GK.name, sNat, sTo, sPair] at h)
   | bin p a1 a2 =>
    cases kb with
    | var => exact absurd rfl nb
    | nat => cases p <;> exact absurd hn (fun h => by simp [GK.name, sNat, sTo, sPair] at h)
    | bin q b1 b2 =>
     have hpq : p = q := by cases p <;> cases q <;> first | rfl | exact absurd hn (fun h => by simp [GK.name, sNat, sTo, sPair] at h)
     subst hpq
     have ka_ := g.kid ra none p a1 a2 h1
     have kb_ := g.kid rb none p b1 b2 h2
     obtain ⟨v1, gr2, r1, j1⟩ := ih (gr := leadTo gr rb ra (.bin p b1 b2)) (a := a1) (b := b1) (by omega) g1 (by rw [lead_len]; exact ka_.1) (by rw [lead_len]; exact kb_.1)
     obtain ⟨c1, H1, e1, o1⟩ := r1
     cases v1 with
     | false =>
      obtain ⟨H2, o2, hL⟩ := l53_0f (i := 0) (la := [I (a1 : Nat), I (a2 : Nat)]) (lb := [I (b1 : Nat), I (b2 : Nat)]) (ja := -1) (sa := GK.name (.bin p a1 a2)) (jb := -1) (sb := GK.name (.bin p b1 b2)) (by simp) rfl rfl e1 o1
      refine ⟨false, gr2, run53_loop hra hrb hne h1 h2 na nb hn rfl (c := c1 + 1) (fun n hn => ?_) o2, joined_bin1 hra hrb h1 h2 j1⟩
      obtain ⟨q', hq⟩ : ∃ p, n = Nat.succ p := ⟨n - 1, by omega⟩
      have := hL n q' (by omega)
      rw [← hq] at this
      exact this
     | true =>
      have g2 := j1.1
      have l2 := j1.2.1
      have r2 := j1.2.2.1
      rw [lead_len] at l2
      obtain ⟨v2, gr3, r3, j2⟩ := ih (gr := gr2) (a := a2) (b := b2) (by omega) g2 (by rw [l2]; exact ka_.2) (by rw [l2]; exact kb_.2)
      obtain ⟨c2, H3, e2, o3⟩ := r3
      have s1 := l53_0t (i := 0) (la := [I (a1 : Nat), I (a2 : Nat)]) (lb := [I (b1 : Nat), I (b2 : Nat)]) (ja := -1) (sa := GK.name (.bin p a1 a2)) (jb := -1) (sb := GK.name (.bin p b1 b2)) (by simp) (by simp) rfl rfl e1 o1
      cases v2 with
      | false =>
       obtain ⟨H4, o4, hL⟩ := l53_bf (i := 1) (la := [I (a1 : Nat), I (a2 : Nat)]) (lb := [I (b1 : Nat), I (b2 : Nat)]) (ja := -1) (sa := GK.name (.bin p a1 a2)) (jb := -1) (sb := GK.name (.bin p b1 b2)) (by simp) rfl rfl e2 o3
       refine ⟨false, gr3, run53_loop hra hrb hne h1 h2 na nb hn rfl (c := c1 + c2 + 2) (fun n hn => ?_) o4, joined_bin hra hrb hne h1 h2 j1 j2⟩
       obtain ⟨q', hq⟩ : ∃ p, n = Nat.succ (Nat.succ p) := ⟨n - 2, by omega⟩
       have t1 := s1 n (Nat.succ q') (by omega)
       have t2 := hL n q' (by omega)
       rw [← hq] at t1
       exact t1.trans t2
      | true =>
       have s2 := l53_bt (i := 1) (la := [I (a1 : Nat), I (a2 : Nat)]) (lb := [I (b1 : Nat), I (b2 : Nat)]) (ja := -1) (sa := GK.name (.bin p a1 a2)) (jb := -1) (sb := GK.name (.bin p b1 b2)) (by simp) (by simp) rfl rfl e2 o3
       obtain ⟨H4, o4, hL⟩ := l53_be (gr := gr3) (la := [I (a1 : Nat), I (a2 : Nat)]) (lb := [I (b1 : Nat), I (b2 : Nat)]) (ja := -1) (sa := GK.name (.bin p a1 a2)) (jb := -1) (sb := GK.name (.bin p b1 b2))
       refine ⟨true, gr3, run53_loop hra hrb hne h1 h2 na nb hn rfl (c := c1 + c2 + 3) (fun n hn => ?_) o4, joined_bin hra hrb hne h1 h2 j1 j2⟩
       obtain ⟨q', hq⟩ : ∃ p, n = Nat.succ (Nat.succ (Nat.succ p)) := ⟨n - 3, by omega⟩
       have t1 := s1 n (Nat.succ (Nat.succ q')) (by omega)
       have t2 := s2 n (Nat.succ q') (by omega)
       have t3 := hL n q'
       rw [← hq] at t1
       exact t1.trans (t2.trans t3)
  ·exact ⟨false, _, run53_ne hra hrb hne h1 h2 na nb hn, joined_ne g hra hrb hne h1 h2 na nb hn⟩
end Go.Proofs.Cw.Si
end

/-
  THE GRAPH 8: term, case by case: what is meant.
-/
section
namespace Go.Proofs.Cw.Si
open Go.Proofs
structure GInf (gr : List GN) (ctx : List Nat) (l : List Lam) (gr' : List GN) (us : List Nat) : Prop where
 ok : Gok gr'
 le : gr.length ≤ gr'.length
 hi : gr'.length ≤ gr.length + 3 * sizeLs l
 kn : ∀ i, i ∈ us → i < gr'.length
 sound : ∀ θ, GS gr' θ → GS gr θ ∧ HasL (ctx.map θ) l (us.map θ)
 full : ∀ θ τs, GS gr θ → HasL (ctx.map θ) l τs → ∃ θ', (∀ k, k < gr.length → θ' k = θ k) ∧ GS gr' θ' ∧ us.map θ' = τs
def GNon (gr : List GN) (ctx : List Nat) (l : List Lam) : Prop := ∀ θ τs, GS gr θ → ¬ HasL (ctx.map θ) l τs
def updN (θ : Nat → FT) (i : Nat) (x : FT) : Nat → FT := fun j => if j = i then x else θ j
theorem updN_self (θ : Nat → FT) (i : Nat) (x : FT) : updN θ i x i = x := by simp [updN]
theorem updN_lt {θ : Nat → FT} {i : Nat} {x : FT} {k : Nat} (h : k < i) : updN θ i x k = θ k := by unfold updN; rw [if_neg (by omega)]
theorem map_agree {l : List Nat} {n : Nat} {θ η : Nat → FT} (hl : ∀ i, i ∈ l → i < n) (h : ∀ k, k < n → η k = θ k) : l.map η = l.map θ := List.map_congr_left fun i hi => h i (hl i hi)
section
variable {gr gr1 : List GN} {ctx : List Nat}
theorem GInf.refl (g : Gok gr) : GInf gr ctx [] gr [] :=
 ⟨g, Nat.le_refl _, by simp [sizeLs], fun i h => by simp at h, fun θ sol => ⟨sol, .nil⟩, fun θ τs sol hl => by cases hl; exact ⟨θ, fun _ _ => rfl, sol, rfl⟩⟩
theorem GInf.cons {gr2 : List GN} {t : Lam} {l : List Lam} {u : Nat} {us : List Nat} (hctx : ∀ i, i ∈ ctx → i < gr.length) (a : GInf gr ctx [t] gr1 [u]) (b : GInf gr1 ctx l gr2 us) : GInf gr ctx (t :: l) gr2 (u :: us) where
 ok := b.ok
 le := Nat.le_trans a.le b.le
 hi := by have h1 := a.hi; have h2 := b.hi; simp only [sizeLs] at h1 h2 ⊢; omega
 kn i hi := by
  rcases List.mem_cons.1 hi with e | e
  ·have := a.kn u (by simp); have := b.le; omega
  ·exact b.kn i e
 sound θ sol := by
  obtain ⟨s1, k1⟩ := b.sound θ sol
  obtain ⟨s0, k0⟩ := a.sound θ s1
  refine ⟨s0, ?_⟩
  cases k0 with
  | cons h1 hn => exact .cons h1 k1
 full θ τs sol hl := by
  cases hl with
  | cons h1 h2 =>
   obtain ⟨θ1, g1, s1, v1⟩ := a.full θ _ sol (.cons h1 .nil)
   rw [← map_agree hctx g1] at h2
   obtain ⟨θ2, g2, s2, v2⟩ := b.full θ1 _ s1 h2
   refine ⟨θ2, fun k hk => by rw [g2 k (by have := a.le; omega), g1 k hk], s2, ?_⟩
   have hu := a.kn u (by simp)
   simp only [List.map_cons, List.map_nil, List.cons.injEq] at v1 ⊢
   exact ⟨by rw [g2 u hu]; exact v1.1, v2⟩
theorem GNon.head {t : Lam} {l : List Lam} (h : GNon gr ctx [t]) : GNon gr ctx (t :: l) := fun θ τs sol hl => by
 cases hl with
 | cons h1 _ => exact h θ _ sol (.cons h1 .nil)
theorem GNon.tail {t : Lam} {l : List Lam} {u : Nat} (hctx : ∀ i, i ∈ ctx → i < gr.length) (a : GInf gr ctx [t] gr1 [u]) (h : GNon gr1 ctx l) : GNon gr ctx (t :: l) := fun θ τs sol hl => by
 cases hl with
 | cons h1 h2 =>
  obtain ⟨θ1, g1, s1, v1⟩ := a.full θ _ sol (.cons h1 .nil)
  rw [← map_agree hctx g1] at h2
  exact h θ1 _ s1 h2
theorem GNon.parts {o k : Int} {t : Ty} {l : List Lam} (ho : ∀ Γ τ, Has Γ (.mk o k t l) τ → ∃ τs, HasL Γ l τs) (h : GNon gr ctx l) : GNon gr ctx [.mk o k t l] := fun θ τs sol hl => by
 obtain ⟨τ, rfl, hh⟩ := hl.one
 obtain ⟨σs, hs⟩ := ho _ τ hh
 exact h θ σs sol hs
theorem GInf.var (g : Gok gr) {k : Int} {t : Ty} {i : Nat} (h0 : 0 ≤ k) (h1 : k < ctx.length) (hi : ctx[ctx.length - 1 - k.toNat]? = some i) (hn : i < gr.length) : GInf gr ctx [.mk 1 k t []] gr [i] where
 ok := g
 le := Nat.le_refl _
 hi := by omega
 kn j hj := by rw [List.mem_singleton.1 hj]; exact hn
 sound θ sol := ⟨sol, .cons (.var h0 (by simpa using h1) (by rw [List.length_map, List.getElem?_map, hi]; rfl)) .nil⟩
 full θ τs sol hl := by
  obtain ⟨τ, rfl, hh⟩ := hl.one
  cases hh with
  | var _ _ hx =>
   rw [List.length_map, List.getElem?_map, hi] at hx
   cases hx
   exact ⟨θ, fun _ _ => rfl, sol, rfl⟩
theorem GInf.num (g : Gok gr) {k : Int} {t : Ty} : GInf gr ctx [.mk 4 k t []] (gr ++ [⟨none, .nat⟩]) [gr.length] where
 ok := add_ok g fun p a b e => by cases e
 le := by simp
 hi := by simp [sizeLs, sizeL]
 kn j hj := by rw [List.mem_singleton.1 hj]; simp
 sound θ sol := by
  obtain ⟨s, hn⟩ := add_sol.1 sol
  refine ⟨s, ?_⟩
  simp only [List.map_cons, List.map_nil]
  rw [show θ gr.length = .nat from hn]
  exact .cons .num .nil
 full θ τs sol hl := by
  obtain ⟨τ, rfl, hh⟩ := hl.one
  cases hh with
  | num => exact ⟨updN θ gr.length .nat, fun k hk => updN_lt hk, add_sol.2 ⟨sol.agree g fun x hx => updN_lt hx, updN_self _ _ _⟩, by simp [updN_self]⟩
theorem GInf.pair {x y : Lam} {k : Int} {t : Ty} {a b : Nat} (h : GInf gr ctx [x, y] gr1 [a, b]) : GInf gr ctx [.mk 7 k t [x, y]] (gr1 ++ [⟨none, .bin false a b⟩]) [gr1.length] where
 ok := add_ok h.ok fun p a' b' e => by cases e; exact ⟨h.kn a (by simp), h.kn b (by simp)⟩
 le := by have := h.le; simp; omega
 hi := by have := h.hi; simp only [sizeLs, sizeL, List.length_append, List.length_singleton] at this ⊢; omega
 kn j hj := by rw [List.mem_singleton.1 hj]; simp
 sound θ sol := by
  obtain ⟨s, hn⟩ := add_sol.1 sol
  obtain ⟨s0, hh⟩ := h.sound θ s
  refine ⟨s0, ?_⟩
  simp only [List.map_cons, List.map_nil] at hh ⊢
  rw [show θ gr1.length = _ from hn]
  cases hh with
  | cons h1 hh =>
   cases hh with
   | cons h2 _ => exact .cons (.pair h1 h2) .nil
 full θ τs sol hl := by
  obtain ⟨τ, rfl, hh⟩ := hl.one
  cases hh with
  | @pair _ _ _ _ _ A B h1 h2 =>
   obtain ⟨θ', g, s, v⟩ := h.full θ _ sol (.cons h1 (.cons h2 .nil))
   simp only [List.map_cons, List.map_nil, List.cons.injEq, and_true] at v
   have ha := h.kn a (by simp)
   have hb := h.kn b (by simp)
   have hle := h.le
   refine ⟨updN θ' gr1.length (.bin false A B), fun k hk => by rw [updN_lt (by omega), g k hk], add_sol.2 ⟨s.agree h.ok fun x hx => updN_lt hx, ?_⟩, by simp [updN_self]⟩
   show updN θ' gr1.length (.bin false A B) gr1.length = .bin false (updN θ' gr1.length (.bin false A B) a) (updN θ' gr1.length (.bin false A B) b)
   rw [updN_self, updN_lt ha, updN_lt hb, v.1, v.2]
theorem GInf.suc_all {x : Lam} {k : Int} {t : Ty} {a : Nat} {gr3 : List GN} {v : Bool} (h : GInf gr ctx [x] gr1 [a]) (j : Joined (gr1 ++ [⟨none, .nat⟩]) a gr1.length v gr3) :
  (v = false ∧ GNon gr ctx [.mk 5 k t [x]]) ∨ (v = true ∧ GInf gr ctx [.mk 5 k t [x]] gr3 [a]) := by
 obtain ⟨j1, j2, j3, j4⟩ := j
 have ha := h.kn a (by simp)
 have hle := h.le
 have hhi := h.hi
 simp only [List.length_append, List.length_singleton] at j2
 have fwd : ∀ θ τ, GS gr θ → Has (ctx.map θ) (.mk 5 k t [x]) τ → τ = .nat ∧ ∃ η, (∀ k, k < gr.length → η k = θ k) ∧ GS (gr1 ++ [⟨none, .nat⟩]) η ∧ η a = η gr1.length ∧ η a = .nat := fun θ τ sol hh => by
  cases hh with
  | suc hx =>
   obtain ⟨θ', g, s, v⟩ := h.full θ _ sol (.cons hx .nil)
   simp only [List.map_cons, List.map_nil, List.cons.injEq, and_true] at v
   refine ⟨rfl, updN θ' gr1.length .nat, fun k hk => by rw [updN_lt (by omega), g k hk], add_sol.2 ⟨s.agree h.ok fun x hx => updN_lt hx, updN_self _ _ _⟩, ?_, ?_⟩
   ·rw [updN_self, updN_lt ha, v]
   ·rw [updN_lt ha, v]
 rcases j4 with ⟨rfl, no⟩ | ⟨rfl, iff⟩
 ·refine .inl ⟨rfl, fun θ τs sol hl => ?_⟩
  obtain ⟨τ, rfl, hh⟩ := hl.one
  obtain ⟨_, η, _, s, e, _⟩ := fwd θ τ sol hh
  exact no η s e
 ·refine .inr ⟨rfl, j1, by omega, by simp only [sizeLs, sizeL] at hhi ⊢; omega, fun i hi => by rw [List.mem_singleton.1 hi]; omega, fun θ sol => ?_, fun θ τs sol hl => ?_⟩
  ·obtain ⟨s2, e⟩ := (iff θ).1 sol
   obtain ⟨s1, hn⟩ := add_sol.1 s2
   obtain ⟨s0, hh⟩ := h.sound θ s1
   refine ⟨s0, ?_⟩
   simp only [List.map_cons, List.map_nil] at hh ⊢
   rw [e, show θ gr1.length = .nat from hn] at hh ⊢
   cases hh with
   | cons h1 _ => exact .cons (.suc h1) .nil
  ·obtain ⟨τ, rfl, hh⟩ := hl.one
   obtain ⟨rfl, η, g, s, e, e2⟩ := fwd θ τ sol hh
   exact ⟨η, g, (iff η).2 ⟨s, e⟩, by simp [e2]⟩
theorem GInf.app_all {x y : Lam} {k : Int} {t : Ty} {a b : Nat} {gr3 : List GN} {v : Bool} (h : GInf gr ctx [x, y] gr1 [a, b]) (j : Joined (gr1 ++ [⟨none, .var⟩] ++ [⟨none, .bin true b gr1.length⟩]) a (gr1.length + 1) v gr3) :
  (v = false ∧ GNon gr ctx [.mk 3 k t [x, y]]) ∨ (v = true ∧ GInf gr ctx [.mk 3 k t [x, y]] gr3 [gr1.length]) := by
 obtain ⟨j1, j2, j3, j4⟩ := j
 have ha := h.kn a (by simp)
 have hb := h.kn b (by simp)
 have hle := h.le
 have hhi := h.hi
 simp only [List.length_append, List.length_singleton] at j2
 have hlen : (gr1 ++ [⟨none, .var⟩] : List GN).length = gr1.length + 1 := by simp
 have fwd : ∀ θ τ, GS gr θ → Has (ctx.map θ) (.mk 3 k t [x, y]) τ → ∃ η, (∀ k, k < gr.length → η k = θ k) ∧ GS (gr1 ++ [⟨none, .var⟩] ++ [⟨none, .bin true b gr1.length⟩]) η ∧ η a = η (gr1.length + 1) ∧ η gr1.length = τ := fun θ τ sol hh => by
  cases hh with
  | @app _ _ _ _ _ A _ h1 h2 =>
   obtain ⟨θ', g, s, v⟩ := h.full θ _ sol (.cons h1 (.cons h2 .nil))
   simp only [List.map_cons, List.map_nil, List.cons.injEq, and_true] at v
   have low : ∀ z, z < gr1.length → updN (updN θ' gr1.length τ) (gr1.length + 1) (.bin true A τ) z = θ' z := fun z hz => by rw [updN_lt (by omega), updN_lt hz]
   have mid : updN (updN θ' gr1.length τ) (gr1.length + 1) (.bin true A τ) gr1.length = τ := by rw [updN_lt (by omega), updN_self]
   refine ⟨updN (updN θ' gr1.length τ) (gr1.length + 1) (.bin true A τ), fun k hk => by rw [low k (by omega), g k hk], add_sol.2 ⟨add_sol.2 ⟨s.agree h.ok low, trivial⟩, ?_⟩, ?_, mid⟩
   ·rw [hlen]
    show updN (updN θ' gr1.length τ) (gr1.length + 1) (.bin true A τ) (gr1.length + 1) = .bin true _ _
    rw [updN_self, low b hb, mid, v.2]
   ·rw [updN_self, low a ha, v.1]
 rcases j4 with ⟨rfl, no⟩ | ⟨rfl, iff⟩
 ·refine .inl ⟨rfl, fun θ τs sol hl => ?_⟩
  obtain ⟨τ, rfl, hh⟩ := hl.one
  obtain ⟨η, _, s, e, _⟩ := fwd θ τ sol hh
  exact no η s e
 ·refine .inr ⟨rfl, j1, by omega, by simp only [sizeLs, sizeL] at hhi ⊢; omega, fun i hi => by rw [List.mem_singleton.1 hi]; omega, fun θ sol => ?_, fun θ τs sol hl => ?_⟩
  ·obtain ⟨s3, e⟩ := (iff θ).1 sol
   obtain ⟨s2, hn⟩ := add_sol.1 s3
   obtain ⟨s1, _⟩ := add_sol.1 s2
   obtain ⟨s0, hh⟩ := h.sound θ s1
   rw [hlen] at hn
   refine ⟨s0, ?_⟩
   simp only [List.map_cons, List.map_nil] at hh ⊢
   rw [e, show θ (gr1.length + 1) = _ from hn] at hh
   cases hh with
   | cons h1 hh =>
    cases hh with
    | cons h2 _ => exact .cons (.app h1 h2) .nil
  ·obtain ⟨τ, rfl, hh⟩ := hl.one
   obtain ⟨η, g, s, e, e2⟩ := fwd θ τ sol hh
   exact ⟨η, g, (iff η).2 ⟨s, e⟩, by simp [e2]⟩
theorem GInf.fst_all {x : Lam} {k : Int} {t : Ty} {a : Nat} {gr3 : List GN} {v : Bool} (h : GInf gr ctx [x] gr1 [a]) (j : Joined (gr1 ++ [⟨none, .var⟩] ++ [⟨none, .var⟩] ++ [⟨none, .bin false gr1.length (gr1.length + 1)⟩]) a (gr1.length + 2) v gr3) :
  (v = false ∧ GNon gr ctx [.mk 8 k t [x]] ∧ GNon gr ctx [.mk 9 k t [x]]) ∨ (v = true ∧ GInf gr ctx [.mk 8 k t [x]] gr3 [gr1.length] ∧ GInf gr ctx [.mk 9 k t [x]] gr3 [gr1.length + 1]) := by
 obtain ⟨j1, j2, j3, j4⟩ := j
 have ha := h.kn a (by simp)
 have hle := h.le
 have hhi := h.hi
 simp only [List.length_append, List.length_singleton] at j2
 have hlen : (gr1 ++ [⟨none, .var⟩] ++ [⟨none, .var⟩] : List GN).length = gr1.length + 2 := by simp
 have fwd : ∀ θ A B, GS gr θ → Has (ctx.map θ) x (.bin false A B) → ∃ η, (∀ k, k < gr.length → η k = θ k) ∧ GS (gr1 ++ [⟨none, .var⟩] ++ [⟨none, .var⟩] ++ [⟨none, .bin false gr1.length (gr1.length + 1)⟩]) η ∧ η a = η (gr1.length + 2) ∧ η gr1.length = A ∧ η (gr1.length + 1) = B := fun θ A B sol h1 => by
  obtain ⟨θ', g, s, v⟩ := h.full θ _ sol (.cons h1 .nil)
  simp only [List.map_cons, List.map_nil, List.cons.injEq, and_true] at v
  have low : ∀ z, z < gr1.length → updN (updN (updN θ' gr1.length A) (gr1.length + 1) B) (gr1.length + 2) (.bin false A B) z = θ' z := fun z hz => by rw [updN_lt (by omega), updN_lt (by omega), updN_lt hz]
  have m1 : updN (updN (updN θ' gr1.length A) (gr1.length + 1) B) (gr1.length + 2) (.bin false A B) gr1.length = A := by rw [updN_lt (by omega), updN_lt (by omega), updN_self]
  have m2 : updN (updN (updN θ' gr1.length A) (gr1.length + 1) B) (gr1.length + 2) (.bin false A B) (gr1.length + 1) = B := by rw [updN_lt (by omega), updN_self]
  refine ⟨updN (updN (updN θ' gr1.length A) (gr1.length + 1) B) (gr1.length + 2) (.bin false A B), fun k hk => by rw [low k (by omega), g k hk], add_sol.2 ⟨add_sol.2 ⟨add_sol.2 ⟨s.agree h.ok low, trivial⟩, trivial⟩, ?_⟩, ?_, m1, m2⟩
  ·rw [hlen]
   show updN (updN (updN θ' gr1.length A) (gr1.length + 1) B) (gr1.length + 2) (.bin false A B) (gr1.length + 2) = .bin false _ _
   rw [updN_self, m1, m2]
  ·rw [updN_self, low a ha, v]
 rcases j4 with ⟨rfl, no⟩ | ⟨rfl, iff⟩
 ·refine .inl ⟨rfl, fun θ τs sol hl => ?_, fun θ τs sol hl => ?_⟩
  ·obtain ⟨τ, rfl, hh⟩ := hl.one
   cases hh with
   | fst hx =>
    obtain ⟨η, _, s, e, _⟩ := fwd θ _ _ sol hx
    exact no η s e
  ·obtain ⟨τ, rfl, hh⟩ := hl.one
   cases hh with
   | snd hx =>
    obtain ⟨η, _, s, e, _⟩ := fwd θ _ _ sol hx
    exact no η s e
 ·have snd : ∀ θ, GS gr3 θ → GS gr θ ∧ Has (ctx.map θ) x (.bin false (θ gr1.length) (θ (gr1.length + 1))) := fun θ sol => by
   obtain ⟨s4, e⟩ := (iff θ).1 sol
   obtain ⟨s3, hn⟩ := add_sol.1 s4
   obtain ⟨s2, _⟩ := add_sol.1 s3
   obtain ⟨s1, _⟩ := add_sol.1 s2
   obtain ⟨s0, hh⟩ := h.sound θ s1
   rw [hlen] at hn
   refine ⟨s0, ?_⟩
   simp only [List.map_cons, List.map_nil] at hh
   rw [e, show θ (gr1.length + 2) = _ from hn] at hh
   cases hh with
   | cons h1 _ => exact h1
  refine .inr ⟨rfl, ⟨j1, by omega, by simp only [sizeLs, sizeL] at hhi ⊢; omega, fun i hi => by rw [List.mem_singleton.1 hi]; omega, fun θ sol => ⟨(snd θ sol).1, .cons (.fst (snd θ sol).2) .nil⟩, fun θ τs sol hl => ?_⟩,
   ⟨j1, by omega, by simp only [sizeLs, sizeL] at hhi ⊢; omega, fun i hi => by rw [List.mem_singleton.1 hi]; omega, fun θ sol => ⟨(snd θ sol).1, .cons (.snd (snd θ sol).2) .nil⟩, fun θ τs sol hl => ?_⟩⟩
  ·obtain ⟨τ, rfl, hh⟩ := hl.one
   cases hh with
   | fst hx =>
    obtain ⟨η, g, s, e, e1, e2⟩ := fwd θ _ _ sol hx
    exact ⟨η, g, (iff η).2 ⟨s, e⟩, by simp [e1]⟩
  ·obtain ⟨τ, rfl, hh⟩ := hl.one
   cases hh with
   | snd hx =>
    obtain ⟨η, g, s, e, e1, e2⟩ := fwd θ _ _ sol hx
    exact ⟨η, g, (iff η).2 ⟨s, e⟩, by simp [e2]⟩
theorem GInf.iter1_all {x y z : Lam} {k : Int} {t : Ty} {a b d : Nat} {gr3 : List GN} {v : Bool} (h : GInf gr ctx [x, y, z] gr1 [a, b, d]) (j : Joined (gr1 ++ [⟨none, .nat⟩]) a gr1.length v gr3) :
  (v = false ∧ GNon gr ctx [.mk 6 k t [x, y, z]]) ∨ (v = true ∧ Gok gr3 ∧ gr3.length = gr1.length + 1 ∧ (∀ θ, GS gr3 θ → GS gr1 θ ∧ θ a = .nat) ∧
   ∀ θ τ, GS gr θ → Has (ctx.map θ) (.mk 6 k t [x, y, z]) τ → ∃ η, (∀ k, k < gr.length → η k = θ k) ∧ GS gr3 η ∧ η b = .bin true τ τ ∧ η d = τ) := by
 obtain ⟨j1, j2, j3, j4⟩ := j
 have ha := h.kn a (by simp)
 have hb := h.kn b (by simp)
 have hd := h.kn d (by simp)
 have hle := h.le
 simp only [List.length_append, List.length_singleton] at j2
 have fwd : ∀ θ τ, GS gr θ → Has (ctx.map θ) (.mk 6 k t [x, y, z]) τ → ∃ η, (∀ k, k < gr.length → η k = θ k) ∧ GS (gr1 ++ [⟨none, .nat⟩]) η ∧ η a = η gr1.length ∧ η b = .bin true τ τ ∧ η d = τ := fun θ τ sol hh => by
  cases hh with
  | iter hx hy hz =>
   obtain ⟨θ', g, s, v⟩ := h.full θ _ sol (.cons hx (.cons hy (.cons hz .nil)))
   simp only [List.map_cons, List.map_nil, List.cons.injEq, and_true] at v
   refine ⟨updN θ' gr1.length .nat, fun k hk => by rw [updN_lt (by omega), g k hk], add_sol.2 ⟨s.agree h.ok fun x hx => updN_lt hx, updN_self _ _ _⟩, ?_, ?_, ?_⟩
   ·rw [updN_self, updN_lt ha, v.1]
   ·rw [updN_lt hb, v.2.1]
   ·rw [updN_lt hd, v.2.2]
 rcases j4 with ⟨rfl, no⟩ | ⟨rfl, iff⟩
 ·refine .inl ⟨rfl, fun θ τs sol hl => ?_⟩
  obtain ⟨τ, rfl, hh⟩ := hl.one
  obtain ⟨η, _, s, e, _⟩ := fwd θ τ sol hh
  exact no η s e
 ·refine .inr ⟨rfl, j1, j2, fun θ sol => ?_, fun θ τ sol hh => ?_⟩
  ·obtain ⟨s2, e⟩ := (iff θ).1 sol
   obtain ⟨s1, hn⟩ := add_sol.1 s2
   exact ⟨s1, e.trans hn⟩
  ·obtain ⟨η, g, s, e, e1, e2⟩ := fwd θ τ sol hh
   exact ⟨η, g, (iff η).2 ⟨s, e⟩, e1, e2⟩
theorem GInf.iter2_all {x y z : Lam} {k : Int} {t : Ty} {a b d : Nat} {gr3 gr5 : List GN} {v : Bool} (h : GInf gr ctx [x, y, z] gr1 [a, b, d]) (g3 : Gok gr3) (l3 : gr3.length = gr1.length + 1) (i1 : ∀ θ, GS gr3 θ → GS gr1 θ ∧ θ a = .nat)
  (i2 : ∀ θ τ, GS gr θ → Has (ctx.map θ) (.mk 6 k t [x, y, z]) τ → ∃ η, (∀ k, k < gr.length → η k = θ k) ∧ GS gr3 η ∧ η b = .bin true τ τ ∧ η d = τ) (j : Joined (gr3 ++ [⟨none, .bin true d d⟩]) b gr3.length v gr5) :
  (v = false ∧ GNon gr ctx [.mk 6 k t [x, y, z]]) ∨ (v = true ∧ GInf gr ctx [.mk 6 k t [x, y, z]] gr5 [d]) := by
 obtain ⟨j1, j2, j3, j4⟩ := j
 have hb := h.kn b (by simp)
 have hd := h.kn d (by simp)
 have hle := h.le
 have hhi := h.hi
 simp only [List.length_append, List.length_singleton] at j2
 have fwd : ∀ θ τ, GS gr θ → Has (ctx.map θ) (.mk 6 k t [x, y, z]) τ → ∃ η, (∀ k, k < gr.length → η k = θ k) ∧ GS (gr3 ++ [⟨none, .bin true d d⟩]) η ∧ η b = η gr3.length ∧ η d = τ := fun θ τ sol hh => by
  obtain ⟨θ', g, s, e1, e2⟩ := i2 θ τ sol hh
  refine ⟨updN θ' gr3.length (.bin true τ τ), fun k hk => by rw [updN_lt (by omega), g k hk], add_sol.2 ⟨s.agree g3 fun x hx => updN_lt hx, ?_⟩, ?_, ?_⟩
  ·show updN θ' gr3.length (.bin true τ τ) gr3.length = .bin true _ _
   rw [updN_self, updN_lt (by omega), e2]
  ·rw [updN_self, updN_lt (by omega), e1]
  ·rw [updN_lt (by omega), e2]
 rcases j4 with ⟨rfl, no⟩ | ⟨rfl, iff⟩
 ·refine .inl ⟨rfl, fun θ τs sol hl => ?_⟩
  obtain ⟨τ, rfl, hh⟩ := hl.one
  obtain ⟨η, _, s, e, _⟩ := fwd θ τ sol hh
  exact no η s e
 ·refine .inr ⟨rfl, j1, by omega, by simp only [sizeLs, sizeL] at hhi ⊢; omega, fun i hi => by rw [List.mem_singleton.1 hi]; omega, fun θ sol => ?_, fun θ τs sol hl => ?_⟩
  ·obtain ⟨s3, e⟩ := (iff θ).1 sol
   obtain ⟨s2, hn⟩ := add_sol.1 s3
   obtain ⟨s1, en⟩ := i1 θ s2
   obtain ⟨s0, hh⟩ := h.sound θ s1
   refine ⟨s0, ?_⟩
   simp only [List.map_cons, List.map_nil] at hh ⊢
   rw [e, show θ gr3.length = _ from hn, en] at hh
   cases hh with
   | cons h1 hh =>
    cases hh with
    | cons h2 hh =>
     cases hh with
     | cons h3 _ => exact .cons (.iter h1 h2 h3) .nil
  ·obtain ⟨τ, rfl, hh⟩ := hl.one
   obtain ⟨η, g, s, e, e2⟩ := fwd θ τ sol hh
   exact ⟨η, g, (iff η).2 ⟨s, e⟩, by simp [e2]⟩
theorem GInf.lam {x : Lam} {k : Int} {t : Ty} {b : Nat} (g : Gok gr) (hctx : ∀ i, i ∈ ctx → i < gr.length) (h : GInf (gr ++ [⟨none, .var⟩]) (ctx ++ [gr.length]) [x] gr1 [b]) :
  GInf gr ctx [.mk 2 k t [x]] (gr1 ++ [⟨none, .bin true gr.length b⟩]) [gr1.length] := by
 have hb := h.kn b (by simp)
 have hle := h.le
 have hhi := h.hi
 simp only [List.length_append, List.length_singleton] at hle hhi
 refine ⟨add_ok h.ok fun p a' b' e => by cases e; exact ⟨by omega, hb⟩, by simp; omega, by simp only [sizeLs, sizeL, List.length_append, List.length_singleton] at hhi ⊢; omega, fun j hj => by rw [List.mem_singleton.1 hj]; simp, fun θ sol => ?_, fun θ τs sol hl => ?_⟩
 ·obtain ⟨s2, hn⟩ := add_sol.1 sol
  obtain ⟨s1, hh⟩ := h.sound θ s2
  obtain ⟨s0, _⟩ := add_sol.1 s1
  refine ⟨s0, ?_⟩
  simp only [List.map_cons, List.map_nil, List.map_append] at hh ⊢
  rw [show θ gr1.length = _ from hn]
  cases hh with
  | cons h1 _ => exact .cons (.lam h1) .nil
 ·obtain ⟨τ, rfl, hh⟩ := hl.one
  cases hh with
  | @lam _ _ _ _ A R h1 =>
   have low : ∀ z, z < gr.length → updN θ gr.length A z = θ z := fun z hz => updN_lt hz
   have hmap : (ctx ++ [gr.length]).map (updN θ gr.length A) = ctx.map θ ++ [A] := by
    rw [List.map_append, map_agree hctx low]; simp [updN_self]
   obtain ⟨θ', g', s, v⟩ := h.full (updN θ gr.length A) [R] (add_sol.2 ⟨sol.agree g low, trivial⟩) (by rw [hmap]; exact .cons h1 .nil)
   simp only [List.map_cons, List.map_nil, List.cons.injEq, and_true] at v
   simp only [List.length_append, List.length_singleton] at g'
   have ea : θ' gr.length = A := by rw [g' _ (by omega), updN_self]
   refine ⟨updN θ' gr1.length (.bin true A R), fun k hk => by rw [updN_lt (by omega), g' k (by omega), low k hk], add_sol.2 ⟨s.agree h.ok fun x hx => updN_lt hx, ?_⟩, by simp [updN_self]⟩
   show updN θ' gr1.length (.bin true A R) gr1.length = .bin true _ _
   rw [updN_self, updN_lt (by omega), updN_lt hb, ea, v]
theorem GInf.lam_no {x : Lam} {k : Int} {t : Ty} (g : Gok gr) (hctx : ∀ i, i ∈ ctx → i < gr.length) (h : GNon (gr ++ [⟨none, .var⟩]) (ctx ++ [gr.length]) [x]) : GNon gr ctx [.mk 2 k t [x]] := fun θ τs sol hl => by
 obtain ⟨τ, rfl, hh⟩ := hl.one
 cases hh with
 | @lam _ _ _ _ A R h1 =>
  have low : ∀ z, z < gr.length → updN θ gr.length A z = θ z := fun z hz => updN_lt hz
  have hmap : (ctx ++ [gr.length]).map (updN θ gr.length A) = ctx.map θ ++ [A] := by
   rw [List.map_append, map_agree hctx low]; simp [updN_self]
  exact h (updN θ gr.length A) [R] (add_sol.2 ⟨sol.agree g low, trivial⟩) (by rw [hmap]; exact .cons h1 .nil)
end
end Go.Proofs.Cw.Si
end

/-
  THE GRAPH 9: term's loop over the parts: printed by program (gen25.py).
-/
section
namespace Go.Proofs.Cw.Si
open Go.Proofs
def M25 (z row : Bool) (n q : Nat) (K : St → Option (AV × Heap)) (s1 ctx : List Tree) (i : Int) (gr : List GN) (o k : Int) (tn : List UInt8) (tl : List Tree) (l : List Lam) (us : List Tree) : Option (AV × Heap) :=
 match z, row, us with
 | false, false, [] => M25_0 n q K s1 ctx i (rowsG gr) o k tn tl (encLs l)
 | false, false, us => M25_0b n q K s1 ctx i (rowsG gr) o k tn tl (encLs l) us
 | false, true, [] => M25_0c n q K s1 i (rowsG gr) o k tn tl (encLs l) ctx
 | false, true, us => M25_0x3 n q K s1 i (rowsG gr) o k tn tl (encLs l) ctx us
 | true, false, [] => M25_0z n q K s1 ctx i o k tn tl (encLs l)
 | true, false, us => M25_0zb n q K s1 ctx i (rowsG gr) o k tn tl (encLs l) us
 | true, true, [] => M25_0zc n q K s1 i (rowsG gr) o k tn tl (encLs l) ctx
 | true, true, us => M25_0zx3 n q K s1 i (rowsG gr) o k tn tl (encLs l) ctx us
def S25s (z row : Bool) (s1 ctx : List Tree) (i : Int) (gr : List GN) (o k : Int) (tn : List UInt8) (tl : List Tree) (l : List Lam) (us : List Tree) : St :=
 match z, row, us with
 | false, false, [] => S25 s1 ctx i i (encLs l) ((encLs l).length : Nat) false (rowsG gr) o k tn tl (encLs l)
 | false, false, us => S25x1 s1 ctx i i (encLs l) ((encLs l).length : Nat) false (rowsG gr) o k tn tl (encLs l) us
 | false, true, [] => S25x2 s1 i i (encLs l) ((encLs l).length : Nat) false (rowsG gr) o k tn tl (encLs l) ctx
 | false, true, us => S25x3 s1 i i (encLs l) ((encLs l).length : Nat) false (rowsG gr) o k tn tl (encLs l) ctx us
 | true, false, [] => S25z s1 ctx i i (encLs l) ((encLs l).length : Nat) false o k tn tl (encLs l)
 | true, false, us => S25zx1 s1 ctx i i (encLs l) ((encLs l).length : Nat) false (rowsG gr) o k tn tl (encLs l) us
 | true, true, [] => S25zx2 s1 i i (encLs l) ((encLs l).length : Nat) false (rowsG gr) o k tn tl (encLs l) ctx
 | true, true, us => S25zx3 s1 i i (encLs l) ((encLs l).length : Nat) false (rowsG gr) o k tn tl (encLs l) ctx us
def H25 (z row : Bool) (gr : List GN) (us : List Tree) : Heap :=
 match z, row, us with
 | true, false, [] => zHeap
 | _, _, _ => gHeap (rowsG gr)
theorem formI {H' : Heap} {gr' : List GN} {u : Int} {v : Bool} (ho : GOut H' gr') : (true && (isT (Sh.tup [Sh.int .i64, Sh.bool]) (AV.t (.tup [I u, .bool v])) && gForm (Sh.agg [Sh.slc]) shN H')) = true := by
 rw [ho.form]; rfl
section
variable {n q c : Nat} {K : St → Option (AV × Heap)} {s1 ctx : List Tree} {l : List Lam} {i : Nat} {gr gr' : List GN} {H' : Heap} {o k : Int} {tn : List UInt8} {tl us : List Tree} {t : Lam}
theorem k25_ok_0 {u : Nat} (hl : l.length ≤ 100000) (hi : l[i]? = some t) (hu : us.length ≤ 100000) (h : EvH E c 25 [.href 0 0 0, .t (.slc ctx), .t (encL t)] (H25 false false gr []) (.t (.tup [I (u : Nat), .bool true]), H')) (ho : GOut H' gr') (hn : c ≤ n) :
  M25 false false n (Nat.succ q) K s1 ctx (i : Nat) gr o k tn tl l [] = M25 false false n q K s1 ctx ((i + 1 : Nat) : Int) gr' o k tn tl l ([] ++ [I (u : Nat)]) := by
 have hlt : i < l.length := (List.getElem?_eq_some_iff.1 hi).1
 have hnth : nth (encLs l) (Int.toNat ((i : Nat) : Int)) = some (encL t) := by rw [Int.toNat_natCast, encLs_map, nth_map, nth_eq, hi]; rfl
 have h := h n hn
 have hw : IntKind.wrap .i64 (((i : Nat) : Int) + 1) = ((i + 1 : Nat) : Int) := by rw [w64 (by omega)]; omega
 rw [encL_eta] at h hnth
 show M25_0 n (Nat.succ q) K s1 ctx ((i : Nat) : Int) (rowsG gr) o k tn tl (encLs l) = M25_0b n q K s1 ctx ((i + 1 : Nat) : Int) (rowsG gr') o k tn tl (encLs l) [I (u : Nat)]
 rw [k25_0]
 refine step_t (by rw [encLs_len]; simp; omega) (step_t (by simp) (step_b hnth (step_t rfl (step_b h (step_t (formI ho) (step_f rfl ?_))))))
 show M25_0b n q K s1 ctx (IntKind.wrap .i64 (((i : Nat) : Int) + 1)) (gRow H') o k tn tl (encLs l) [I (u : Nat)] = _
 rw [hw, ho.row]
theorem k25_ok_0b {a : Tree} {u : Nat} (hl : l.length ≤ 100000) (hi : l[i]? = some t) (hu : us.length ≤ 100000) (h : EvH E c 25 [.href 0 0 0, .t (.slc ctx), .t (encL t)] (H25 false false gr (a :: us)) (.t (.tup [I (u : Nat), .bool true]), H')) (ho : GOut H' gr') (hn : c ≤ n) :
  M25 false false n (Nat.succ q) K s1 ctx (i : Nat) gr o k tn tl l (a :: us) = M25 false false n q K s1 ctx ((i + 1 : Nat) : Int) gr' o k tn tl l ((a :: us) ++ [I (u : Nat)]) := by
 have hlt : i < l.length := (List.getElem?_eq_some_iff.1 hi).1
 have hnth : nth (encLs l) (Int.toNat ((i : Nat) : Int)) = some (encL t) := by rw [Int.toNat_natCast, encLs_map, nth_map, nth_eq, hi]; rfl
 have h := h n hn
 have hw : IntKind.wrap .i64 (((i : Nat) : Int) + 1) = ((i + 1 : Nat) : Int) := by rw [w64 (by omega)]; omega
 rw [encL_eta] at h hnth
 show M25_0b n (Nat.succ q) K s1 ctx ((i : Nat) : Int) (rowsG gr) o k tn tl (encLs l) (a :: us) = M25_0b n q K s1 ctx ((i + 1 : Nat) : Int) (rowsG gr') o k tn tl (encLs l) (a :: us ++ [I (u : Nat)])
 rw [k25_0b]
 refine step_t (by rw [encLs_len]; simp; omega) (step_t (by simp) (step_b hnth (step_t rfl (step_b h (step_t (formI ho) (step_f rfl (step_t (by simp; omega) ?_)))))))
 show M25_0b n q K s1 ctx (IntKind.wrap .i64 (((i : Nat) : Int) + 1)) (gRow H') o k tn tl (encLs l) (a :: us ++ [I (u : Nat)]) = _
 rw [hw, ho.row]
theorem k25_ok_0c {u : Nat} (hl : l.length ≤ 100000) (hi : l[i]? = some t) (hu : us.length ≤ 100000) (h : EvH E c 25 [.href 0 0 0, .t (.slc ctx), .t (encL t)] (H25 false true gr []) (.t (.tup [I (u : Nat), .bool true]), H')) (ho : GOut H' gr') (hn : c ≤ n) :
  M25 false true n (Nat.succ q) K s1 ctx (i : Nat) gr o k tn tl l [] = M25 false true n q K s1 ctx ((i + 1 : Nat) : Int) gr' o k tn tl l ([] ++ [I (u : Nat)]) := by
 have hlt : i < l.length := (List.getElem?_eq_some_iff.1 hi).1
 have hnth : nth (encLs l) (Int.toNat ((i : Nat) : Int)) = some (encL t) := by rw [Int.toNat_natCast, encLs_map, nth_map, nth_eq, hi]; rfl
 have h := h n hn
 have hw : IntKind.wrap .i64 (((i : Nat) : Int) + 1) = ((i + 1 : Nat) : Int) := by rw [w64 (by omega)]; omega
 rw [encL_eta] at h hnth
 show M25_0c n (Nat.succ q) K s1 ((i : Nat) : Int) (rowsG gr) o k tn tl (encLs l) ctx = M25_0x3 n q K s1 ((i + 1 : Nat) : Int) (rowsG gr') o k tn tl (encLs l) ctx [I (u : Nat)]
 rw [k25_0c]
 refine step_t (by rw [encLs_len]; simp; omega) (step_t (by simp) (step_b hnth (step_t rfl (step_b h (step_t (formI ho) (step_f rfl ?_))))))
 show M25_0x3 n q K s1 (IntKind.wrap .i64 (((i : Nat) : Int) + 1)) (gRow H') o k tn tl (encLs l) ctx [I (u : Nat)] = _
 rw [hw, ho.row]
theorem k25_ok_0x3 {a : Tree} {u : Nat} (hl : l.length ≤ 100000) (hi : l[i]? = some t) (hu : us.length ≤ 100000) (h : EvH E c 25 [.href 0 0 0, .t (.slc ctx), .t (encL t)] (H25 false true gr (a :: us)) (.t (.tup [I (u : Nat), .bool true]), H')) (ho : GOut H' gr') (hn : c ≤ n) :
  M25 false true n (Nat.succ q) K s1 ctx (i : Nat) gr o k tn tl l (a :: us) = M25 false true n q K s1 ctx ((i + 1 : Nat) : Int) gr' o k tn tl l ((a :: us) ++ [I (u : Nat)]) := by
 have hlt : i < l.length := (List.getElem?_eq_some_iff.1 hi).1
 have hnth : nth (encLs l) (Int.toNat ((i : Nat) : Int)) = some (encL t) := by rw [Int.toNat_natCast, encLs_map, nth_map, nth_eq, hi]; rfl
 have h := h n hn
 have hw : IntKind.wrap .i64 (((i : Nat) : Int) + 1) = ((i + 1 : Nat) : Int) := by rw [w64 (by omega)]; omega
 rw [encL_eta] at h hnth
 show M25_0x3 n (Nat.succ q) K s1 ((i : Nat) : Int) (rowsG gr) o k tn tl (encLs l) ctx (a :: us) = M25_0x3 n q K s1 ((i + 1 : Nat) : Int) (rowsG gr') o k tn tl (encLs l) ctx (a :: us ++ [I (u : Nat)])
 rw [k25_0x3]
 refine step_t (by rw [encLs_len]; simp; omega) (step_t (by simp) (step_b hnth (step_t rfl (step_b h (step_t (formI ho) (step_f rfl (step_t (by simp; omega) ?_)))))))
 show M25_0x3 n q K s1 (IntKind.wrap .i64 (((i : Nat) : Int) + 1)) (gRow H') o k tn tl (encLs l) ctx (a :: us ++ [I (u : Nat)]) = _
 rw [hw, ho.row]
theorem k25_ok_0z {u : Nat} (hl : l.length ≤ 100000) (hi : l[i]? = some t) (hu : us.length ≤ 100000) (h : EvH E c 25 [.href 0 0 0, .t (.slc ctx), .t (encL t)] (H25 true false gr []) (.t (.tup [I (u : Nat), .bool true]), H')) (ho : GOut H' gr') (hn : c ≤ n) :
  M25 true false n (Nat.succ q) K s1 ctx (i : Nat) gr o k tn tl l [] = M25 true false n q K s1 ctx ((i + 1 : Nat) : Int) gr' o k tn tl l ([] ++ [I (u : Nat)]) := by
 have hlt : i < l.length := (List.getElem?_eq_some_iff.1 hi).1
 have hnth : nth (encLs l) (Int.toNat ((i : Nat) : Int)) = some (encL t) := by rw [Int.toNat_natCast, encLs_map, nth_map, nth_eq, hi]; rfl
 have h := h n hn
 have hw : IntKind.wrap .i64 (((i : Nat) : Int) + 1) = ((i + 1 : Nat) : Int) := by rw [w64 (by omega)]; omega
 rw [encL_eta] at h hnth
 show M25_0z n (Nat.succ q) K s1 ctx ((i : Nat) : Int) o k tn tl (encLs l) = M25_0zb n q K s1 ctx ((i + 1 : Nat) : Int) (rowsG gr') o k tn tl (encLs l) [I (u : Nat)]
 rw [k25_0z]
 refine step_t (by rw [encLs_len]; simp; omega) (step_t (by simp) (step_b hnth (step_t rfl (step_b h (step_t (formI ho) (step_f rfl ?_))))))
 show M25_0zb n q K s1 ctx (IntKind.wrap .i64 (((i : Nat) : Int) + 1)) (gRow H') o k tn tl (encLs l) [I (u : Nat)] = _
 rw [hw, ho.row]
theorem k25_ok_0zb {a : Tree} {u : Nat} (hl : l.length ≤ 100000) (hi : l[i]? = some t) (hu : us.length ≤ 100000) (h : EvH E c 25 [.href 0 0 0, .t (.slc ctx), .t (encL t)] (H25 true false gr (a :: us)) (.t (.tup [I (u : Nat), .bool true]), H')) (ho : GOut H' gr') (hn : c ≤ n) :
  M25 true false n (Nat.succ q) K s1 ctx (i : Nat) gr o k tn tl l (a :: us) = M25 true false n q K s1 ctx ((i + 1 : Nat) : Int) gr' o k tn tl l ((a :: us) ++ [I (u : Nat)]) := by
 have hlt : i < l.length := (List.getElem?_eq_some_iff.1 hi).1
 have hnth : nth (encLs l) (Int.toNat ((i : Nat) : Int)) = some (encL t) := by rw [Int.toNat_natCast, encLs_map, nth_map, nth_eq, hi]; rfl
 have h := h n hn
 have hw : IntKind.wrap .i64 (((i : Nat) : Int) + 1) = ((i + 1 : Nat) : Int) := by rw [w64 (by omega)]; omega
 rw [encL_eta] at h hnth
 show M25_0zb n (Nat.succ q) K s1 ctx ((i : Nat) : Int) (rowsG gr) o k tn tl (encLs l) (a :: us) = M25_0zb n q K s1 ctx ((i + 1 : Nat) : Int) (rowsG gr') o k tn tl (encLs l) (a :: us ++ [I (u : Nat)])
 rw [k25_0zb]
 refine step_t (by rw [encLs_len]; simp; omega) (step_t (by simp) (step_b hnth (step_t rfl (step_b h (step_t (formI ho) (step_f rfl (step_t (by simp; omega) ?_)))))))
 show M25_0zb n q K s1 ctx (IntKind.wrap .i64 (((i : Nat) : Int) + 1)) (gRow H') o k tn tl (encLs l) (a :: us ++ [I (u : Nat)]) = _
 rw [hw, ho.row]
theorem k25_ok_0zc {u : Nat} (hl : l.length ≤ 100000) (hi : l[i]? = some t) (hu : us.length ≤ 100000) (h : EvH E c 25 [.href 0 0 0, .t (.slc ctx), .t (encL t)] (H25 true true gr []) (.t (.tup [I (u : Nat), .bool true]), H')) (ho : GOut H' gr') (hn : c ≤ n) :
  M25 true true n (Nat.succ q) K s1 ctx (i : Nat) gr o k tn tl l [] = M25 true true n q K s1 ctx ((i + 1 : Nat) : Int) gr' o k tn tl l ([] ++ [I (u : Nat)]) := by
 have hlt : i < l.length := (List.getElem?_eq_some_iff.1 hi).1
 have hnth : nth (encLs l) (Int.toNat ((i : Nat) : Int)) = some (encL t) := by rw [Int.toNat_natCast, encLs_map, nth_map, nth_eq, hi]; rfl
 have h := h n hn
 have hw : IntKind.wrap .i64 (((i : Nat) : Int) + 1) = ((i + 1 : Nat) : Int) := by rw [w64 (by omega)]; omega
 rw [encL_eta] at h hnth
 show M25_0zc n (Nat.succ q) K s1 ((i : Nat) : Int) (rowsG gr) o k tn tl (encLs l) ctx = M25_0zx3 n q K s1 ((i + 1 : Nat) : Int) (rowsG gr') o k tn tl (encLs l) ctx [I (u : Nat)]
 rw [k25_0zc]
 refine step_t (by rw [encLs_len]; simp; omega) (step_t (by simp) (step_b hnth (step_t rfl (step_b h (step_t (formI ho) (step_f rfl ?_))))))
 show M25_0zx3 n q K s1 (IntKind.wrap .i64 (((i : Nat) : Int) + 1)) (gRow H') o k tn tl (encLs l) ctx [I (u : Nat)] = _
 rw [hw, ho.row]
theorem k25_ok_0zx3 {a : Tree} {u : Nat} (hl : l.length ≤ 100000) (hi : l[i]? = some t) (hu : us.length ≤ 100000) (h : EvH E c 25 [.href 0 0 0, .t (.slc ctx), .t (encL t)] (H25 true true gr (a :: us)) (.t (.tup [I (u : Nat), .bool true]), H')) (ho : GOut H' gr') (hn : c ≤ n) :
  M25 true true n (Nat.succ q) K s1 ctx (i : Nat) gr o k tn tl l (a :: us) = M25 true true n q K s1 ctx ((i + 1 : Nat) : Int) gr' o k tn tl l ((a :: us) ++ [I (u : Nat)]) := by
 have hlt : i < l.length := (List.getElem?_eq_some_iff.1 hi).1
 have hnth : nth (encLs l) (Int.toNat ((i : Nat) : Int)) = some (encL t) := by rw [Int.toNat_natCast, encLs_map, nth_map, nth_eq, hi]; rfl
 have h := h n hn
 have hw : IntKind.wrap .i64 (((i : Nat) : Int) + 1) = ((i + 1 : Nat) : Int) := by rw [w64 (by omega)]; omega
 rw [encL_eta] at h hnth
 show M25_0zx3 n (Nat.succ q) K s1 ((i : Nat) : Int) (rowsG gr) o k tn tl (encLs l) ctx (a :: us) = M25_0zx3 n q K s1 ((i + 1 : Nat) : Int) (rowsG gr') o k tn tl (encLs l) ctx (a :: us ++ [I (u : Nat)])
 rw [k25_0zx3]
 refine step_t (by rw [encLs_len]; simp; omega) (step_t (by simp) (step_b hnth (step_t rfl (step_b h (step_t (formI ho) (step_f rfl (step_t (by simp; omega) ?_)))))))
 show M25_0zx3 n q K s1 (IntKind.wrap .i64 (((i : Nat) : Int) + 1)) (gRow H') o k tn tl (encLs l) ctx (a :: us ++ [I (u : Nat)]) = _
 rw [hw, ho.row]
theorem k25_no_0 {u : Int} (hl : l.length ≤ 100000) (hi : l[i]? = some t) (h : EvH E c 25 [.href 0 0 0, .t (.slc ctx), .t (encL t)] (H25 false false gr []) (.t (.tup [I u, .bool false]), H')) (ho : GOut H' gr') :
  ∃ H2, GOut H2 gr' ∧ ∀ n q K, c ≤ n → M25 false false n (Nat.succ q) K s1 ctx (i : Nat) gr o k tn tl l [] = some (.t (.tup [I 0, .bool false]), H2) := by
 have hlt : i < l.length := (List.getElem?_eq_some_iff.1 hi).1
 have hnth : nth (encLs l) (Int.toNat ((i : Nat) : Int)) = some (encL t) := by rw [Int.toNat_natCast, encLs_map, nth_map, nth_eq, hi]; rfl
 rw [encL_eta] at h hnth
 refine ⟨[.mix (Sh.agg [Sh.slc]) [.agg [.hsl 3 none]], .dead, .tre (Sh.agg [Sh.int IntKind.i64, Sh.int IntKind.i64, Sh.str, Sh.slc, Sh.slc]) [.agg [I o, I k, .str tn, .slc tl, .slc (encLs l)]], .tre shN (gRow H')], ⟨rfl, ho.row⟩, fun n q K hn => ?_⟩
 have h := h n hn
 show M25_0 n (Nat.succ q) K s1 ctx ((i : Nat) : Int) (rowsG gr) o k tn tl (encLs l) = _
 rw [k25_0]
 exact step_t (by rw [encLs_len]; simp; omega) (step_t (by simp) (step_b hnth (step_t rfl (step_b h (step_t (formI ho) (step_t rfl rfl))))))
theorem k25_no_0b {a : Tree} {u : Int} (hl : l.length ≤ 100000) (hi : l[i]? = some t) (h : EvH E c 25 [.href 0 0 0, .t (.slc ctx), .t (encL t)] (H25 false false gr (a :: us)) (.t (.tup [I u, .bool false]), H')) (ho : GOut H' gr') :
  ∃ H2, GOut H2 gr' ∧ ∀ n q K, c ≤ n → M25 false false n (Nat.succ q) K s1 ctx (i : Nat) gr o k tn tl l (a :: us) = some (.t (.tup [I 0, .bool false]), H2) := by
 have hlt : i < l.length := (List.getElem?_eq_some_iff.1 hi).1
 have hnth : nth (encLs l) (Int.toNat ((i : Nat) : Int)) = some (encL t) := by rw [Int.toNat_natCast, encLs_map, nth_map, nth_eq, hi]; rfl
 rw [encL_eta] at h hnth
 refine ⟨[.mix (Sh.agg [Sh.slc]) [.agg [.hsl 5 none]], .dead, .dead, .tre (Sh.agg [Sh.int IntKind.i64, Sh.int IntKind.i64, Sh.str, Sh.slc, Sh.slc]) [.agg [I o, I k, .str tn, .slc tl, .slc (encLs l)]], .tre (Sh.int IntKind.i64) (a :: us), .tre shN (gRow H')], ⟨rfl, ho.row⟩, fun n q K hn => ?_⟩
 have h := h n hn
 show M25_0b n (Nat.succ q) K s1 ctx ((i : Nat) : Int) (rowsG gr) o k tn tl (encLs l) (a :: us) = _
 rw [k25_0b]
 exact step_t (by rw [encLs_len]; simp; omega) (step_t (by simp) (step_b hnth (step_t rfl (step_b h (step_t (formI ho) (step_t rfl rfl))))))
theorem k25_no_0c {u : Int} (hl : l.length ≤ 100000) (hi : l[i]? = some t) (h : EvH E c 25 [.href 0 0 0, .t (.slc ctx), .t (encL t)] (H25 false true gr []) (.t (.tup [I u, .bool false]), H')) (ho : GOut H' gr') :
  ∃ H2, GOut H2 gr' ∧ ∀ n q K, c ≤ n → M25 false true n (Nat.succ q) K s1 ctx (i : Nat) gr o k tn tl l [] = some (.t (.tup [I 0, .bool false]), H2) := by
 have hlt : i < l.length := (List.getElem?_eq_some_iff.1 hi).1
 have hnth : nth (encLs l) (Int.toNat ((i : Nat) : Int)) = some (encL t) := by rw [Int.toNat_natCast, encLs_map, nth_map, nth_eq, hi]; rfl
 rw [encL_eta] at h hnth
 refine ⟨[.mix (Sh.agg [Sh.slc]) [.agg [.hsl 5 none]], .dead, .dead, .tre (Sh.agg [Sh.int IntKind.i64, Sh.int IntKind.i64, Sh.str, Sh.slc, Sh.slc]) [.agg [I o, I k, .str tn, .slc tl, .slc (encLs l)]], .froz (Sh.int IntKind.i64) ctx, .tre shN (gRow H')], ⟨rfl, ho.row⟩, fun n q K hn => ?_⟩
 have h := h n hn
 show M25_0c n (Nat.succ q) K s1 ((i : Nat) : Int) (rowsG gr) o k tn tl (encLs l) ctx = _
 rw [k25_0c]
 exact step_t (by rw [encLs_len]; simp; omega) (step_t (by simp) (step_b hnth (step_t rfl (step_b h (step_t (formI ho) (step_t rfl rfl))))))
theorem k25_no_0x3 {a : Tree} {u : Int} (hl : l.length ≤ 100000) (hi : l[i]? = some t) (h : EvH E c 25 [.href 0 0 0, .t (.slc ctx), .t (encL t)] (H25 false true gr (a :: us)) (.t (.tup [I u, .bool false]), H')) (ho : GOut H' gr') :
  ∃ H2, GOut H2 gr' ∧ ∀ n q K, c ≤ n → M25 false true n (Nat.succ q) K s1 ctx (i : Nat) gr o k tn tl l (a :: us) = some (.t (.tup [I 0, .bool false]), H2) := by
 have hlt : i < l.length := (List.getElem?_eq_some_iff.1 hi).1
 have hnth : nth (encLs l) (Int.toNat ((i : Nat) : Int)) = some (encL t) := by rw [Int.toNat_natCast, encLs_map, nth_map, nth_eq, hi]; rfl
 rw [encL_eta] at h hnth
 refine ⟨[.mix (Sh.agg [Sh.slc]) [.agg [.hsl 6 none]], .dead, .dead, .tre (Sh.agg [Sh.int IntKind.i64, Sh.int IntKind.i64, Sh.str, Sh.slc, Sh.slc]) [.agg [I o, I k, .str tn, .slc tl, .slc (encLs l)]], .froz (Sh.int IntKind.i64) ctx, .tre (Sh.int IntKind.i64) (a :: us), .tre shN (gRow H')], ⟨rfl, ho.row⟩, fun n q K hn => ?_⟩
 have h := h n hn
 show M25_0x3 n (Nat.succ q) K s1 ((i : Nat) : Int) (rowsG gr) o k tn tl (encLs l) ctx (a :: us) = _
 rw [k25_0x3]
 exact step_t (by rw [encLs_len]; simp; omega) (step_t (by simp) (step_b hnth (step_t rfl (step_b h (step_t (formI ho) (step_t rfl rfl))))))
theorem k25_no_0z {u : Int} (hl : l.length ≤ 100000) (hi : l[i]? = some t) (h : EvH E c 25 [.href 0 0 0, .t (.slc ctx), .t (encL t)] (H25 true false gr []) (.t (.tup [I u, .bool false]), H')) (ho : GOut H' gr') :
  ∃ H2, GOut H2 gr' ∧ ∀ n q K, c ≤ n → M25 true false n (Nat.succ q) K s1 ctx (i : Nat) gr o k tn tl l [] = some (.t (.tup [I 0, .bool false]), H2) := by
 have hlt : i < l.length := (List.getElem?_eq_some_iff.1 hi).1
 have hnth : nth (encLs l) (Int.toNat ((i : Nat) : Int)) = some (encL t) := by rw [Int.toNat_natCast, encLs_map, nth_map, nth_eq, hi]; rfl
 rw [encL_eta] at h hnth
 refine ⟨[.mix (Sh.agg [Sh.slc]) [.agg [.hsl 2 none]], .tre (Sh.agg [Sh.int IntKind.i64, Sh.int IntKind.i64, Sh.str, Sh.slc, Sh.slc]) [.agg [I o, I k, .str tn, .slc tl, .slc (encLs l)]], .tre shN (gRow H')], ⟨rfl, ho.row⟩, fun n q K hn => ?_⟩
 have h := h n hn
 show M25_0z n (Nat.succ q) K s1 ctx ((i : Nat) : Int) o k tn tl (encLs l) = _
 rw [k25_0z]
 exact step_t (by rw [encLs_len]; simp; omega) (step_t (by simp) (step_b hnth (step_t rfl (step_b h (step_t (formI ho) (step_t rfl rfl))))))
theorem k25_no_0zb {a : Tree} {u : Int} (hl : l.length ≤ 100000) (hi : l[i]? = some t) (h : EvH E c 25 [.href 0 0 0, .t (.slc ctx), .t (encL t)] (H25 true false gr (a :: us)) (.t (.tup [I u, .bool false]), H')) (ho : GOut H' gr') :
  ∃ H2, GOut H2 gr' ∧ ∀ n q K, c ≤ n → M25 true false n (Nat.succ q) K s1 ctx (i : Nat) gr o k tn tl l (a :: us) = some (.t (.tup [I 0, .bool false]), H2) := by
 have hlt : i < l.length := (List.getElem?_eq_some_iff.1 hi).1
 have hnth : nth (encLs l) (Int.toNat ((i : Nat) : Int)) = some (encL t) := by rw [Int.toNat_natCast, encLs_map, nth_map, nth_eq, hi]; rfl
 rw [encL_eta] at h hnth
 refine ⟨[.mix (Sh.agg [Sh.slc]) [.agg [.hsl 4 none]], .dead, .tre (Sh.agg [Sh.int IntKind.i64, Sh.int IntKind.i64, Sh.str, Sh.slc, Sh.slc]) [.agg [I o, I k, .str tn, .slc tl, .slc (encLs l)]], .tre (Sh.int IntKind.i64) (a :: us), .tre shN (gRow H')], ⟨rfl, ho.row⟩, fun n q K hn => ?_⟩
 have h := h n hn
 show M25_0zb n (Nat.succ q) K s1 ctx ((i : Nat) : Int) (rowsG gr) o k tn tl (encLs l) (a :: us) = _
 rw [k25_0zb]
 exact step_t (by rw [encLs_len]; simp; omega) (step_t (by simp) (step_b hnth (step_t rfl (step_b h (step_t (formI ho) (step_t rfl rfl))))))
theorem k25_no_0zc {u : Int} (hl : l.length ≤ 100000) (hi : l[i]? = some t) (h : EvH E c 25 [.href 0 0 0, .t (.slc ctx), .t (encL t)] (H25 true true gr []) (.t (.tup [I u, .bool false]), H')) (ho : GOut H' gr') :
  ∃ H2, GOut H2 gr' ∧ ∀ n q K, c ≤ n → M25 true true n (Nat.succ q) K s1 ctx (i : Nat) gr o k tn tl l [] = some (.t (.tup [I 0, .bool false]), H2) := by
 have hlt : i < l.length := (List.getElem?_eq_some_iff.1 hi).1
 have hnth : nth (encLs l) (Int.toNat ((i : Nat) : Int)) = some (encL t) := by rw [Int.toNat_natCast, encLs_map, nth_map, nth_eq, hi]; rfl
 rw [encL_eta] at h hnth
 refine ⟨[.mix (Sh.agg [Sh.slc]) [.agg [.hsl 4 none]], .dead, .tre (Sh.agg [Sh.int IntKind.i64, Sh.int IntKind.i64, Sh.str, Sh.slc, Sh.slc]) [.agg [I o, I k, .str tn, .slc tl, .slc (encLs l)]], .froz (Sh.int IntKind.i64) ctx, .tre shN (gRow H')], ⟨rfl, ho.row⟩, fun n q K hn => ?_⟩
 have h := h n hn
 show M25_0zc n (Nat.succ q) K s1 ((i : Nat) : Int) (rowsG gr) o k tn tl (encLs l) ctx = _
 rw [k25_0zc]
 exact step_t (by rw [encLs_len]; simp; omega) (step_t (by simp) (step_b hnth (step_t rfl (step_b h (step_t (formI ho) (step_t rfl rfl))))))
theorem k25_no_0zx3 {a : Tree} {u : Int} (hl : l.length ≤ 100000) (hi : l[i]? = some t) (h : EvH E c 25 [.href 0 0 0, .t (.slc ctx), .t (encL t)] (H25 true true gr (a :: us)) (.t (.tup [I u, .bool false]), H')) (ho : GOut H' gr') :
  ∃ H2, GOut H2 gr' ∧ ∀ n q K, c ≤ n → M25 true true n (Nat.succ q) K s1 ctx (i : Nat) gr o k tn tl l (a :: us) = some (.t (.tup [I 0, .bool false]), H2) := by
 have hlt : i < l.length := (List.getElem?_eq_some_iff.1 hi).1
 have hnth : nth (encLs l) (Int.toNat ((i : Nat) : Int)) = some (encL t) := by rw [Int.toNat_natCast, encLs_map, nth_map, nth_eq, hi]; rfl
 rw [encL_eta] at h hnth
 refine ⟨[.mix (Sh.agg [Sh.slc]) [.agg [.hsl 5 none]], .dead, .tre (Sh.agg [Sh.int IntKind.i64, Sh.int IntKind.i64, Sh.str, Sh.slc, Sh.slc]) [.agg [I o, I k, .str tn, .slc tl, .slc (encLs l)]], .froz (Sh.int IntKind.i64) ctx, .tre (Sh.int IntKind.i64) (a :: us), .tre shN (gRow H')], ⟨rfl, ho.row⟩, fun n q K hn => ?_⟩
 have h := h n hn
 show M25_0zx3 n (Nat.succ q) K s1 ((i : Nat) : Int) (rowsG gr) o k tn tl (encLs l) ctx (a :: us) = _
 rw [k25_0zx3]
 exact step_t (by rw [encLs_len]; simp; omega) (step_t (by simp) (step_b hnth (step_t rfl (step_b h (step_t (formI ho) (step_t rfl rfl))))))
theorem k25_end_0 : M25 false false n (Nat.succ q) K s1 ctx (l.length : Nat) gr o k tn tl l [] = K (S25s false false s1 ctx (l.length : Nat) gr o k tn tl l []) := by
 show M25_0 n (Nat.succ q) K s1 ctx ((l.length : Nat) : Int) (rowsG gr) o k tn tl (encLs l) = _
 rw [k25_0]
 exact step_f (by rw [encLs_len]; simp) rfl
theorem k25_end_0b {a : Tree} : M25 false false n (Nat.succ q) K s1 ctx (l.length : Nat) gr o k tn tl l (a :: us) = K (S25s false false s1 ctx (l.length : Nat) gr o k tn tl l (a :: us)) := by
 show M25_0b n (Nat.succ q) K s1 ctx ((l.length : Nat) : Int) (rowsG gr) o k tn tl (encLs l) (a :: us) = _
 rw [k25_0b]
 exact step_f (by rw [encLs_len]; simp) rfl
theorem k25_end_0c : M25 false true n (Nat.succ q) K s1 ctx (l.length : Nat) gr o k tn tl l [] = K (S25s false true s1 ctx (l.length : Nat) gr o k tn tl l []) := by
 show M25_0c n (Nat.succ q) K s1 ((l.length : Nat) : Int) (rowsG gr) o k tn tl (encLs l) ctx = _
 rw [k25_0c]
 exact step_f (by rw [encLs_len]; simp) rfl
theorem k25_end_0x3 {a : Tree} : M25 false true n (Nat.succ q) K s1 ctx (l.length : Nat) gr o k tn tl l (a :: us) = K (S25s false true s1 ctx (l.length : Nat) gr o k tn tl l (a :: us)) := by
 show M25_0x3 n (Nat.succ q) K s1 ((l.length : Nat) : Int) (rowsG gr) o k tn tl (encLs l) ctx (a :: us) = _
 rw [k25_0x3]
 exact step_f (by rw [encLs_len]; simp) rfl
theorem k25_end_0z : M25 true false n (Nat.succ q) K s1 ctx (l.length : Nat) gr o k tn tl l [] = K (S25s true false s1 ctx (l.length : Nat) gr o k tn tl l []) := by
 show M25_0z n (Nat.succ q) K s1 ctx ((l.length : Nat) : Int) o k tn tl (encLs l) = _
 rw [k25_0z]
 exact step_f (by rw [encLs_len]; simp) rfl
theorem k25_end_0zb {a : Tree} : M25 true false n (Nat.succ q) K s1 ctx (l.length : Nat) gr o k tn tl l (a :: us) = K (S25s true false s1 ctx (l.length : Nat) gr o k tn tl l (a :: us)) := by
 show M25_0zb n (Nat.succ q) K s1 ctx ((l.length : Nat) : Int) (rowsG gr) o k tn tl (encLs l) (a :: us) = _
 rw [k25_0zb]
 exact step_f (by rw [encLs_len]; simp) rfl
theorem k25_end_0zc : M25 true true n (Nat.succ q) K s1 ctx (l.length : Nat) gr o k tn tl l [] = K (S25s true true s1 ctx (l.length : Nat) gr o k tn tl l []) := by
 show M25_0zc n (Nat.succ q) K s1 ((l.length : Nat) : Int) (rowsG gr) o k tn tl (encLs l) ctx = _
 rw [k25_0zc]
 exact step_f (by rw [encLs_len]; simp) rfl
theorem k25_end_0zx3 {a : Tree} : M25 true true n (Nat.succ q) K s1 ctx (l.length : Nat) gr o k tn tl l (a :: us) = K (S25s true true s1 ctx (l.length : Nat) gr o k tn tl l (a :: us)) := by
 show M25_0zx3 n (Nat.succ q) K s1 ((l.length : Nat) : Int) (rowsG gr) o k tn tl (encLs l) ctx (a :: us) = _
 rw [k25_0zx3]
 exact step_f (by rw [encLs_len]; simp) rfl
theorem k25_ok {z row : Bool} {u : Nat} (hl : l.length ≤ 100000) (hi : l[i]? = some t) (hu : us.length ≤ 100000) (h : EvH E c 25 [.href 0 0 0, .t (.slc ctx), .t (encL t)] (H25 z row gr us) (.t (.tup [I (u : Nat), .bool true]), H')) (ho : GOut H' gr') (hn : c ≤ n) :
  M25 z row n (Nat.succ q) K s1 ctx (i : Nat) gr o k tn tl l us = M25 z row n q K s1 ctx ((i + 1 : Nat) : Int) gr' o k tn tl l (us ++ [I (u : Nat)]) := by
 cases z with
 | false =>
  cases row with
  | false =>
   cases us with
   | nil => exact k25_ok_0 hl hi hu h ho hn
   | cons a us => exact k25_ok_0b hl hi (by simp at hu; omega) h ho hn
  | true =>
   cases us with
   | nil => exact k25_ok_0c hl hi hu h ho hn
   | cons a us => exact k25_ok_0x3 hl hi (by simp at hu; omega) h ho hn
 | true =>
  cases row with
  | false =>
   cases us with
   | nil => exact k25_ok_0z hl hi hu h ho hn
   | cons a us => exact k25_ok_0zb hl hi (by simp at hu; omega) h ho hn
  | true =>
   cases us with
   | nil => exact k25_ok_0zc hl hi hu h ho hn
   | cons a us => exact k25_ok_0zx3 hl hi (by simp at hu; omega) h ho hn
theorem k25_no {z row : Bool} {u : Int} (hl : l.length ≤ 100000) (hi : l[i]? = some t) (h : EvH E c 25 [.href 0 0 0, .t (.slc ctx), .t (encL t)] (H25 z row gr us) (.t (.tup [I u, .bool false]), H')) (ho : GOut H' gr') :
  ∃ H2, GOut H2 gr' ∧ ∀ n q K, c ≤ n → M25 z row n (Nat.succ q) K s1 ctx (i : Nat) gr o k tn tl l us = some (.t (.tup [I 0, .bool false]), H2) := by
 cases z with
 | false =>
  cases row with
  | false =>
   cases us with
   | nil => exact k25_no_0 hl hi h ho
   | cons a us => exact k25_no_0b hl hi h ho
  | true =>
   cases us with
   | nil => exact k25_no_0c hl hi h ho
   | cons a us => exact k25_no_0x3 hl hi h ho
 | true =>
  cases row with
  | false =>
   cases us with
   | nil => exact k25_no_0z hl hi h ho
   | cons a us => exact k25_no_0zb hl hi h ho
  | true =>
   cases us with
   | nil => exact k25_no_0zc hl hi h ho
   | cons a us => exact k25_no_0zx3 hl hi h ho
theorem k25_end {z row : Bool} : M25 z row n (Nat.succ q) K s1 ctx (l.length : Nat) gr o k tn tl l us = K (S25s z row s1 ctx (l.length : Nat) gr o k tn tl l us) := by
 cases z with
 | false =>
  cases row with
  | false =>
   cases us with
   | nil => exact k25_end_0 
   | cons a us => exact k25_end_0b 
  | true =>
   cases us with
   | nil => exact k25_end_0c 
   | cons a us => exact k25_end_0x3 
 | true =>
  cases row with
  | false =>
   cases us with
   | nil => exact k25_end_0z 
   | cons a us => exact k25_end_0zb 
  | true =>
   cases us with
   | nil => exact k25_end_0zc 
   | cons a us => exact k25_end_0zx3 
end
end Go.Proofs.Cw.Si
end

/-
  THE GRAPH 4: finite.
-/
section
namespace Go.Proofs.Cw.Si
open Go.Proofs
def marksT (m : List Nat) : List Tree := m.map fun x => I (x : Nat)
theorem marksT_len (m : List Nat) : (marksT m).length = m.length := by simp [marksT]
theorem marksT_set (m : List Nat) (i x : Nat) : setN (marksT m) i (I (x : Nat)) = marksT (m.set i x) := by
 rw [setN_eq, marksT, marksT, List.map_set]
theorem nth_marks {m : List Nat} {i x : Nat} (h : m[i]? = some x) : nth (marksT m) i = some (I (x : Nat)) := by
 rw [marksT, nth_map, nth_eq, h]; rfl
def zeros : List Nat → Nat
 | [] => 0
 | x :: r => (if x = 0 then 1 else 0) + zeros r
theorem zeros_one : ∀ {m : List Nat} {i : Nat}, m[i]? = some 0 → zeros (m.set i 1) + 1 = zeros m
 | x :: r, 0, h => by
  simp at h; subst h
  simp [zeros]; omega
 | x :: r, i + 1, h => by
  simp at h
  have := zeros_one h
  simp only [List.set_cons_succ, zeros]; omega
theorem zeros_two : ∀ {m : List Nat} {i : Nat}, m[i]? = some 1 → zeros (m.set i 2) = zeros m
 | x :: r, 0, h => by
  simp at h; subst h
  simp [zeros]
 | x :: r, i + 1, h => by
  simp at h
  have := zeros_two h
  simp only [List.set_cons_succ, zeros]; omega
structure Mk (gr : List GN) (m : List Nat) : Prop where
 len : m.length = gr.length
 le : ∀ (j x : Nat), m[j]? = some x → x ≤ 2
 fin : ∀ j, m[j]? = some 2 → ∃ x, GRes gr j x
structure Mgo (gr : List GN) (m m' : List Nat) : Prop where
 ok : Mk gr m'
 one : ∀ j : Nat, m'[j]? = some 1 ↔ m[j]? = some 1
 zer : zeros m' ≤ zeros m
theorem set_get {m : List Nat} {i x : Nat} (h : i < m.length) (j : Nat) : (m.set i x)[j]? = if j = i then some x else m[j]? := by
 by_cases e : j = i
 ·subst e; rw [if_pos rfl, List.getElem?_set_self h]
 ·rw [if_neg e, List.getElem?_set_ne fun c => e c.symm]
section
variable {gr : List GN}
theorem Mk.on {m : List Nat} (k : Mk gr m) {r : Nat} (h : m[r]? = some 0) : Mk gr (m.set r 1) where
 len := by simp [k.len]
 le j x hx := by
  rw [set_get (List.getElem?_eq_some_iff.1 h).1] at hx
  by_cases e : j = r
  ·rw [if_pos e] at hx; cases hx; omega
  ·rw [if_neg e] at hx; exact k.le j x hx
 fin j hj := by
  rw [set_get (List.getElem?_eq_some_iff.1 h).1] at hj
  by_cases e : j = r
  ·rw [if_pos e] at hj; cases hj
  ·rw [if_neg e] at hj; exact k.fin j hj
theorem Mgo.refl {m : List Nat} (k : Mk gr m) : Mgo gr m m := ⟨k, fun _ => Iff.rfl, Nat.le_refl _⟩
theorem Mgo.trans {m1 m2 m3 : List Nat} (h : Mgo gr m1 m2) (k : Mgo gr m2 m3) : Mgo gr m1 m3 := ⟨k.ok, fun j => (k.one j).trans (h.one j), Nat.le_trans k.zer h.zer⟩
theorem Mgo.done {m m3 : List Nat} {r : Nat} (h : m[r]? = some 0) (go : Mgo gr (m.set r 1) m3) {x : FT} (hx : GRes gr r x) : Mgo gr m (m3.set r 2) := by
 have hl := (List.getElem?_eq_some_iff.1 h).1
 have h1 : m3[r]? = some 1 := (go.one r).2 (by rw [set_get hl, if_pos rfl])
 have hl3 := (List.getElem?_eq_some_iff.1 h1).1
 refine ⟨⟨by simp [go.ok.len], fun j y hy => ?_, fun j hj => ?_⟩, fun j => ?_, ?_⟩
 ·rw [set_get hl3] at hy
  by_cases e : j = r
  ·rw [if_pos e] at hy; cases hy; omega
  ·rw [if_neg e] at hy; exact go.ok.le j y hy
 ·rw [set_get hl3] at hj
  by_cases e : j = r
  ·rw [e]; exact ⟨x, hx⟩
  ·rw [if_neg e] at hj; exact go.ok.fin j hj
 ·rw [set_get hl3]
  by_cases e : j = r
  ·rw [if_pos e, e, h]; simp
  ·rw [if_neg e, go.one j, set_get hl, if_neg e]
 ·rw [zeros_two h1]
  have := go.zer
  have := zeros_one h
  omega
def Fin26 (gr : List GN) (cap : Nat) (i : Nat) (m : List Nat) : Prop :=
 ∃ c v m', EvH E c 26 [.t (.ptr (.agg [.slc (rowsG gr)]) 0), .t (I (i : Nat)), .hsl 0 (some cap)] [.tre (.int .i64) (marksT m)] (.t (.bool v), [.tre (.int .i64) (marksT m')]) ∧
  ((v = false ∧ ∀ θ, ¬ GS gr θ) ∨ (v = true ∧ Mgo gr m m' ∧ ∃ x, GRes gr i x))
theorem idxM {m : List Nat} {i : Nat} (h : i < m.length) : (decide ((0 : Int) ≤ (i : Nat)) && (decide (((i : Nat) : Int) < ((marksT m).length : Int)) && true)) = true := by
 rw [marksT_len]; simp; omega
theorem run26_mark {i r cap x : Nat} {m : List Nat} (a : At gr i r) (hx : m[r]? = some x) (h0 : x ≠ 0) : ∃ c, EvH E c 26 [.t (.ptr (.agg [.slc (rowsG gr)]) 0), .t (I (i : Nat)), .hsl 0 (some cap)] [.tre (.int .i64) (marksT m)] (.t (.bool (((x : Nat) : Int) == 2)), [.tre (.int .i64) (marksT m)]) := by
 obtain ⟨c, e⟩ := s54 a
 have hl := (List.getElem?_eq_some_iff.1 hx).1
 refine ⟨c + 1, EvH.mk fun n hn => ?_⟩
 rw [r26]
 refine step_b (e n hn) (step_t rfl (step_t (idxM hl) (step_b (nth_marks hx) (step_t rfl (step_t ?_ (step_t (idxM hl) (step_b (nth_marks hx) (step_t rfl rfl))))))))
 show (((x : Nat) : Int) != 0) = true
 simp; omega
theorem run26_loop {i r cap : Nat} {m m' : List Nat} {v : Bool} {c : Nat} (a : At gr i r) (hx : m[r]? = some 0)
  (h : ∀ n, c ≤ n → L26_0 n n (rowsG gr) (r : Nat) cap 0 (marksT (m.set r 1)) = some (.t (.bool v), [.tre (.int .i64) (marksT m')])) :
  ∃ c, EvH E c 26 [.t (.ptr (.agg [.slc (rowsG gr)]) 0), .t (I (i : Nat)), .hsl 0 (some cap)] [.tre (.int .i64) (marksT m)] (.t (.bool v), [.tre (.int .i64) (marksT m')]) := by
 obtain ⟨c1, e⟩ := s54 a
 have hl := (List.getElem?_eq_some_iff.1 hx).1
 refine ⟨c + c1 + 1, EvH.mk fun n hn => ?_⟩
 have h := h n (by omega)
 rw [← marksT_set] at h
 rw [r26]
 exact step_b (e n (by omega)) (step_t rfl (step_t (idxM hl) (step_b (nth_marks hx) (step_t rfl (step_f rfl (step_t (idxM hl) (step_b (nth_marks hx) (step_t rfl h))))))))
section
variable {r cap j x c : Nat} {k : GK} {m m' : List Nat}
theorem l26_f (h1 : gr[r]? = some ⟨none, k⟩) (hj : j < k.kids.length) (hx : nth k.kids j = some (I (x : Nat)))
  (h : EvH E c 26 [.t (.ptr (.agg [.slc (rowsG gr)]) 0), .t (I (x : Nat)), .hsl 0 (some cap)] [.tre (.int .i64) (marksT m)] (.t (.bool false), [.tre (.int .i64) (marksT m')])) :
  ∀ n q, c ≤ n → L26_0 n (Nat.succ q) (rowsG gr) (r : Nat) cap (j : Nat) (marksT m) = some (.t (.bool false), [.tre (.int .i64) (marksT m')]) := by
 intro n q hn
 have hr : nth (rowsG gr) (Int.toNat ((r : Nat) : Int)) = some (encN ⟨none, k⟩) := by rw [Int.toNat_natCast]; exact nth_rowsG h1
 have hx' : nth k.kids (Int.toNat ((j : Nat) : Int)) = some (I (x : Nat)) := by rw [Int.toNat_natCast]; exact hx
 rw [m26_0]
 exact step_t (by simp) (step_b hr (step_t rfl (step_t (decide_eq_true (show ((j : Nat) : Int) < (k.kids.length : Nat) by omega)) (step_t (by simp) (step_b hr (step_t rfl (step_t (by simp) (step_b hx' (step_t rfl (step_b (h n hn) (step_t rfl (step_t rfl rfl))))))))))))
theorem l26_t (h1 : gr[r]? = some ⟨none, k⟩) (hj : j < k.kids.length) (hl : k.kids.length ≤ 1000) (hx : nth k.kids j = some (I (x : Nat)))
  (h : EvH E c 26 [.t (.ptr (.agg [.slc (rowsG gr)]) 0), .t (I (x : Nat)), .hsl 0 (some cap)] [.tre (.int .i64) (marksT m)] (.t (.bool true), [.tre (.int .i64) (marksT m')])) :
  ∀ n q, c ≤ n → L26_0 n (Nat.succ q) (rowsG gr) (r : Nat) cap (j : Nat) (marksT m) = L26_0 n q (rowsG gr) (r : Nat) cap ((j + 1 : Nat) : Int) (marksT m') := by
 intro n q hn
 have hr : nth (rowsG gr) (Int.toNat ((r : Nat) : Int)) = some (encN ⟨none, k⟩) := by rw [Int.toNat_natCast]; exact nth_rowsG h1
 have hx' : nth k.kids (Int.toNat ((j : Nat) : Int)) = some (I (x : Nat)) := by rw [Int.toNat_natCast]; exact hx
 have hw : IntKind.wrap .i64 (((j : Nat) : Int) + 1) = ((j + 1 : Nat) : Int) := by rw [w64 (by omega)]; omega
 rw [m26_0]
 refine step_t (by simp) (step_b hr (step_t rfl (step_t (decide_eq_true (show ((j : Nat) : Int) < (k.kids.length : Nat) by omega)) (step_t (by simp) (step_b hr (step_t rfl (step_t (by simp) (step_b hx' (step_t rfl (step_b (h n hn) (step_t rfl (step_f rfl ?_))))))))))))
 show L26_0 n q (rowsG gr) (r : Nat) cap (IntKind.wrap .i64 (((j : Nat) : Int) + 1)) (marksT m') = _
 rw [hw]
theorem l26_e (h1 : gr[r]? = some ⟨none, k⟩) (hm : r < m.length) : ∀ n q, L26_0 n (Nat.succ q) (rowsG gr) (r : Nat) cap (k.kids.length : Nat) (marksT m) = some (.t (.bool true), [.tre (.int .i64) (marksT (m.set r 2))]) := by
 intro n q
 have hr : nth (rowsG gr) (Int.toNat ((r : Nat) : Int)) = some (encN ⟨none, k⟩) := by rw [Int.toNat_natCast]; exact nth_rowsG h1
 have hx := nth_marks (List.getElem?_eq_getElem hm)
 rw [← marksT_set, m26_0]
 exact step_t (by simp) (step_b hr (step_t rfl (step_f (decide_eq_false (show ¬ ((k.kids.length : Nat) : Int) < (k.kids.length : Nat) by omega)) (step_t (idxM hm) (step_b (by rw [Int.toNat_natCast]; exact hx) (step_t rfl rfl))))))
end
theorem s26 (g : Gok gr) (cap : Nat) : ∀ (z : Nat) {i : Nat} {m : List Nat}, zeros m < z → Mk gr m → i < gr.length → (∀ θ, GS gr θ → ∀ j : Nat, m[j]? = some 1 → (θ i).size < (θ j).size) → Fin26 gr cap i m := by
 intro z
 induction z with
 | zero => intro i m hz; omega
 | succ z ih =>
  intro i m hz mk hi hanc
  obtain ⟨r, a⟩ := g.at_ i hi
  have hm : r < m.length := by rw [mk.len]; exact a.lt
  have hx : m[r]? = some m[r] := List.getElem?_eq_getElem hm
  generalize m[r] = x at hx
  have hle := mk.le r x hx
  by_cases h0 : x = 0
  ·subst h0
   have hz1 := zeros_one hx
   obtain ⟨k, h1⟩ := a.root_of
   have mk1 := mk.on hx
   have hm1 : r < (m.set r 1).length := by simpa using hm
   cases k with
   | var =>
    obtain ⟨c, e⟩ := run26_loop (cap := cap) (c := 1) a hx (fun n hn => by
     obtain ⟨n, rfl⟩ : ∃ p, n = Nat.succ p := ⟨n - 1, by omega⟩
     exact l26_e (k := .var) h1 hm1 (Nat.succ n) n)
    have res : GRes gr r (.var r) := .var a.self h1
    exact ⟨c, true, _, e, .inr ⟨rfl, Mgo.done hx (Mgo.refl mk1) res, _, res.lead a⟩⟩
   | nat =>
    obtain ⟨c, e⟩ := run26_loop (cap := cap) (c := 1) a hx (fun n hn => by
     obtain ⟨n, rfl⟩ : ∃ p, n = Nat.succ p := ⟨n - 1, by omega⟩
     exact l26_e (k := .nat) h1 hm1 (Nat.succ n) n)
    have res : GRes gr r .nat := .nat a.self h1
    exact ⟨c, true, _, e, .inr ⟨rfl, Mgo.done hx (Mgo.refl mk1) res, _, res.lead a⟩⟩
   | bin p u w =>
    obtain ⟨ku, kw⟩ := g.kid r none p u w h1
    have hu : nth (GK.kids (.bin p u w)) 0 = some (I (u : Nat)) := rfl
    have hw : nth (GK.kids (.bin p u w)) 1 = some (I (w : Nat)) := rfl
    have anc1 : ∀ (y : Nat), (∀ θ, GS gr θ → (θ y).size < (θ r).size) → ∀ θ, GS gr θ → ∀ j : Nat, (m.set r 1)[j]? = some 1 → (θ y).size < (θ j).size := fun y hy θ sol j hj => by
     have hyr := hy θ sol
     rw [set_get hm] at hj
     by_cases e : j = r
     ·rw [e]; exact hyr
     ·rw [if_neg e] at hj
      have := hanc θ sol j hj
      rw [a.eq sol] at this
      omega
    have su : ∀ θ, GS gr θ → (θ u).size < (θ r).size ∧ (θ w).size < (θ r).size := fun θ sol => by
     rw [show θ r = _ from sol _ _ h1]
     simp only [FT.size]
     have := FT.size_pos (θ u)
     have := FT.size_pos (θ w)
     omega
    obtain ⟨c1, v1, m2, e1, o1⟩ := ih (i := u) (m := m.set r 1) (by omega) mk1 ku (anc1 u fun θ sol => (su θ sol).1)
    rcases o1 with ⟨rfl, no⟩ | ⟨rfl, go1, x1, res1⟩
    ·obtain ⟨c, e⟩ := run26_loop (cap := cap) (c := c1 + 1) a hx (fun n hn => by
      obtain ⟨q, hq⟩ : ∃ p, n = Nat.succ p := ⟨n - 1, by omega⟩
      have := l26_f (j := 0) h1 (by simp [GK.kids]) hu e1 n q (by omega)
      rw [← hq] at this
      exact this)
     exact ⟨c, false, _, e, .inl ⟨rfl, no⟩⟩
    ·have z2 := go1.zer
     obtain ⟨c2, v2, m3, e2, o2⟩ := ih (i := w) (m := m2) (by omega) go1.ok kw (fun θ sol j hj => anc1 w (fun θ sol => (su θ sol).2) θ sol j ((go1.one j).1 hj))
     rcases o2 with ⟨rfl, no⟩ | ⟨rfl, go2, x2, res2⟩
     ·obtain ⟨c, e⟩ := run26_loop (cap := cap) (c := c1 + c2 + 2) a hx (fun n hn => by
       obtain ⟨q, hq⟩ : ∃ p, n = Nat.succ (Nat.succ p) := ⟨n - 2, by omega⟩
       have t1 := l26_t (j := 0) h1 (by simp [GK.kids]) (by simp [GK.kids]) hu e1 n (Nat.succ q) (by omega)
       have t2 := l26_f (j := 1) h1 (by simp [GK.kids]) hw e2 n q (by omega)
       rw [← hq] at t1
       exact t1.trans t2)
      exact ⟨c, false, _, e, .inl ⟨rfl, no⟩⟩
     ·have go := go1.trans go2
      have hm3 : r < m3.length := by rw [go.ok.len]; exact a.lt
      obtain ⟨c, e⟩ := run26_loop (cap := cap) (c := c1 + c2 + 3) a hx (fun n hn => by
       obtain ⟨q, hq⟩ : ∃ p, n = Nat.succ (Nat.succ (Nat.succ p)) := ⟨n - 3, by omega⟩
       have t1 := l26_t (j := 0) h1 (by simp [GK.kids]) (by simp [GK.kids]) hu e1 n (Nat.succ (Nat.succ q)) (by omega)
       have t2 := l26_t (j := 1) h1 (by simp [GK.kids]) (by simp [GK.kids]) hw e2 n (Nat.succ q) (by omega)
       have t3 := l26_e (cap := cap) (m := m3) h1 hm3 n q
       rw [← hq] at t1
       exact t1.trans (t2.trans t3))
      have res : GRes gr r (.bin p x1 x2) := .bin a.self h1 res1 res2
      exact ⟨c, true, _, e, .inr ⟨rfl, Mgo.done hx go res, _, res.lead a⟩⟩
  ·obtain ⟨c, e⟩ := run26_mark (cap := cap) a hx h0
   by_cases h1 : x = 1
   ·subst h1
    refine ⟨c, false, m, e, .inl ⟨rfl, fun θ sol => ?_⟩⟩
    have := hanc θ sol r hx
    rw [a.eq sol] at this
    omega
   ·have h2 : x = 2 := by omega
    subst h2
    obtain ⟨y, hy⟩ := mk.fin r hx
    exact ⟨c, true, m, e, .inr ⟨rfl, Mgo.refl mk, y, hy.lead a⟩⟩
end
end Go.Proofs.Cw.Si
end
