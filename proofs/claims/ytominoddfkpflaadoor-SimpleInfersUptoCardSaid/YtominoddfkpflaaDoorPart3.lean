/- SIMPLE: what the functions that the law reaches come to, and why. -/
import Derived.Test.YtominoddfkpflaaDoorPart2
import Derived.Test.YtominoddfkpflaaDoorPart1
import Derived.Test.YtominoddfkpflaaDoorCw4
set_option linter.unusedSimpArgs false
set_option linter.unusedVariables false

/-
  THE INFERER'S WORLD 4: unify, step by step.
-/
section
namespace Go.Proofs.Cw.Si
open Go.Proofs
section
variable {G : World'} {f m : Nat} {N : NT} {next : Nat} {es : Bd}
theorem u68_same (w : Wok G f m N next es) {a b r s : Nat} (ha : Find N es a r) (hb : Find N es b r) : ∃ c, EvW E c 68 [.wp f 0, .wp a 0, .wp b 0, .wm s] G (.bool true) G := by
 obtain ⟨ca, ea⟩ := s47 w ha
 obtain ⟨cb, eb⟩ := s47 w hb
 refine ⟨ca + cb + 1, EvW.mk fun n hn => ?_⟩
 rw [w68]
 refine step_b (ea n (by omega)) (step_t rfl (step_b (eb n (by omega)) (step_t rfl (step_t ?_ rfl))))
 show (Nat.beq r r && true) = true
 rw [Nat.beq_refl]; rfl
theorem u68_seen (w : Wok G f m N next es) {a b ra rb s : Nat} {S : List (Nat × Nat)} (ha : Find N es a ra) (hb : Find N es b rb) (hs : nth G s = some (.map (pairM S))) (hS : (ra, rb) ∈ S) (hne : ra ≠ rb) :
  ∃ c, EvW E c 68 [.wp f 0, .wp a 0, .wp b 0, .wm s] G (.bool true) G := by
 obtain ⟨ca, ea⟩ := s47 w ha
 obtain ⟨cb, eb⟩ := s47 w hb
 refine ⟨ca + cb + 1, EvW.mk fun n hn => ?_⟩
 rw [w68]
 refine step_b (ea n (by omega)) (step_t rfl (step_b (eb n (by omega)) (step_t rfl (step_f ?_ (step_b ((wlook_pair hs).2 hS) (step_t rfl (step_t rfl rfl)))))))
 show (Nat.beq ra rb && true) = false
 rw [beqN, decide_eq_false hne]; rfl
theorem u68_un (w : Wok G f m N next es) {a b ra rb s k : Nat} {nb : Nd} {S : List (Nat × Nat)} (ha : Find N es a ra) (hb : Find N es b rb) (hs : nth G s = some (.map (pairM S))) (hS : (ra, rb) ∉ S) (hne : ra ≠ rb)
  (na : N ra = some (.unk k)) (hnb : N rb = some nb) (hn0 : (nb.name == []) = false) {c : Nat} {v : Bool} {G1 G2 : World'}
  (h : EvW E c 81 [.wp f 0, I (k : Nat), .wp rb 0, .wm G.length] (G ++ [.map []]) (.bool v) G1) (h2 : v = false → wcell G1 f 1 = some (.wm m) ∧ wcell G1 ra 1 = some (I (k : Nat)) ∧ wput .int G1 m (I (k : Nat)) (.wp rb 0) = some G2) :
  ∃ c, EvW E c 68 [.wp f 0, .wp a 0, .wp b 0, .wm s] G (.bool (!v)) (bif v then G1 else G2) := by
 obtain ⟨ca, ea⟩ := s47 w ha
 obtain ⟨cb, eb⟩ := s47 w hb
 obtain ⟨a0, a1, _⟩ := w.cell na
 obtain ⟨b0, b1, _⟩ := w.cell hnb
 refine ⟨ca + cb + c + 1, EvW.mk fun n hn => ?_⟩
 rw [w68]
 refine step_b (ea n (by omega)) (step_t rfl (step_b (eb n (by omega)) (step_t rfl (step_f ?_ (step_b ((wlook_pair hs).1 hS) (step_t rfl (step_f rfl ?_)))))))
 ·show (Nat.beq ra rb && true) = false
  rw [beqN, decide_eq_false hne]; rfl
 refine step_b a0 (step_t rfl (step_f rfl ?_))
 refine step_b a0 (step_t rfl (step_t rfl ?_))
 refine step_b b0 (step_t rfl (step_f hn0 ?_))
 refine step_b a1 (step_t rfl ?_)
 refine step_b (h n (by omega)) (step_t rfl ?_)
 cases v with
 | true => exact step_t rfl rfl
 | false =>
  obtain ⟨k1, k2, k3⟩ := h2 rfl
  exact step_f rfl (step_b k1 (step_t rfl (step_b k2 (step_t rfl (step_b k3 rfl)))))
theorem u68_nu (w : Wok G f m N next es) {a b ra rb s k : Nat} {na : Nd} {S : List (Nat × Nat)} (ha : Find N es a ra) (hb : Find N es b rb) (hs : nth G s = some (.map (pairM S))) (hS : (ra, rb) ∉ S) (hne : ra ≠ rb)
  (hna : N ra = some na) (hn0 : (na.name == []) = false) (hnb : N rb = some (.unk k)) {c : Nat} {v : Bool} {G1 G2 : World'}
  (h : EvW E c 81 [.wp f 0, I (k : Nat), .wp ra 0, .wm G.length] (G ++ [.map []]) (.bool v) G1) (h2 : v = false → wcell G1 f 1 = some (.wm m) ∧ wcell G1 rb 1 = some (I (k : Nat)) ∧ wput .int G1 m (I (k : Nat)) (.wp ra 0) = some G2) :
  ∃ c, EvW E c 68 [.wp f 0, .wp a 0, .wp b 0, .wm s] G (.bool (!v)) (bif v then G1 else G2) := by
 obtain ⟨ca, ea⟩ := s47 w ha
 obtain ⟨cb, eb⟩ := s47 w hb
 obtain ⟨a0, a1, _⟩ := w.cell hna
 obtain ⟨b0, b1, _⟩ := w.cell hnb
 have hn1 : (!(na.name == [])) = true := by rw [hn0]; rfl
 refine ⟨ca + cb + c + 1, EvW.mk fun n hn => ?_⟩
 rw [w68]
 refine step_b (ea n (by omega)) (step_t rfl (step_b (eb n (by omega)) (step_t rfl (step_f ?_ (step_b ((wlook_pair hs).1 hS) (step_t rfl (step_f rfl ?_)))))))
 ·show (Nat.beq ra rb && true) = false
  rw [beqN, decide_eq_false hne]; rfl
 refine step_b a0 (step_t rfl (step_t hn1 ?_))
 refine step_b b0 (step_t rfl (step_t rfl ?_))
 refine step_b b0 (step_t rfl (step_t rfl ?_))
 refine step_b a0 (step_t rfl (step_f hn0 ?_))
 refine step_b b1 (step_t rfl ?_)
 refine step_b (h n (by omega)) (step_t rfl ?_)
 cases v with
 | true => exact step_t rfl rfl
 | false =>
  obtain ⟨k1, k2, k3⟩ := h2 rfl
  exact step_f rfl (step_b k1 (step_t rfl (step_b k2 (step_t rfl (step_b k3 rfl)))))
theorem u68_uu (w : Wok G f m N next es) {a b ra rb s k j : Nat} {S : List (Nat × Nat)} (ha : Find N es a ra) (hb : Find N es b rb) (hs : nth G s = some (.map (pairM S))) (hS : (ra, rb) ∉ S) (hne : ra ≠ rb)
  (hna : N ra = some (.unk k)) (hnb : N rb = some (.unk j)) (hkj : k ≠ j) {c : Nat} {v : Bool} {G1 G2 : World'}
  (h : EvW E c 81 [.wp f 0, I (k : Nat), .wp rb 0, .wm G.length] (G ++ [.map []]) (.bool v) G1) (h2 : v = false → wcell G1 f 1 = some (.wm m) ∧ wcell G1 ra 1 = some (I (k : Nat)) ∧ wput .int G1 m (I (k : Nat)) (.wp rb 0) = some G2) :
  ∃ c, EvW E c 68 [.wp f 0, .wp a 0, .wp b 0, .wm s] G (.bool (!v)) (bif v then G1 else G2) := by
 obtain ⟨ca, ea⟩ := s47 w ha
 obtain ⟨cb, eb⟩ := s47 w hb
 obtain ⟨a0, a1, _⟩ := w.cell hna
 obtain ⟨b0, b1, _⟩ := w.cell hnb
 refine ⟨ca + cb + c + 1, EvW.mk fun n hn => ?_⟩
 rw [w68]
 refine step_b (ea n (by omega)) (step_t rfl (step_b (eb n (by omega)) (step_t rfl (step_f ?_ (step_b ((wlook_pair hs).1 hS) (step_t rfl (step_f rfl ?_)))))))
 ·show (Nat.beq ra rb && true) = false
  rw [beqN, decide_eq_false hne]; rfl
 refine step_b a0 (step_t rfl (step_f rfl ?_))
 refine step_b a0 (step_t rfl (step_t rfl ?_))
 refine step_b b0 (step_t rfl (step_t rfl ?_))
 refine step_b a1 (step_t rfl (step_b b1 (step_t rfl (step_f ?_ ?_))))
 ·show (((k : Nat) : Int) == ((j : Nat) : Int)) = false
  simp; omega
 refine step_b a1 (step_t rfl ?_)
 refine step_b (h n (by omega)) (step_t rfl ?_)
 cases v with
 | true => exact step_t rfl rfl
 | false =>
  obtain ⟨k1, k2, k3⟩ := h2 rfl
  exact step_f rfl (step_b k1 (step_t rfl (step_b k2 (step_t rfl (step_b k3 rfl)))))
theorem u68_u1 (w : Wok G f m N next es) {a b ra rb s k : Nat} {S : List (Nat × Nat)} (ha : Find N es a ra) (hb : Find N es b rb) (hs : nth G s = some (.map (pairM S))) (hS : (ra, rb) ∉ S) (hne : ra ≠ rb)
  (hna : N ra = some (.unk k)) (hnb : N rb = some (.unk k)) : ∃ c, EvW E c 68 [.wp f 0, .wp a 0, .wp b 0, .wm s] G (.bool true) G := by
 obtain ⟨ca, ea⟩ := s47 w ha
 obtain ⟨cb, eb⟩ := s47 w hb
 obtain ⟨a0, a1, _⟩ := w.cell hna
 obtain ⟨b0, b1, _⟩ := w.cell hnb
 refine ⟨ca + cb + 1, EvW.mk fun n hn => ?_⟩
 rw [w68]
 refine step_b (ea n (by omega)) (step_t rfl (step_b (eb n (by omega)) (step_t rfl (step_f ?_ (step_b ((wlook_pair hs).1 hS) (step_t rfl (step_f rfl ?_)))))))
 ·show (Nat.beq ra rb && true) = false
  rw [beqN, decide_eq_false hne]; rfl
 refine step_b a0 (step_t rfl (step_f rfl ?_))
 refine step_b a0 (step_t rfl (step_t rfl ?_))
 refine step_b b0 (step_t rfl (step_t rfl ?_))
 refine step_b a1 (step_t rfl (step_b b1 (step_t rfl (step_t ?_ rfl))))
 show (((k : Nat) : Int) == ((k : Nat) : Int)) = true
 simp
theorem u68_ne (w : Wok G f m N next es) {a b ra rb s : Nat} {na nb : Nd} {S : List (Nat × Nat)} (ha : Find N es a ra) (hb : Find N es b rb) (hs : nth G s = some (.map (pairM S))) (hS : (ra, rb) ∉ S) (hne : ra ≠ rb)
  (hna : N ra = some na) (hnb : N rb = some nb) (ha0 : (na.name == []) = false) (hb0 : (nb.name == []) = false) (hd : (na.name == nb.name) = false) : ∃ c, EvW E c 68 [.wp f 0, .wp a 0, .wp b 0, .wm s] G (.bool false) G := by
 obtain ⟨ca, ea⟩ := s47 w ha
 obtain ⟨cb, eb⟩ := s47 w hb
 obtain ⟨a0, a1, _⟩ := w.cell hna
 obtain ⟨b0, b1, _⟩ := w.cell hnb
 have hn1 : (!(na.name == [])) = true := by rw [ha0]; rfl
 have hn2 : (!(na.name == nb.name)) = true := by rw [hd]; rfl
 refine ⟨ca + cb + 1, EvW.mk fun n hn => ?_⟩
 rw [w68]
 refine step_b (ea n (by omega)) (step_t rfl (step_b (eb n (by omega)) (step_t rfl (step_f ?_ (step_b ((wlook_pair hs).1 hS) (step_t rfl (step_f rfl ?_)))))))
 ·show (Nat.beq ra rb && true) = false
  rw [beqN, decide_eq_false hne]; rfl
 refine step_b a0 (step_t rfl (step_t hn1 ?_))
 refine step_b b0 (step_t rfl (step_f hb0 ?_))
 refine step_b a0 (step_t rfl (step_f ha0 ?_))
 exact step_b a0 (step_t rfl (step_b b0 (step_t rfl (step_t hn2 rfl))))
theorem u68_eq (w : Wok G f m N next es) {a b ra rb s : Nat} {na nb : Nd} {S : List (Nat × Nat)} (ha : Find N es a ra) (hb : Find N es b rb) (hs : nth G s = some (.map (pairM S))) (hS : (ra, rb) ∉ S) (hne : ra ≠ rb)
  (hna : N ra = some na) (hnb : N rb = some nb) (ha0 : (na.name == []) = false) (hb0 : (nb.name == []) = false) (hd : (na.name == nb.name) = true) {c : Nat} {v : Bool} {G1 : World'}
  (h : ∀ n, c ≤ n → L68_0 n n f ra rb s (na.kids.length : Nat) 0 G = some (.bool v, G1)) : ∃ c, EvW E c 68 [.wp f 0, .wp a 0, .wp b 0, .wm s] G (.bool v) G1 := by
 obtain ⟨ca, ea⟩ := s47 w ha
 obtain ⟨cb, eb⟩ := s47 w hb
 obtain ⟨a0, a1, a2⟩ := w.cell hna
 obtain ⟨b0, b1, _⟩ := w.cell hnb
 have hn1 : (!(na.name == [])) = true := by rw [ha0]; rfl
 have hn2 : (!(na.name == nb.name)) = false := by rw [hd]; rfl
 refine ⟨ca + cb + c + 1, EvW.mk fun n hn => ?_⟩
 rw [w68]
 refine step_b (ea n (by omega)) (step_t rfl (step_b (eb n (by omega)) (step_t rfl (step_f ?_ (step_b ((wlook_pair hs).1 hS) (step_t rfl (step_f rfl ?_)))))))
 ·show (Nat.beq ra rb && true) = false
  rw [beqN, decide_eq_false hne]; rfl
 refine step_b a0 (step_t rfl (step_t hn1 ?_))
 refine step_b b0 (step_t rfl (step_f hb0 ?_))
 refine step_b a0 (step_t rfl (step_f ha0 ?_))
 refine step_b a0 (step_t rfl (step_b b0 (step_t rfl (step_f hn2 ?_))))
 exact step_b a2 (step_t rfl (h n (by omega)))
end
end Go.Proofs.Cw.Si
end

/-
  THE INFERER'S WORLD 5: unify.
-/
section
namespace Go.Proofs.Cw.Si
open Go.Proofs
def Eqv (N : NT) (θ : Nat → FT) (a b : Nat) : Prop := ∃ v, Val N θ a v ∧ Val N θ b v
structure Uout (G G' : World') (f m s : Nat) (N : NT) (next : Nat) (es es' : Bd) (S' : List (Nat × Nat)) : Prop where
 w : Wok G' f m N next es'
 hs : nth G' s = some (.map (pairM S'))
 fr : es' = es ∨ freeN es' next < freeN es next
 low : ∀ θ, Sol N es' θ → Sol N es θ
 frame : ∀ i, i < G.length → i ≠ m → i ≠ s → nth G' i = nth G i
 len : G.length ≤ G'.length
theorem length_set {α : Type} (G : List α) (i : Nat) (x : α) : (setN G i x).length = G.length := by rw [setN_eq, List.length_set]
theorem nth_app_lt {α : Type} {G : List α} {i : Nat} (l : List α) (h : i < G.length) : nth (G ++ l) i = nth G i := by
 rw [nth_eq, nth_eq, List.getElem?_append_left h]
section
variable {f m : Nat} {N : NT} {next : Nat}
theorem bindU {G : World'} {es : Bd} {s u v k : Nat} {σ : FT} {nd : Nd} {S : List (Nat × Nat)} (w : Wok G f m N next es) (fm : f ≠ m) (hs : nth G s = some (.map (pairM S))) (s2 : s ≠ m)
  (hu : N u = some (.unk k)) (hk : look es k = none) (hv : Res N es v σ) (hn : N v = some nd) (hne : σ ≠ .var k) :
  ∃ c b G1 G2, EvW E c 81 [.wp f 0, I (k : Nat), .wp v 0, .wm G.length] (G ++ [.map []]) (.bool b) G1 ∧
   (b = false → wcell G1 f 1 = some (.wm m) ∧ wcell G1 u 1 = some (I (k : Nat)) ∧ wput .int G1 m (I (k : Nat)) (.wp v 0) = some G2) ∧
   (b = true → ∀ θ, Sol N es θ → ¬ Eqv N θ u v) ∧
   (b = false → Uout G G2 f m s N next es (es ++ [(k, v)]) S ∧ ∀ θ, Sol N (es ++ [(k, v)]) θ ↔ Sol N es θ ∧ Eqv N θ u v) := by
 obtain ⟨n1, n2, n3⟩ := w.new
 have w1 := w.app [.map []]
 have hnew : nth (G ++ [WObj.map []]) G.length = some (.map (seenM [])) := nth_app_new G _
 obtain ⟨c, b, S1, e, ht, hf⟩ := s81 k n2 n3 n1 σ.size w1 hv (Nat.le_refl _) hnew (fun x hx => by simp at hx)
 have w2 : Wok (setN (G ++ [.map []]) G.length (.map (seenM S1))) f m N next es := w1.set _ n2 n3 n1
 have eqv : ∀ θ, Eqv N θ u v ↔ Val N θ v (θ k) := by
  intro θ
  constructor
  ·intro ⟨x, h1, h2⟩
   rw [(Val.unk (θ := θ) hu).det h1]; exact h2
  ·intro h; exact ⟨_, .unk hu, h⟩
 refine ⟨c, b, _, setN (setN (G ++ [.map []]) G.length (.map (seenM S1))) m (.map (bdM (es ++ [(k, v)]))), e, fun _ => ⟨w2.fcell.2, (w2.cell hu).2.1, wput_to w2 hk⟩, fun hb θ sol he => ?_, fun hb => ?_⟩
 ·exact occurs_no sol hv (ht hb) hne ((eqv θ).1 he)
 ·have hlt := nth_lt hs
  refine ⟨⟨w2.bind hu hk hv hn (hf hb).1 fm, ?_, .inr ((freeN_bind hk next).2 (w.le u k hu)), fun θ h => ((Sol.bind hk).1 h).1, fun i hi h1 h2 => ?_, ?_⟩, fun θ => ?_⟩
  ·rw [nth_set_ne _ _ s2.symm, nth_set_ne _ _ (by omega), nth_app_lt _ hlt]; exact hs
  ·rw [nth_set_ne _ _ fun e => h1 e.symm, nth_set_ne _ _ (by omega), nth_app_lt _ hi]
  ·rw [length_set, length_set]; simp
  ·rw [Sol.bind hk, eqv θ]
theorem r68 {G : World'} {ra rb s c x y : Nat} {la lb : List Tree} {v : Bool} {G1 : World'} (n q i : Nat) (ha : wcell G ra 2 = some (.slc la)) (hb : wcell G rb 2 = some (.slc lb)) (hx : nth la i = some (.wp x 0)) (hy : nth lb i = some (.wp y 0))
  (hi : i < la.length) (hl : la.length ≤ 1000) (h : EvW E c 68 [.wp f 0, .wp x 0, .wp y 0, .wm s] G (.bool v) G1) (hn : c ≤ n) :
  L68_0 n (Nat.succ q) f ra rb s (la.length : Nat) (i : Nat) G = bif v then L68_0 n q f ra rb s (la.length : Nat) ((i + 1 : Nat) : Int) G1 else some (.bool false, G1) := by
 rw [v68_0]
 refine step_t (by simp; omega) (step_b ha (step_t rfl (step_t (by simp) (step_b (y := .wp x 0) ?_ ?_))))
 ·rw [Int.toNat_natCast]; exact hx
 refine step_t rfl (step_b hb (step_t rfl (step_t (by simp) (step_b (y := .wp y 0) ?_ ?_))))
 ·rw [Int.toNat_natCast]; exact hy
 refine step_t rfl (step_b (h n hn) (step_t rfl ?_))
 rw [w64 (by omega)]
 cases v <;> rfl
theorem e68 {G : World'} (ra rb : Nat) {s : Nat} (l : Nat) {S : List (Nat × Nat)} (hs : nth G s = some (.map (pairM S))) : ∃ S', (∀ n q, L68_0 n (Nat.succ q) f ra rb s (l : Nat) (l : Nat) G = some (.bool true, setN G s (.map (pairM S')))) ∧ ∀ p, p ∈ S' → p ∈ S ∨ p = (ra, rb) := by
 obtain ⟨S', h1, h2⟩ := wput_pair (a := ra) (b := rb) hs
 refine ⟨S', fun n q => ?_, h2⟩
 rw [v68_0]
 exact step_f (by simp) (step_b h1 rfl)
theorem Val.nat_inv {θ : Nat → FT} {i : Nat} {x : FT} (h : N i = some .nat) (k : Val N θ i x) : x = .nat := ((Val.nat h).det k).symm
theorem Val.bin_inv {θ : Nat → FT} {i : Nat} {p : Bool} {a b : Nat} {x : FT} (h : N i = some (.bin p a b)) (k : Val N θ i x) : ∃ y z, x = .bin p y z ∧ Val N θ a y ∧ Val N θ b z := by
 cases k with
 | unk h' => rw [h] at h'; cases h'
 | nat h' => rw [h] at h'; cases h'
 | bin h' k1 k2 => rw [h] at h'; cases h'; exact ⟨_, _, rfl, k1, k2⟩
theorem Uout.put {G G' : World'} {s : Nat} {es es' : Bd} {S' : List (Nat × Nat)} (o : Uout G G' f m s N next es es' S') (s1 : s ≠ f) (s2 : s ≠ m) (s3 : N s = none) (S2 : List (Nat × Nat)) : Uout G (setN G' s (.map (pairM S2))) f m s N next es es' S2 :=
 ⟨o.w.set _ s1 s2 s3, nth_set_same _ o.hs, o.fr, o.low, fun i hi h1 h2 => by rw [nth_set_ne _ _ fun e => h2 e.symm]; exact o.frame i hi h1 h2, by rw [length_set]; exact o.len⟩
theorem Uout.trans {G G1 G2 : World'} {s : Nat} {es es1 es2 : Bd} {S1 S2 : List (Nat × Nat)} (o : Uout G G1 f m s N next es es1 S1) (p : Uout G1 G2 f m s N next es1 es2 S2) : Uout G G2 f m s N next es es2 S2 :=
 ⟨p.w, p.hs, by
  rcases p.fr with e | h
  ·rw [e]; exact o.fr
  ·rcases o.fr with e | h'
   ·rw [e] at h; exact .inr h
   ·exact .inr (by omega), fun θ h => o.low θ (p.low θ h), fun i hi h1 h2 => by rw [p.frame i (by have := o.len; omega) h1 h2, o.frame i hi h1 h2], by have := o.len; have := p.len; omega⟩
theorem z0' : ((0 : Nat) : Int) = 0 := rfl
theorem l68_ff {G : World'} {ra rb s ca x y x2 y2 : Nat} {G1 : World'} (ha : wcell G ra 2 = some (.slc [.wp x 0, .wp x2 0])) (hb : wcell G rb 2 = some (.slc [.wp y 0, .wp y2 0])) (h : EvW E ca 68 [.wp f 0, .wp x 0, .wp y 0, .wm s] G (.bool false) G1) :
  ∀ n, ca + 1 ≤ n → L68_0 n n f ra rb s (([Tree.wp x 0, Tree.wp x2 0].length : Nat) : Int) 0 G = some (.bool false, G1) := by
 intro n hn
 obtain ⟨q, hq⟩ : ∃ q, n = Nat.succ q := ⟨n - 1, by omega⟩
 have e1 := r68 n q 0 ha hb rfl rfl (by simp) (by simp) h (by omega)
 rw [cond_false, z0', ← hq] at e1
 exact e1
theorem l68_t {G : World'} {ra rb s ca cb x y x2 y2 : Nat} {v : Bool} {G1 G2 : World'} (ha : wcell G ra 2 = some (.slc [.wp x 0, .wp x2 0])) (hb : wcell G rb 2 = some (.slc [.wp y 0, .wp y2 0])) (h : EvW E ca 68 [.wp f 0, .wp x 0, .wp y 0, .wm s] G (.bool true) G1)
  (ha1 : wcell G1 ra 2 = some (.slc [.wp x 0, .wp x2 0])) (hb1 : wcell G1 rb 2 = some (.slc [.wp y 0, .wp y2 0])) (h2 : EvW E cb 68 [.wp f 0, .wp x2 0, .wp y2 0, .wm s] G1 (.bool v) G2) {S : List (Nat × Nat)} {R : Tree × World'}
  (hv : v = false → R = (.bool false, G2)) (hv2 : v = true → ∀ n q, L68_0 n (Nat.succ q) f ra rb s ((2 : Nat) : Int) ((2 : Nat) : Int) G2 = some R) :
  ∀ n, ca + cb + 3 ≤ n → L68_0 n n f ra rb s (([Tree.wp x 0, Tree.wp x2 0].length : Nat) : Int) 0 G = some R := by
 intro n hn
 obtain ⟨q, hq⟩ : ∃ q, n = Nat.succ (Nat.succ (Nat.succ q)) := ⟨n - 3, by omega⟩
 have e1 := r68 n (Nat.succ (Nat.succ q)) 0 ha hb rfl rfl (by simp) (by simp) h (by omega)
 have e2 := r68 n (Nat.succ q) 1 ha1 hb1 rfl rfl (by simp) (by simp) h2 (by omega)
 rw [cond_true, z0', ← hq] at e1
 rw [e1, e2]
 cases v with
 | false => rw [cond_false, hv rfl]
 | true => rw [cond_true]; exact hv2 rfl n q
theorem s68 (fm : f ≠ m) {s : Nat} (s1 : s ≠ f) (s2 : s ≠ m) (s3 : N s = none) (u sz : Nat) {G : World'} {es : Bd} {a b : Nat} {τ : FT} {S : List (Nat × Nat)} (w : Wok G f m N next es) (hr : Res N es a τ) (hb : ∃ nd, N b = some nd)
  (hz : τ.size ≤ sz) (hfree : freeN es next ≤ u) (hs : nth G s = some (.map (pairM S))) (hS : ∀ p, p ∈ S → ∀ θ, Sol N es θ → Eqv N θ p.1 p.2) :
  ∃ c v G', EvW E c 68 [.wp f 0, .wp a 0, .wp b 0, .wm s] G (.bool v) G' ∧ ((v = false ∧ ∀ θ, Sol N es θ → ¬ Eqv N θ a b) ∨
   (v = true ∧ ∃ es' S', Uout G G' f m s N next es es' S' ∧ (∀ θ, Sol N es' θ ↔ Sol N es θ ∧ Eqv N θ a b) ∧ ∀ p, p ∈ S' → ∀ θ, Sol N es' θ → Eqv N θ p.1 p.2)) := by
 obtain ⟨nb, hnb⟩ := hb
 obtain ⟨σ, hrb⟩ := w.tot b nb hnb
 obtain ⟨ra, fa, hra, ca⟩ := hr.find
 obtain ⟨rb, fb, hrb, cb⟩ := hrb.find
 have eqv : ∀ θ, Sol N es θ → (Eqv N θ a b ↔ Eqv N θ ra rb) := by
  intro θ sol
  constructor
  ·intro ⟨v, h1, h2⟩; exact ⟨v, (Val.find sol fa).1 h1, (Val.find sol fb).1 h2⟩
  ·intro ⟨v, h1, h2⟩; exact ⟨v, (Val.find sol fa).2 h1, (Val.find sol fb).2 h2⟩
 have same : (∀ θ, Sol N es θ → Eqv N θ ra rb) → ∃ es' S', Uout G G f m s N next es es' S' ∧ (∀ θ, Sol N es' θ ↔ Sol N es θ ∧ Eqv N θ a b) ∧ ∀ p, p ∈ S' → ∀ θ, Sol N es' θ → Eqv N θ p.1 p.2 := fun h =>
  ⟨es, S, ⟨w, hs, .inl rfl, fun _ h => h, fun _ _ _ _ => rfl, Nat.le_refl _⟩, fun θ => ⟨fun sol => ⟨sol, (eqv θ sol).2 (h θ sol)⟩, fun h => h.1⟩, hS⟩
 by_cases hab : ra = rb
 ·subst hab
  obtain ⟨c, e⟩ := u68_same (s := s) w fa fb
  exact ⟨c, true, G, e, .inr ⟨rfl, same fun θ sol => ⟨_, hra.val sol, hra.val sol⟩⟩⟩
 by_cases hmem : (ra, rb) ∈ S
 ·obtain ⟨c, e⟩ := u68_seen w fa fb hs hmem hab
  exact ⟨c, true, G, e, .inr ⟨rfl, same fun θ sol => hS _ hmem θ sol⟩⟩
 have swap : ∀ θ, Eqv N θ rb ra ↔ Eqv N θ ra rb := fun θ => ⟨fun ⟨v, x, y⟩ => ⟨v, y, x⟩, fun ⟨v, x, y⟩ => ⟨v, y, x⟩⟩
 -- an unknown on one side
 have un : ∀ {c : Nat} {v : Bool} {G1 G2 : World'} {es' : Bd}, EvW E c 68 [.wp f 0, .wp a 0, .wp b 0, .wm s] G (.bool (!v)) (bif v then G1 else G2) → (v = true → ∀ θ, Sol N es θ → ¬ Eqv N θ ra rb) →
   (v = false → Uout G G2 f m s N next es es' S ∧ ∀ θ, Sol N es' θ ↔ Sol N es θ ∧ Eqv N θ ra rb) → ∃ c v G', EvW E c 68 [.wp f 0, .wp a 0, .wp b 0, .wm s] G (.bool v) G' ∧ ((v = false ∧ ∀ θ, Sol N es θ → ¬ Eqv N θ a b) ∨
   (v = true ∧ ∃ es' S', Uout G G' f m s N next es es' S' ∧ (∀ θ, Sol N es' θ ↔ Sol N es θ ∧ Eqv N θ a b) ∧ ∀ p, p ∈ S' → ∀ θ, Sol N es' θ → Eqv N θ p.1 p.2)) := by
  intro c v G1 G2 es' e h1 h2
  cases v with
  | true => exact ⟨c, false, G1, e, .inl ⟨rfl, fun θ sol he => h1 rfl θ sol ((eqv θ sol).1 he)⟩⟩
  | false =>
   obtain ⟨o, hi⟩ := h2 rfl
   refine ⟨c, true, G2, e, .inr ⟨rfl, es', S, o, fun θ => ?_, fun p hp θ sol => hS p hp θ (o.low θ sol)⟩⟩
   rw [hi θ]
   exact ⟨fun ⟨x, y⟩ => ⟨x, (eqv θ x).2 y⟩, fun ⟨x, y⟩ => ⟨x, (eqv θ x).1 y⟩⟩
 rcases ca with ⟨k, na, la, rfl⟩ | ca
 ·rcases cb with ⟨j, nb', lb, rfl⟩ | cb
  ·by_cases hkj : k = j
   ·subst hkj
    obtain ⟨c, e⟩ := u68_u1 w fa fb hs hmem hab na nb'
    exact ⟨c, true, G, e, .inr ⟨rfl, same fun θ sol => ⟨_, .unk na, .unk nb'⟩⟩⟩
   ·obtain ⟨c, v, G1, G2, h, k1, k2, k3⟩ := bindU w fm hs s2 na la hrb nb' (fun e => hkj (by cases e; rfl))
    obtain ⟨c', e⟩ := u68_uu w fa fb hs hmem hab na nb' hkj h k1
    exact un e k2 k3
  ·obtain ⟨nd, hnd, h0, hσ⟩ : ∃ nd, N rb = some nd ∧ (nd.name == []) = false ∧ σ ≠ .var k := by
    rcases cb with ⟨h, rfl⟩ | ⟨p, x, y, _, _, h, _, _, rfl⟩
    ·exact ⟨_, h, rfl, fun c => by cases c⟩
    ·exact ⟨_, h, by cases p <;> rfl, fun c => by cases c⟩
   obtain ⟨c, v, G1, G2, h, k1, k2, k3⟩ := bindU w fm hs s2 na la hrb hnd hσ
   obtain ⟨c', e⟩ := u68_un w fa fb hs hmem hab na hnd h0 h k1
   exact un e k2 k3
 ·obtain ⟨nda, hnda, h0a, hτ⟩ : ∃ nd, N ra = some nd ∧ (nd.name == []) = false ∧ ∀ k, τ ≠ .var k := by
   rcases ca with ⟨h, rfl⟩ | ⟨p, x, y, _, _, h, _, _, rfl⟩
   ·exact ⟨_, h, rfl, fun _ c => by cases c⟩
   ·exact ⟨_, h, by cases p <;> rfl, fun _ c => by cases c⟩
  rcases cb with ⟨j, nb', lb, rfl⟩ | cb
  ·obtain ⟨c, v, G1, G2, h, k1, k2, k3⟩ := bindU w fm hs s2 nb' lb hra hnda (hτ j)
   obtain ⟨c', e⟩ := u68_nu w fa fb hs hmem hab hnda h0a nb' h k1
   exact un e (fun hv θ sol he => k2 hv θ sol ((swap θ).2 he)) fun hv => ⟨(k3 hv).1, fun θ => by rw [(k3 hv).2 θ, swap θ]⟩
  ·rcases ca with ⟨na, rfl⟩ | ⟨p, a1, a2, y1, y2, na, r1, r2, rfl⟩
   ·rcases cb with ⟨nb', rfl⟩ | ⟨q, b1, b2, z1, z2, nb', _, _, rfl⟩
    ·obtain ⟨S', e, hS'⟩ := e68 (f := f) ra rb 0 hs
     obtain ⟨c, e⟩ := u68_eq w fa fb hs hmem hab na nb' rfl rfl rfl (c := 1) (v := true) (G1 := setN G s (.map (pairM S'))) (fun n hn => by
      obtain ⟨q, hq⟩ : ∃ q, n = Nat.succ q := ⟨n - 1, by omega⟩
      have e := e n q
      rw [z0', ← hq] at e
      exact e)
     obtain ⟨es', S0, o, i1, i2⟩ := same fun θ sol => ⟨.nat, .nat na, .nat nb'⟩
     refine ⟨c, true, _, e, .inr ⟨rfl, es, S', ⟨w.set _ s1 s2 s3, nth_set_same _ hs, .inl rfl, fun _ h => h, fun i _ _ h2 => by rw [nth_set_ne _ _ fun e => h2 e.symm], by rw [length_set]; exact Nat.le_refl _⟩, fun θ => ⟨fun sol => ⟨sol, (eqv θ sol).2 ⟨.nat, .nat na, .nat nb'⟩⟩, fun h => h.1⟩, fun p hp θ sol => ?_⟩⟩
     rcases hS' p hp with hp | rfl
     ·exact hS p hp θ sol
     ·exact ⟨.nat, .nat na, .nat nb'⟩
    ·obtain ⟨c, e⟩ := u68_ne w fa fb hs hmem hab na nb' rfl (by cases q <;> rfl) (by cases q <;> rfl)
     refine ⟨c, false, G, e, .inl ⟨rfl, fun θ sol he => ?_⟩⟩
     obtain ⟨v, h1, h2⟩ := (eqv θ sol).1 he
     rw [Val.nat_inv na h1] at h2
     obtain ⟨_, _, e, _⟩ := Val.bin_inv nb' h2
     cases e
   ·rcases cb with ⟨nb', rfl⟩ | ⟨q, b1, b2, z1, z2, nb', _, _, rfl⟩
    ·obtain ⟨c, e⟩ := u68_ne w fa fb hs hmem hab na nb' (by cases p <;> rfl) rfl (by cases p <;> rfl)
     refine ⟨c, false, G, e, .inl ⟨rfl, fun θ sol he => ?_⟩⟩
     obtain ⟨v, h1, h2⟩ := (eqv θ sol).1 he
     rw [Val.nat_inv nb' h2] at h1
     obtain ⟨_, _, e, _⟩ := Val.bin_inv na h1
     cases e
    ·by_cases hpq : p = q
     ·subst hpq
      obtain ⟨⟨_, ka1⟩, _, ka2⟩ := w.kid _ _ _ _ na
      obtain ⟨⟨_, kb1⟩, _, kb2⟩ := w.kid _ _ _ _ nb'
      have parts : ∀ θ, Eqv N θ ra rb ↔ Eqv N θ a1 b1 ∧ Eqv N θ a2 b2 := by
       intro θ
       constructor
       ·intro ⟨v, h1, h2⟩
        obtain ⟨x1, x2, rfl, u1, u2⟩ := Val.bin_inv na h1
        obtain ⟨w1, w2, e, v1, v2⟩ := Val.bin_inv nb' h2
        cases e
        exact ⟨⟨x1, u1, v1⟩, x2, u2, v2⟩
       ·intro ⟨⟨v, h1, h2⟩, v', h3, h4⟩
        exact ⟨_, .bin na h1 h3, .bin nb' h2 h4⟩
      simp only [FT.size] at hz
      have p1 := y1.size_pos
      have p2 := y2.size_pos
      have hdec : sz - 1 < sz := by omega
      obtain ⟨_, _, da⟩ := w.cell na
      obtain ⟨_, _, db⟩ := w.cell nb'
      have hname : ((Nd.bin p a1 a2).name == (Nd.bin p b1 b2).name) = true := by cases p <;> rfl
      have hn0 : ((Nd.bin p a1 a2).name == []) = false := by cases p <;> rfl
      have hn1 : ((Nd.bin p b1 b2).name == []) = false := by cases p <;> rfl
      obtain ⟨c1, v1, G1, e1, ⟨rfl, no⟩ | ⟨rfl, es1, S1, o1, i1, j1⟩⟩ := s68 fm s1 s2 s3 u (sz - 1) w r1 ⟨_, kb1⟩ (by omega) hfree hs hS
      ·obtain ⟨c, e⟩ := u68_eq w fa fb hs hmem hab na nb' hn0 hn1 hname (c := c1 + 1) (v := false) (G1 := G1) (l68_ff da db e1)
       exact ⟨c, false, G1, e, .inl ⟨rfl, fun θ sol he => no θ sol ((parts θ).1 ((eqv θ sol).1 he)).1⟩⟩
      ·obtain ⟨_, _, da1⟩ := o1.w.cell na
       obtain ⟨_, _, db1⟩ := o1.w.cell nb'
       obtain ⟨τ2, hτ2⟩ := o1.w.tot a2 _ ka2
       have second : ∃ c v G', EvW E c 68 [.wp f 0, .wp a2 0, .wp b2 0, .wm s] G1 (.bool v) G' ∧ ((v = false ∧ ∀ θ, Sol N es1 θ → ¬ Eqv N θ a2 b2) ∨
         (v = true ∧ ∃ es' S', Uout G1 G' f m s N next es1 es' S' ∧ (∀ θ, Sol N es' θ ↔ Sol N es1 θ ∧ Eqv N θ a2 b2) ∧ ∀ p, p ∈ S' → ∀ θ, Sol N es' θ → Eqv N θ p.1 p.2)) := by
        rcases o1.fr with e | hlt
        ·have hsz : τ2.size ≤ sz - 1 := by
          rw [e] at hτ2
          rw [← r2.det hτ2]; omega
         exact s68 fm s1 s2 s3 u (sz - 1) o1.w hτ2 ⟨_, kb2⟩ hsz (by rw [e]; exact hfree) o1.hs j1
        ·exact s68 fm s1 s2 s3 (u - 1) τ2.size o1.w hτ2 ⟨_, kb2⟩ (Nat.le_refl _) (by omega) o1.hs j1
       obtain ⟨c2, v2, G2, e2, ⟨rfl, no⟩ | ⟨rfl, es2, S2, o2, i2, j2⟩⟩ := second
       ·obtain ⟨c, e⟩ := u68_eq w fa fb hs hmem hab na nb' hn0 hn1 hname (c := c1 + c2 + 3) (v := false) (G1 := G2) (l68_t (S := []) da db e1 da1 db1 e2 (fun _ => rfl) fun h => by cases h)
        refine ⟨c, false, G2, e, .inl ⟨rfl, fun θ sol he => ?_⟩⟩
        obtain ⟨h1, h2⟩ := (parts θ).1 ((eqv θ sol).1 he)
        exact no θ ((i1 θ).2 ⟨sol, h1⟩) h2
       ·obtain ⟨S3, e3, hS3⟩ := e68 (f := f) ra rb 2 o2.hs
        obtain ⟨c, e⟩ := u68_eq w fa fb hs hmem hab na nb' hn0 hn1 hname (c := c1 + c2 + 3) (v := true) (G1 := setN G2 s (.map (pairM S3))) (l68_t (S := []) da db e1 da1 db1 e2 (fun h => by cases h) fun _ => e3)
        have iff : ∀ θ, Sol N es2 θ ↔ Sol N es θ ∧ Eqv N θ ra rb := by
         intro θ
         rw [i2 θ, i1 θ, parts θ, and_assoc]
        refine ⟨c, true, _, e, .inr ⟨rfl, es2, S3, (o1.trans o2).put s1 s2 s3 S3, fun θ => ?_, fun p hp θ sol => ?_⟩⟩
        ·rw [iff θ]
         exact ⟨fun ⟨x, y⟩ => ⟨x, (eqv θ x).2 y⟩, fun ⟨x, y⟩ => ⟨x, (eqv θ x).1 y⟩⟩
        ·rcases hS3 p hp with hp | rfl
         ·exact j2 p hp θ sol
         ·exact ((iff θ).1 sol).2
     ·obtain ⟨c, e⟩ := u68_ne w fa fb hs hmem hab na nb' (by cases p <;> rfl) (by cases q <;> rfl) (by cases p <;> cases q <;> first | rfl | exact absurd rfl hpq)
      refine ⟨c, false, G, e, .inl ⟨rfl, fun θ sol he => ?_⟩⟩
      obtain ⟨v, h1, h2⟩ := (eqv θ sol).1 he
      obtain ⟨_, _, rfl, _⟩ := Val.bin_inv na h1
      obtain ⟨_, _, e, _⟩ := Val.bin_inv nb' h2
      cases e
      exact hpq rfl
termination_by (u, sz)
decreasing_by
 all_goals simp_wf
 ·exact Prod.Lex.right _ hdec
 ·exact Prod.Lex.right _ hdec
 ·exact Prod.Lex.left _ _ (by omega)
end
end Go.Proofs.Cw.Si
end

/-
  THE INFERER'S WORLD 6: new types: fresh, pair; same.
-/
section
namespace Go.Proofs.Cw.Si
open Go.Proofs
def NT.Le (N N' : NT) : Prop := ∀ i nd, N i = some nd → N' i = some nd
def NT.add (N : NT) (i : Nat) (nd : Nd) : NT := fun j => if j = i then some nd else N j
theorem NT.add_self (N : NT) (i : Nat) (nd : Nd) : N.add i nd i = some nd := by simp [NT.add]
theorem NT.le_add {N : NT} {i : Nat} {nd : Nd} (h : N i = none) : N.Le (N.add i nd) := fun j x hj => by
 unfold NT.add
 rw [if_neg fun e => by rw [e, h] at hj; cases hj]
 exact hj
theorem NT.Le.trans {N N' N'' : NT} (h : N.Le N') (k : N'.Le N'') : N.Le N'' := fun i nd hi => k i nd (h i nd hi)
theorem Val.le {N N' : NT} (h : N.Le N') {θ : Nat → FT} {i : Nat} {x : FT} (k : Val N θ i x) : Val N' θ i x := by
 induction k with
 | unk hi => exact .unk (h _ _ hi)
 | nat hi => exact .nat (h _ _ hi)
 | bin hi _ _ ia ib => exact .bin (h _ _ hi) ia ib
theorem Res.le {N N' : NT} (h : N.Le N') {es : Bd} {i : Nat} {x : FT} (k : Res N es i x) : Res N' es i x := by
 induction k with
 | free hi l => exact .free (h _ _ hi) l
 | link hi l _ ih => exact .link (h _ _ hi) l ih
 | nat hi => exact .nat (h _ _ hi)
 | bin hi _ _ ia ib => exact .bin (h _ _ hi) ia ib
theorem Val.agree {N : NT} {θ η : Nat → FT} {next : Nat} (hN : ∀ i k, N i = some (.unk k) → k ≤ next) (ha : ∀ k, k ≤ next → η k = θ k) {i : Nat} {x : FT} (k : Val N θ i x) : Val N η i x := by
 induction k with
 | unk hi => rw [← ha _ (hN _ _ hi)]; exact .unk hi
 | nat hi => exact .nat hi
 | bin hi _ _ ia ib => exact .bin hi ia ib
theorem Val.down {N N' : NT} (h : N.Le N') (hk : ∀ i p a b, N i = some (.bin p a b) → (∃ x, N a = some x) ∧ ∃ y, N b = some y) {θ : Nat → FT} {i : Nat} {x : FT} (k : Val N' θ i x) : ∀ {nd : Nd}, N i = some nd → Val N θ i x := by
 induction k with
 | unk hi => intro nd hn; rw [h _ _ hn] at hi; cases hi; exact .unk hn
 | nat hi => intro nd hn; rw [h _ _ hn] at hi; cases hi; exact .nat hn
 | bin hi _ _ ia ib =>
  intro nd hn
  rw [h _ _ hn] at hi; cases hi
  obtain ⟨⟨_, h1⟩, _, h2⟩ := hk _ _ _ _ hn
  exact .bin hn (ia h1) (ib h2)
section
variable {G : World'} {f m : Nat} {N : NT} {next : Nat} {es : Bd}
theorem Wok.key (w : Wok G f m N next es) {k j : Nat} (h : look es k = some j) : k ≤ next := by
 obtain ⟨i, hi⟩ := w.src k j h
 exact w.le i k hi
theorem Wok.add (w : Wok G f m N next es) {nd : Nd} (hu : ∀ k, nd = .unk k → k ≤ next ∧ look es k = none) (hk : ∀ p a b, nd = .bin p a b → (∃ x, N a = some x) ∧ ∃ y, N b = some y) :
  Wok (G ++ [nd.obj]) f m (N.add G.length nd) next es := by
 have le := NT.le_add (nd := nd) w.new.1
 have ex : ∀ {i : Nat}, (∃ x, N i = some x) → ∃ x, N.add G.length nd i = some x := fun ⟨x, h⟩ => ⟨x, le _ _ h⟩
 refine ⟨nth_app_left _ w.hf, nth_app_left _ w.hm, fun i x h => ?_, fun i k h => ?_, fun i x h => ?_, fun k j h => ex (w.tg k j h), fun k j h => ?_, fun i p a b h => ?_, w.nx⟩
 ·unfold NT.add at h
  by_cases e : i = G.length
  ·rw [if_pos e] at h; cases h; rw [e]; exact nth_app_new G _
  ·rw [if_neg e] at h; exact nth_app_left _ (w.hN i x h)
 ·unfold NT.add at h
  by_cases e : i = G.length
  ·rw [if_pos e] at h; cases h; exact (hu k rfl).1
  ·rw [if_neg e] at h; exact w.le i k h
 ·by_cases e : i = G.length
  ·subst e
   cases nd with
   | unk k => exact ⟨_, .free (N.add_self _ _) (hu k rfl).2⟩
   | nat => exact ⟨_, .nat (N.add_self _ _)⟩
   | bin p a b =>
    obtain ⟨⟨x1, h1⟩, x2, h2⟩ := hk p a b rfl
    obtain ⟨y1, r1⟩ := w.tot a x1 h1
    obtain ⟨y2, r2⟩ := w.tot b x2 h2
    exact ⟨_, .bin (N.add_self _ _) (r1.le le) (r2.le le)⟩
  ·unfold NT.add at h
   rw [if_neg e] at h
   obtain ⟨y, hy⟩ := w.tot i x h
   exact ⟨y, hy.le le⟩
 ·obtain ⟨i, hi⟩ := w.src k j h
  exact ⟨i, le _ _ hi⟩
 ·by_cases e : i = G.length
  ·subst e
   rw [NT.add_self] at h
   cases h
   obtain ⟨h1, h2⟩ := hk p a b rfl
   exact ⟨ex h1, ex h2⟩
  ·unfold NT.add at h
   rw [if_neg e] at h
   obtain ⟨h1, h2⟩ := w.kid i p a b h
   exact ⟨ex h1, ex h2⟩
theorem Wok.count (w : Wok G f m N next es) (fm : f ≠ m) (hn : next + 1 ≤ 1000000) : Wok (setN G f (.cells [I ((next + 1 : Nat) : Int), .wm m])) f m N (next + 1) es where
 hf := nth_set_same _ w.hf
 hm := by rw [nth_set_ne _ _ fm]; exact w.hm
 hN i nd h := by
  by_cases e : f = i
  ·subst e
   have := w.hN _ nd h
   rw [w.hf] at this
   cases nd <;> (simp only [Nd.obj] at this; cases this)
  ·rw [nth_set_ne _ _ e]; exact w.hN i nd h
 le i k h := by have := w.le i k h; omega
 tot := w.tot
 tg := w.tg
 src := w.src
 kid := w.kid
 nx := hn
def freshW (G : World') (f m next : Nat) : World' := setN G f (.cells [I ((next + 1 : Nat) : Int), .wm m]) ++ [(Nd.unk (next + 1)).obj]
theorem s44 (w : Wok G f m N next es) (hn : next + 1 ≤ 1000000) : EvW E 1 44 [.wp f 0] G (.wp G.length 0) (freshW G f m next) := EvW.mk fun n _ => by
 have h1 : wset G f 0 [I ((next + 1 : Nat) : Int)] = some (setN G f (.cells [I ((next + 1 : Nat) : Int), .wm m])) := by
  unfold wset; simp only [w.hf]; rfl
 have h2 : wcell (setN G f (.cells [I ((next + 1 : Nat) : Int), .wm m])) f 0 = some (I ((next + 1 : Nat) : Int)) := wcell_of (nth_set_same _ w.hf) 0
 rw [w44]
 refine step_b w.fcell.1 (step_t rfl ?_)
 have e : IntKind.wrap .i64 (Tree.toInt (I (next : Nat)) + 1) = ((next + 1 : Nat) : Int) := by
  show IntKind.wrap .i64 (((next : Nat) : Int) + 1) = _
  rw [w64 (by omega)]; omega
 rw [e]
 refine step_b h1 (step_b h2 (step_t rfl ?_))
 rw [length_set]
 rfl
theorem Wok.fresh (w : Wok G f m N next es) (fm : f ≠ m) (hn : next + 1 ≤ 1000000) : Wok (freshW G f m next) f m (N.add G.length (.unk (next + 1))) (next + 1) es := by
 have h := (w.count fm hn).add (nd := .unk (next + 1)) (fun k e => by
  cases e
  refine ⟨Nat.le_refl _, ?_⟩
  cases h : look es (next + 1) with
  | none => rfl
  | some j => have := w.key h; omega) (fun p a b e => by cases e)
 rw [length_set] at h
 exact h
theorem s45 (p : Bool) (a b : Nat) (G : World') : EvW E 1 45 [.str (if p then sTo else sPair), .wp a 0, .wp b 0] G (.wp G.length 0) (G ++ [(Nd.bin p a b).obj]) := EvW.mk fun n _ => by
 rw [w45]
 rfl
theorem s46 (w : Wok G f m N next es) (fm : f ≠ m) {a b : Nat} (ha : ∃ nd, N a = some nd) (hb : ∃ nd, N b = some nd) : ∃ c v G', EvW E c 46 [.wp f 0, .wp a 0, .wp b 0] G (.bool v) G' ∧
  ((v = false ∧ ∀ θ, Sol N es θ → ¬ Eqv N θ a b) ∨ (v = true ∧ ∃ es', Wok G' f m N next es' ∧ G.length ≤ G'.length ∧ ∀ θ, Sol N es' θ ↔ Sol N es θ ∧ Eqv N θ a b)) := by
 obtain ⟨n1, n2, n3⟩ := w.new
 have w1 := w.app [.map []]
 obtain ⟨na, hna⟩ := ha
 obtain ⟨τ, hr⟩ := w.tot a na hna
 obtain ⟨c, v, G', e, h⟩ := s68 fm n2 n3 n1 (freeN es next) τ.size w1 hr hb (Nat.le_refl _) (Nat.le_refl _) (S := []) (nth_app_new G _) (fun p hp => by simp at hp)
 refine ⟨c + 1, v, G', EvW.mk fun n hn => ?_, ?_⟩
 ·rw [w46]
  exact step_b (e n hn) (step_t rfl rfl)
 ·rcases h with ⟨rfl, no⟩ | ⟨rfl, es', S', o, i, _⟩
  ·exact .inl ⟨rfl, no⟩
  ·have := o.len
   exact .inr ⟨rfl, es', o.w, by simp at this; omega, i⟩
end
end Go.Proofs.Cw.Si
end

/-
  EQUATIONS of the reckoned code: printed by program.
-/
section
set_option maxRecDepth 100000
namespace Go.Proofs.Cw.Si
open Go.Proofs

theorem r43r (n : Nat) (l : List Tree) : evR eQ n 43 [AV.t (Tree.slc l)] [] = bif true && (true && (decide ((↑(List.length l) : Int) = (↑(List.length l) : Int)) && decide
 ((↑(List.length l) : Int) ≤ (↑(List.length l) : Int)))) then bif firstOk Sh.any (List.drop 0 (List.take (Int.toNat (↑(List.length l) : Int)) l)) then some (AV.clip
 (List.drop 0 (List.take (Int.toNat (↑(List.length l) : Int)) l)), []) else none else none := by kernel_rfl


end Go.Proofs.Cw.Si
end

/-
  THE INFERER'S WORLD 7: what infer is to do; lists.
-/
section
namespace Go.Proofs.Cw.Si
open Go.Proofs
inductive Vals (N : NT) (θ : Nat → FT) : List Nat → List FT → Prop where
 | nil : Vals N θ [] []
 | cons {i : Nat} {x : FT} {l : List Nat} {r : List FT} : Val N θ i x → Vals N θ l r → Vals N θ (i :: l) (x :: r)
inductive HasL (Γ : List FT) : List Lam → List FT → Prop where
 | nil : HasL Γ [] []
 | cons {t : Lam} {x : FT} {l : List Lam} {r : List FT} : Has Γ t x → HasL Γ l r → HasL Γ (t :: l) (x :: r)
theorem Vals.le {N N' : NT} (h : N.Le N') {θ : Nat → FT} {l : List Nat} {r : List FT} (k : Vals N θ l r) : Vals N' θ l r := by
 induction k with
 | nil => exact .nil
 | cons h1 _ ih => exact .cons (h1.le h) ih
theorem Vals.agree {N : NT} {θ η : Nat → FT} {next : Nat} (hN : ∀ i k, N i = some (.unk k) → k ≤ next) (ha : ∀ k, k ≤ next → η k = θ k) {l : List Nat} {r : List FT} (k : Vals N θ l r) : Vals N η l r := by
 induction k with
 | nil => exact .nil
 | cons h1 _ ih => exact .cons (h1.agree hN ha) ih
theorem Vals.down {N N' : NT} (h : N.Le N') (hk : ∀ i p a b, N i = some (.bin p a b) → (∃ x, N a = some x) ∧ ∃ y, N b = some y) {θ : Nat → FT} {l : List Nat} {r : List FT} (k : Vals N' θ l r) : (∀ i, i ∈ l → ∃ nd, N i = some nd) → Vals N θ l r := by
 induction k with
 | nil => intro _; exact .nil
 | cons h1 _ ih =>
  intro hl
  obtain ⟨nd, hn⟩ := hl _ List.mem_cons_self
  exact .cons (h1.down h hk hn) (ih fun i hi => hl i (List.mem_cons_of_mem _ hi))
theorem Vals.length {N : NT} {θ : Nat → FT} {l : List Nat} {r : List FT} (k : Vals N θ l r) : r.length = l.length := by
 induction k with
 | nil => rfl
 | cons _ _ ih => simp [ih]
theorem Vals.append {N : NT} {θ : Nat → FT} {l : List Nat} {r : List FT} (k : Vals N θ l r) {l' : List Nat} {r' : List FT} (k' : Vals N θ l' r') : Vals N θ (l ++ l') (r ++ r') := by
 induction k with
 | nil => exact k'
 | cons h _ ih => exact .cons h ih
theorem Vals.get {N : NT} {θ : Nat → FT} {l : List Nat} {r : List FT} (k : Vals N θ l r) : ∀ {j i : Nat}, l[j]? = some i → ∃ x, r[j]? = some x ∧ Val N θ i x := by
 induction k with
 | nil => intro j i h; simp at h
 | cons h _ ih =>
  intro j i hj
  cases j with
  | zero => simp at hj; subst hj; exact ⟨_, by simp, h⟩
  | succ j => simp at hj; obtain ⟨x, hx, hv⟩ := ih hj; exact ⟨x, by simpa using hx, hv⟩
def wps (l : List Nat) : List Tree := l.map fun i => .wp i 0
structure Infd (f m : Nat) (N : NT) (next : Nat) (es : Bd) (ctx : List Nat) (l : List Lam) (G : World') (G' : World') (us : List Nat) (N' : NT) (next' : Nat) (es' : Bd) : Prop where
 w : Wok G' f m N' next' es'
 le : N.Le N'
 lo : next ≤ next'
 hi : next' ≤ next + 2 * sizeLs l
 kn : ∀ i, i ∈ us → ∃ nd, N' i = some nd
 sound : ∀ θ, Sol N' es' θ → Sol N es θ ∧ ∀ Γ, Vals N θ ctx Γ → ∃ τs, Vals N' θ us τs ∧ HasL Γ l τs
 full : ∀ θ Γ τs, Sol N es θ → Vals N θ ctx Γ → HasL Γ l τs → ∃ θ', (∀ k, k ≤ next → θ' k = θ k) ∧ Sol N' es' θ' ∧ Vals N' θ' us τs
def Non (N : NT) (es : Bd) (ctx : List Nat) (l : List Lam) : Prop := ∀ θ Γ τs, Sol N es θ → Vals N θ ctx Γ → ¬ HasL Γ l τs
section
variable {f m : Nat} {N : NT} {next : Nat} {es : Bd} {ctx : List Nat} {G : World'}
theorem Infd.refl (w : Wok G f m N next es) : Infd f m N next es ctx [] G G [] N next es :=
 ⟨w, fun _ _ h => h, Nat.le_refl _, by simp [sizeLs], fun i h => by simp at h, fun θ sol => ⟨sol, fun Γ _ => ⟨[], .nil, .nil⟩⟩, fun θ Γ τs sol _ hl => by cases hl; exact ⟨θ, fun _ _ => rfl, sol, .nil⟩⟩
theorem Infd.cons {t : Lam} {l : List Lam} {G1 G2 : World'} {u : Nat} {us : List Nat} {N1 N2 : NT} {next1 next2 : Nat} {es1 es2 : Bd} (w : Wok G f m N next es) (hctx : ∀ i, i ∈ ctx → ∃ nd, N i = some nd) (a : Infd f m N next es ctx [t] G G1 [u] N1 next1 es1) (b : Infd f m N1 next1 es1 ctx l G1 G2 us N2 next2 es2) :
  Infd f m N next es ctx (t :: l) G G2 (u :: us) N2 next2 es2 where
 w := b.w
 le := a.le.trans b.le
 lo := Nat.le_trans a.lo b.lo
 hi := by have h1 := a.hi; have h2 := b.hi; simp only [sizeLs] at h1 h2 ⊢; omega
 kn i hi := by
  rcases List.mem_cons.1 hi with e | e
  ·obtain ⟨nd, hn⟩ := a.kn u (by simp)
   rw [e]; exact ⟨nd, b.le _ _ hn⟩
  ·exact b.kn i e
 sound θ sol := by
  obtain ⟨s1, k1⟩ := b.sound θ sol
  obtain ⟨s0, k0⟩ := a.sound θ s1
  refine ⟨s0, fun Γ hΓ => ?_⟩
  obtain ⟨τs, v1, h1⟩ := k0 Γ hΓ
  obtain ⟨σs, v2, h2⟩ := k1 Γ (hΓ.le a.le)
  cases h1 with
  | cons h1 hn =>
   cases hn
   cases v1 with
   | cons v1 _ => exact ⟨_, .cons (v1.le b.le) v2, .cons h1 h2⟩
 full θ Γ τs sol hΓ hl := by
  cases hl with
  | cons h1 h2 =>
   obtain ⟨θ1, g1, s1, v1⟩ := a.full θ Γ _ sol hΓ (.cons h1 .nil)
   obtain ⟨θ2, g2, s2, v2⟩ := b.full θ1 Γ _ s1 ((hΓ.agree w.le g1).le a.le) h2
   refine ⟨θ2, fun k hk => by rw [g2 k (by have := a.lo; omega), g1 k hk], s2, ?_⟩
   cases v1 with
   | cons v1 _ => exact .cons ((v1.agree a.w.le g2).le b.le) v2
theorem Non.head {t : Lam} {l : List Lam} (h : Non N es ctx [t]) : Non N es ctx (t :: l) := fun θ Γ τs sol hΓ hl => by
 cases hl with
 | cons h1 _ => exact h θ Γ _ sol hΓ (.cons h1 .nil)
theorem Non.tail {t : Lam} {l : List Lam} {G1 : World'} {u : Nat} {N1 : NT} {next1 : Nat} {es1 : Bd} (w : Wok G f m N next es) (a : Infd f m N next es ctx [t] G G1 [u] N1 next1 es1) (h : Non N1 es1 ctx l) : Non N es ctx (t :: l) := fun θ Γ τs sol hΓ hl => by
 cases hl with
 | cons h1 h2 =>
  obtain ⟨θ1, g1, s1, v1⟩ := a.full θ Γ _ sol hΓ (.cons h1 .nil)
  exact h θ1 Γ _ s1 ((hΓ.agree w.le g1).le a.le) h2
end
end Go.Proofs.Cw.Si
end

/-
  THE INFERER'S WORLD 8: infer, case by case: what is meant.
-/
section
namespace Go.Proofs.Cw.Si
open Go.Proofs
section
variable {f m : Nat} {N : NT} {next : Nat} {es : Bd} {ctx : List Nat} {G : World'}
theorem Wok.solAdd (w : Wok G f m N next es) {i : Nat} {nd : Nd} (hi : N i = none) {θ : Nat → FT} : Sol (N.add i nd) es θ ↔ Sol N es θ := by
 constructor
 ·intro h k j hk
  obtain ⟨x, hx⟩ := w.tg k j hk
  exact (h k j hk).down (NT.le_add hi) w.kid hx
 ·intro h k j hk
  exact (h k j hk).le (NT.le_add hi)
theorem Wok.solUpd (w : Wok G f m N next es) {θ η : Nat → FT} (ha : ∀ k, k ≤ next → η k = θ k) (h : Sol N es θ) : Sol N es η := fun k j hk => by
 rw [ha k (w.key hk)]
 exact (h k j hk).agree w.le ha
theorem Infd.var (w : Wok G f m N next es) {G' : World'} (w' : Wok G' f m N next es) {k : Int} {t : Ty} {i : Nat} (h0 : 0 ≤ k) (h1 : k < ctx.length) (hi : ctx[ctx.length - 1 - k.toNat]? = some i) (hn : ∃ nd, N i = some nd) :
  Infd f m N next es ctx [.mk 1 k t []] G G' [i] N next es where
 w := w'
 le := fun _ _ h => h
 lo := Nat.le_refl _
 hi := by omega
 kn j hj := by rw [List.mem_singleton.1 hj]; exact hn
 sound θ sol := ⟨sol, fun Γ hΓ => by
  obtain ⟨x, hx, hv⟩ := hΓ.get hi
  have hl := hΓ.length
  exact ⟨[x], .cons hv .nil, .cons (.var h0 (by rw [hl]; exact h1) (by rw [hl]; exact hx)) .nil⟩⟩
 full θ Γ τs sol hΓ hl := by
  cases hl with
  | cons h hn =>
   cases hn
   cases h with
   | var _ _ hx =>
    obtain ⟨y, hy, hv⟩ := hΓ.get hi
    rw [← hΓ.length] at hy
    rw [hx] at hy; cases hy
    exact ⟨θ, fun _ _ => rfl, sol, .cons hv .nil⟩
theorem Infd.num (w : Wok G f m N next es) {k : Int} {t : Ty} : Infd f m N next es ctx [.mk 4 k t []] G (G ++ [Nd.nat.obj]) [G.length] (N.add G.length .nat) next es where
 w := w.add (fun k e => by cases e) (fun p a b e => by cases e)
 le := NT.le_add w.new.1
 lo := Nat.le_refl _
 hi := by omega
 kn j hj := by rw [List.mem_singleton.1 hj]; exact ⟨_, N.add_self _ _⟩
 sound θ sol := ⟨(w.solAdd w.new.1).1 sol, fun Γ _ => ⟨[.nat], .cons (.nat (N.add_self _ _)) .nil, .cons .num .nil⟩⟩
 full θ Γ τs sol hΓ hl := by
  cases hl with
  | cons h hn =>
   cases hn
   cases h with
   | num => exact ⟨θ, fun _ _ => rfl, (w.solAdd w.new.1).2 sol, .cons (.nat (N.add_self _ _)) .nil⟩
theorem Infd.pair {N1 : NT} {next1 : Nat} {es1 : Bd} {G1 G2 : World'} {x y : Lam} {k : Int} {t : Ty} {a b : Nat} (h : Infd f m N next es ctx [x, y] G G1 [a, b] N1 next1 es1) (w2 : Wok G2 f m N1 next1 es1) :
  Infd f m N next es ctx [.mk 7 k t [x, y]] G (G2 ++ [(Nd.bin false a b).obj]) [G2.length] (N1.add G2.length (.bin false a b)) next1 es1 where
 w := w2.add (fun k e => by cases e) (fun p a' b' e => by cases e; exact ⟨h.kn a (by simp), h.kn b (by simp)⟩)
 le := h.le.trans (NT.le_add w2.new.1)
 lo := h.lo
 hi := by have := h.hi; simp only [sizeLs, sizeL] at this ⊢; omega
 kn j hj := by rw [List.mem_singleton.1 hj]; exact ⟨_, N1.add_self _ _⟩
 sound θ sol := by
  have sol1 := (w2.solAdd w2.new.1).1 sol
  obtain ⟨s0, k0⟩ := h.sound θ sol1
  refine ⟨s0, fun Γ hΓ => ?_⟩
  obtain ⟨τs, hv, hh⟩ := k0 Γ hΓ
  cases hh with
  | cons h1 hh =>
   cases hh with
   | cons h2 hh =>
    cases hh
    cases hv with
    | cons v1 hv =>
     cases hv with
     | cons v2 _ => exact ⟨_, .cons (.bin (N1.add_self _ _) (v1.le (NT.le_add w2.new.1)) (v2.le (NT.le_add w2.new.1))) .nil, .cons (.pair h1 h2) .nil⟩
 full θ Γ τs sol hΓ hl := by
  cases hl with
  | cons hh hn =>
   cases hn
   cases hh with
   | pair h1 h2 =>
    obtain ⟨θ', g, s, v⟩ := h.full θ Γ _ sol hΓ (.cons h1 (.cons h2 .nil))
    refine ⟨θ', g, (w2.solAdd w2.new.1).2 s, ?_⟩
    cases v with
    | cons v1 v =>
     cases v with
     | cons v2 _ => exact .cons (.bin (N1.add_self _ _) (v1.le (NT.le_add w2.new.1)) (v2.le (NT.le_add w2.new.1))) .nil
theorem HasL.one {Γ : List FT} {t : Lam} {τs : List FT} (h : HasL Γ [t] τs) : ∃ τ, τs = [τ] ∧ Has Γ t τ := by
 cases h with
 | cons h hn => cases hn; exact ⟨_, rfl, h⟩
theorem Vals.one {θ : Nat → FT} {a : Nat} {τs : List FT} (h : Vals N θ [a] τs) : ∃ τ, τs = [τ] ∧ Val N θ a τ := by
 cases h with
 | cons h hn => cases hn; exact ⟨_, rfl, h⟩
theorem Vals.one_of {θ : Nat → FT} {a : Nat} {τ : FT} (h : Vals N θ [a] [τ]) : Val N θ a τ := by
 cases h with
 | cons h _ => exact h
theorem Infd.suc {N1 : NT} {next1 : Nat} {es1 es2 : Bd} {G1 G2 : World'} {x : Lam} {k : Int} {t : Ty} {a num : Nat} (h : Infd f m N next es ctx [x] G G1 [a] N1 next1 es1) (hnum : N1 num = none)
  (w2 : Wok G2 f m (N1.add num .nat) next1 es2) (iff : ∀ θ, Sol (N1.add num .nat) es2 θ ↔ Sol (N1.add num .nat) es1 θ ∧ Eqv (N1.add num .nat) θ a num) :
  Infd f m N next es ctx [.mk 5 k t [x]] G G2 [num] (N1.add num .nat) next1 es2 where
 w := w2
 le := h.le.trans (NT.le_add hnum)
 lo := h.lo
 hi := by have := h.hi; simp only [sizeLs, sizeL] at this ⊢; omega
 kn j hj := by rw [List.mem_singleton.1 hj]; exact ⟨_, N1.add_self _ _⟩
 sound θ sol := by
  obtain ⟨sol2, v, e1, e2⟩ := (iff θ).1 sol
  obtain ⟨s0, k0⟩ := h.sound θ ((h.w.solAdd hnum).1 sol2)
  refine ⟨s0, fun Γ hΓ => ?_⟩
  obtain ⟨τs, hv, hh⟩ := k0 Γ hΓ
  obtain ⟨τ, rfl, hx⟩ := hh.one
  have hv2 := hv.one_of.le (NT.le_add (nd := .nat) hnum)
  rw [Val.nat_inv (N1.add_self _ _) e2] at e1
  rw [hv2.det e1] at hx
  exact ⟨[.nat], .cons (.nat (N1.add_self _ _)) .nil, .cons (.suc hx) .nil⟩
 full θ Γ τs sol hΓ hl := by
  obtain ⟨τ, rfl, hh⟩ := hl.one
  cases hh with
  | suc hx =>
   obtain ⟨θ', g, s, v⟩ := h.full θ Γ _ sol hΓ (.cons hx .nil)
   exact ⟨θ', g, (iff θ').2 ⟨(h.w.solAdd hnum).2 s, .nat, v.one_of.le (NT.le_add hnum), .nat (N1.add_self _ _)⟩, .cons (.nat (N1.add_self _ _)) .nil⟩
theorem Infd.suc_no {N1 : NT} {next1 : Nat} {es1 : Bd} {G1 : World'} {x : Lam} {k : Int} {t : Ty} {a num : Nat} (h : Infd f m N next es ctx [x] G G1 [a] N1 next1 es1) (hnum : N1 num = none)
  (no : ∀ θ, Sol (N1.add num .nat) es1 θ → ¬ Eqv (N1.add num .nat) θ a num) : Non N es ctx [.mk 5 k t [x]] := fun θ Γ τs sol hΓ hl => by
 obtain ⟨τ, rfl, hh⟩ := hl.one
 cases hh with
 | suc hx =>
  obtain ⟨θ', g, s, v⟩ := h.full θ Γ _ sol hΓ (.cons hx .nil)
  exact no θ' ((h.w.solAdd hnum).2 s) ⟨.nat, v.one_of.le (NT.le_add hnum), .nat (N1.add_self _ _)⟩
theorem Non.parts {o k : Int} {t : Ty} {l : List Lam} (h : Non N es ctx l) (ho : ∀ Γ τ, Has Γ (.mk o k t l) τ → ∃ τs, HasL Γ l τs) : Non N es ctx [.mk o k t l] := fun θ Γ τs sol hΓ hl => by
 obtain ⟨τ, rfl, hh⟩ := hl.one
 obtain ⟨σs, hs⟩ := ho Γ τ hh
 exact h θ Γ σs sol hΓ hs
end
end Go.Proofs.Cw.Si
end

/-
  THE INFERER'S WORLD 9: infer, case by case: what is meant: applications, parts of pairs.
-/
section
namespace Go.Proofs.Cw.Si
open Go.Proofs
def updF (θ : Nat → FT) (k : Nat) (x : FT) : Nat → FT := fun j => if j = k then x else θ j
theorem updF_self (θ : Nat → FT) (k : Nat) (x : FT) : updF θ k x k = x := by simp [updF]
theorem updF_le {θ : Nat → FT} {n : Nat} {x : FT} : ∀ k, k ≤ n → updF θ (n + 1) x k = θ k := fun k h => by unfold updF; rw [if_neg (by omega)]
section
variable {f m : Nat} {N : NT} {next : Nat} {es : Bd} {ctx : List Nat} {G : World'}
theorem Infd.app {N1 : NT} {next1 : Nat} {es1 es2 : Bd} {G1 G2 G3 : World'} {x y : Lam} {k : Int} {t : Ty} {a b r p : Nat} (h : Infd f m N next es ctx [x, y] G G1 [a, b] N1 next1 es1) (hr : N1 r = none)
  (w2 : Wok G2 f m (N1.add r (.unk (next1 + 1))) (next1 + 1) es1) (hp : N1.add r (.unk (next1 + 1)) p = none)
  (w3 : Wok G3 f m ((N1.add r (.unk (next1 + 1))).add p (.bin true b r)) (next1 + 1) es2)
  (iff : ∀ θ, Sol ((N1.add r (.unk (next1 + 1))).add p (.bin true b r)) es2 θ ↔ Sol ((N1.add r (.unk (next1 + 1))).add p (.bin true b r)) es1 θ ∧ Eqv ((N1.add r (.unk (next1 + 1))).add p (.bin true b r)) θ a p) :
  Infd f m N next es ctx [.mk 3 k t [x, y]] G G3 [r] ((N1.add r (.unk (next1 + 1))).add p (.bin true b r)) (next1 + 1) es2 := by
 have le1 : N1.Le (N1.add r (.unk (next1 + 1))) := NT.le_add hr
 have le2 : (N1.add r (.unk (next1 + 1))).Le ((N1.add r (.unk (next1 + 1))).add p (.bin true b r)) := NT.le_add hp
 have hr3 : (N1.add r (.unk (next1 + 1))).add p (.bin true b r) r = some (.unk (next1 + 1)) := le2 _ _ (N1.add_self _ _)
 have hp3 : (N1.add r (.unk (next1 + 1))).add p (.bin true b r) p = some (.bin true b r) := NT.add_self _ _ _
 refine ⟨w3, h.le.trans (le1.trans le2), by have := h.lo; omega, by have := h.hi; simp only [sizeLs, sizeL] at this ⊢; omega, fun j hj => by rw [List.mem_singleton.1 hj]; exact ⟨_, hr3⟩, fun θ sol => ?_, fun θ Γ τs sol hΓ hl => ?_⟩
 ·obtain ⟨sol3, v, e1, e2⟩ := (iff θ).1 sol
  obtain ⟨s0, k0⟩ := h.sound θ ((h.w.solAdd hr).1 ((w2.solAdd hp).1 sol3))
  refine ⟨s0, fun Γ hΓ => ?_⟩
  obtain ⟨τs, hv, hh⟩ := k0 Γ hΓ
  cases hh with
  | cons h1 hh =>
   cases hh with
   | cons h2 hh =>
    cases hh
    cases hv with
    | cons v1 hv =>
     have v2 := hv.one_of
     obtain ⟨y1, y2, rfl, u1, u2⟩ := Val.bin_inv hp3 e2
     rw [((v1.le le1).le le2).det e1] at h1
     rw [((v2.le le1).le le2).det u1] at h2
     exact ⟨[y2], .cons u2 .nil, .cons (.app h1 h2) .nil⟩
 ·obtain ⟨τ, rfl, hh⟩ := hl.one
  cases hh with
  | @app _ _ _ _ _ A _ h1 h2 =>
   obtain ⟨θ', g, s, v⟩ := h.full θ Γ _ sol hΓ (.cons h1 (.cons h2 .nil))
   have ag : ∀ j, j ≤ next1 → updF θ' (next1 + 1) τ j = θ' j := updF_le
   cases v with
   | cons v1 v =>
    have v2 := v.one_of
    have v1 := (((v1.agree h.w.le ag).le le1).le le2)
    have v2 := (((v2.agree h.w.le ag).le le1).le le2)
    have vr : Val ((N1.add r (.unk (next1 + 1))).add p (.bin true b r)) (updF θ' (next1 + 1) τ) r τ := by
     have := Val.unk (θ := updF θ' (next1 + 1) τ) hr3
     rwa [updF_self] at this
    exact ⟨updF θ' (next1 + 1) τ, fun j hj => by rw [ag j (by have := h.lo; omega), g j hj], (iff _).2 ⟨(w2.solAdd hp).2 ((h.w.solAdd hr).2 (h.w.solUpd ag s)), _, v1, .bin hp3 v2 vr⟩, .cons vr .nil⟩
theorem Infd.app_no {N1 : NT} {next1 : Nat} {es1 : Bd} {G1 G2 : World'} {x y : Lam} {k : Int} {t : Ty} {a b r p : Nat} (h : Infd f m N next es ctx [x, y] G G1 [a, b] N1 next1 es1) (hr : N1 r = none)
  (w2 : Wok G2 f m (N1.add r (.unk (next1 + 1))) (next1 + 1) es1) (hp : N1.add r (.unk (next1 + 1)) p = none)
  (no : ∀ θ, Sol ((N1.add r (.unk (next1 + 1))).add p (.bin true b r)) es1 θ → ¬ Eqv ((N1.add r (.unk (next1 + 1))).add p (.bin true b r)) θ a p) : Non N es ctx [.mk 3 k t [x, y]] := by
 have le1 : N1.Le (N1.add r (.unk (next1 + 1))) := NT.le_add hr
 have le2 : (N1.add r (.unk (next1 + 1))).Le ((N1.add r (.unk (next1 + 1))).add p (.bin true b r)) := NT.le_add hp
 have hr3 : (N1.add r (.unk (next1 + 1))).add p (.bin true b r) r = some (.unk (next1 + 1)) := le2 _ _ (N1.add_self _ _)
 have hp3 : (N1.add r (.unk (next1 + 1))).add p (.bin true b r) p = some (.bin true b r) := NT.add_self _ _ _
 intro θ Γ τs sol hΓ hl
 obtain ⟨τ, rfl, hh⟩ := hl.one
 cases hh with
 | @app _ _ _ _ _ A _ h1 h2 =>
  obtain ⟨θ', g, s, v⟩ := h.full θ Γ _ sol hΓ (.cons h1 (.cons h2 .nil))
  have ag : ∀ j, j ≤ next1 → updF θ' (next1 + 1) τ j = θ' j := updF_le
  cases v with
  | cons v1 v =>
   have v2 := v.one_of
   have v1 := (((v1.agree h.w.le ag).le le1).le le2)
   have v2 := (((v2.agree h.w.le ag).le le1).le le2)
   have vr : Val ((N1.add r (.unk (next1 + 1))).add p (.bin true b r)) (updF θ' (next1 + 1) τ) r τ := by
    have := Val.unk (θ := updF θ' (next1 + 1) τ) hr3
    rwa [updF_self] at this
   exact no _ ((w2.solAdd hp).2 ((h.w.solAdd hr).2 (h.w.solUpd ag s))) ⟨_, v1, .bin hp3 v2 vr⟩
theorem Infd.iter {N1 : NT} {next1 : Nat} {es1 es2 es3 : Bd} {G1 G2 G3 : World'} {x y z : Lam} {k : Int} {t : Ty} {a b c num p : Nat} (h : Infd f m N next es ctx [x, y, z] G G1 [a, b, c] N1 next1 es1) (hn : N1 num = none)
  (w2 : Wok G2 f m (N1.add num .nat) next1 es2) (iff1 : ∀ θ, Sol (N1.add num .nat) es2 θ ↔ Sol (N1.add num .nat) es1 θ ∧ Eqv (N1.add num .nat) θ a num) (hp : N1.add num .nat p = none)
  (w3 : Wok G3 f m ((N1.add num .nat).add p (.bin true c c)) next1 es3)
  (iff2 : ∀ θ, Sol ((N1.add num .nat).add p (.bin true c c)) es3 θ ↔ Sol ((N1.add num .nat).add p (.bin true c c)) es2 θ ∧ Eqv ((N1.add num .nat).add p (.bin true c c)) θ b p) :
  Infd f m N next es ctx [.mk 6 k t [x, y, z]] G G3 [c] ((N1.add num .nat).add p (.bin true c c)) next1 es3 := by
 have le1 : N1.Le (N1.add num .nat) := NT.le_add hn
 have le2 : (N1.add num .nat).Le ((N1.add num .nat).add p (.bin true c c)) := NT.le_add hp
 have hp3 : (N1.add num .nat).add p (.bin true c c) p = some (.bin true c c) := NT.add_self _ _ _
 refine ⟨w3, h.le.trans (le1.trans le2), h.lo, by have := h.hi; simp only [sizeLs, sizeL] at this ⊢; omega, fun j hj => by
  rw [List.mem_singleton.1 hj]
  obtain ⟨nd, hnd⟩ := h.kn c (by simp)
  exact ⟨nd, le2 _ _ (le1 _ _ hnd)⟩, fun θ sol => ?_, fun θ Γ τs sol hΓ hl => ?_⟩
 ·obtain ⟨sol3, v, e1, e2⟩ := (iff2 θ).1 sol
  obtain ⟨sol2, v', e3, e4⟩ := (iff1 θ).1 ((w2.solAdd hp).1 sol3)
  obtain ⟨s0, k0⟩ := h.sound θ ((h.w.solAdd hn).1 sol2)
  refine ⟨s0, fun Γ hΓ => ?_⟩
  obtain ⟨τs, hv, hh⟩ := k0 Γ hΓ
  cases hh with
  | cons h1 hh =>
   cases hh with
   | cons h2 hh =>
    obtain ⟨τ, rfl, h3⟩ := hh.one
    cases hv with
    | cons v1 hv =>
     cases hv with
     | cons v2 hv =>
      have v3 := hv.one_of
      rw [Val.nat_inv (N1.add_self _ _) e4] at e3
      rw [(v1.le le1).det e3] at h1
      obtain ⟨y1, y2, rfl, u1, u2⟩ := Val.bin_inv hp3 e2
      have d1 := ((v3.le le1).le le2).det u1
      have d2 := ((v3.le le1).le le2).det u2
      subst d1; subst d2
      rw [((v2.le le1).le le2).det e1] at h2
      exact ⟨[_], .cons ((v3.le le1).le le2) .nil, .cons (.iter h1 h2 h3) .nil⟩
 ·obtain ⟨τ, rfl, hh⟩ := hl.one
  cases hh with
  | iter h1 h2 h3 =>
   obtain ⟨θ', g, s, v⟩ := h.full θ Γ _ sol hΓ (.cons h1 (.cons h2 (.cons h3 .nil)))
   cases v with
   | cons v1 v =>
    cases v with
    | cons v2 v =>
     have v3 := v.one_of
     have s2 := (iff1 θ').2 ⟨(h.w.solAdd hn).2 s, _, v1.le le1, .nat (N1.add_self _ _)⟩
     exact ⟨θ', g, (iff2 θ').2 ⟨(w2.solAdd hp).2 s2, _, (v2.le le1).le le2, .bin hp3 ((v3.le le1).le le2) ((v3.le le1).le le2)⟩, .cons ((v3.le le1).le le2) .nil⟩
theorem Infd.iter_no1 {N1 : NT} {next1 : Nat} {es1 : Bd} {G1 : World'} {x y z : Lam} {k : Int} {t : Ty} {a b c num : Nat} (h : Infd f m N next es ctx [x, y, z] G G1 [a, b, c] N1 next1 es1) (hn : N1 num = none)
  (no : ∀ θ, Sol (N1.add num .nat) es1 θ → ¬ Eqv (N1.add num .nat) θ a num) : Non N es ctx [.mk 6 k t [x, y, z]] := fun θ Γ τs sol hΓ hl => by
 obtain ⟨τ, rfl, hh⟩ := hl.one
 cases hh with
 | iter h1 h2 h3 =>
  obtain ⟨θ', g, s, v⟩ := h.full θ Γ _ sol hΓ (.cons h1 (.cons h2 (.cons h3 .nil)))
  cases v with
  | cons v1 v => exact no θ' ((h.w.solAdd hn).2 s) ⟨_, v1.le (NT.le_add hn), .nat (N1.add_self _ _)⟩
theorem Infd.iter_no2 {N1 : NT} {next1 : Nat} {es1 es2 : Bd} {G1 G2 : World'} {x y z : Lam} {k : Int} {t : Ty} {a b c num p : Nat} (h : Infd f m N next es ctx [x, y, z] G G1 [a, b, c] N1 next1 es1) (hn : N1 num = none)
  (w2 : Wok G2 f m (N1.add num .nat) next1 es2) (iff1 : ∀ θ, Sol (N1.add num .nat) es2 θ ↔ Sol (N1.add num .nat) es1 θ ∧ Eqv (N1.add num .nat) θ a num) (hp : N1.add num .nat p = none)
  (no : ∀ θ, Sol ((N1.add num .nat).add p (.bin true c c)) es2 θ → ¬ Eqv ((N1.add num .nat).add p (.bin true c c)) θ b p) : Non N es ctx [.mk 6 k t [x, y, z]] := fun θ Γ τs sol hΓ hl => by
 have le1 : N1.Le (N1.add num .nat) := NT.le_add hn
 have le2 : (N1.add num .nat).Le ((N1.add num .nat).add p (.bin true c c)) := NT.le_add hp
 have hp3 : (N1.add num .nat).add p (.bin true c c) p = some (.bin true c c) := NT.add_self _ _ _
 obtain ⟨τ, rfl, hh⟩ := hl.one
 cases hh with
 | iter h1 h2 h3 =>
  obtain ⟨θ', g, s, v⟩ := h.full θ Γ _ sol hΓ (.cons h1 (.cons h2 (.cons h3 .nil)))
  cases v with
  | cons v1 v =>
   cases v with
   | cons v2 v =>
    have v3 := v.one_of
    have s2 := (iff1 θ').2 ⟨(h.w.solAdd hn).2 s, _, v1.le le1, .nat (N1.add_self _ _)⟩
    exact no θ' ((w2.solAdd hp).2 s2) ⟨_, (v2.le le1).le le2, .bin hp3 ((v3.le le1).le le2) ((v3.le le1).le le2)⟩
theorem Infd.lam {N1 N2 : NT} {next2 : Nat} {es2 : Bd} {G1 G2 G3 : World'} {x : Lam} {k : Int} {t : Ty} {a b : Nat} (w : Wok G f m N next es) (ha : N a = none) (hctx : ∀ i, i ∈ ctx → ∃ nd, N i = some nd) (e1 : N1 = N.add a (.unk (next + 1)))
  (w1 : Wok G1 f m N1 (next + 1) es) (h : Infd f m N1 (next + 1) es (ctx ++ [a]) [x] G1 G2 [b] N2 next2 es2) (w3 : Wok G3 f m N2 next2 es2) :
  Infd f m N next es ctx [.mk 2 k t [x]] G (G3 ++ [(Nd.bin true a b).obj]) [G3.length] (N2.add G3.length (.bin true a b)) next2 es2 := by
 subst e1
 have le1 : N.Le (N.add a (.unk (next + 1))) := NT.le_add ha
 have le2 := h.le
 have le3 : N2.Le (N2.add G3.length (.bin true a b)) := NT.le_add w3.new.1
 have ha2 : N2 a = some (.unk (next + 1)) := le2 _ _ (N.add_self _ _)
 refine ⟨w3.add (fun k e => by cases e) (fun p a' b' e => by cases e; exact ⟨⟨_, ha2⟩, h.kn b (by simp)⟩), le1.trans (le2.trans le3), by have := h.lo; omega, by have := h.hi; simp only [sizeLs, sizeL] at this ⊢; omega,
  fun j hj => by rw [List.mem_singleton.1 hj]; exact ⟨_, N2.add_self _ _⟩, fun θ sol => ?_, fun θ Γ τs sol hΓ hl => ?_⟩
 ·obtain ⟨s1, k1⟩ := h.sound θ ((w3.solAdd w3.new.1).1 sol)
  refine ⟨(w.solAdd ha).1 s1, fun Γ hΓ => ?_⟩
  have va : Val (N.add a (.unk (next + 1))) θ a (θ (next + 1)) := .unk (N.add_self _ _)
  obtain ⟨τs, hv, hh⟩ := k1 (Γ ++ [θ (next + 1)]) ((hΓ.le le1).append (.cons va .nil))
  obtain ⟨τ, rfl, h1⟩ := hh.one
  exact ⟨[_], .cons (.bin (N2.add_self _ _) ((va.le le2).le le3) (hv.one_of.le le3)) .nil, .cons (.lam h1) .nil⟩
 ·obtain ⟨τ, rfl, hh⟩ := hl.one
  cases hh with
  | @lam _ _ _ _ A R h1 =>
   have ag : ∀ j, j ≤ next → updF θ (next + 1) A j = θ j := updF_le
   have va : Val (N.add a (.unk (next + 1))) (updF θ (next + 1) A) a A := by
    have := Val.unk (θ := updF θ (next + 1) A) (N.add_self a (.unk (next + 1)))
    rwa [updF_self] at this
   obtain ⟨θ', g, s, v⟩ := h.full (updF θ (next + 1) A) (Γ ++ [A]) _ ((w.solAdd ha).2 (w.solUpd ag sol)) (((hΓ.agree w.le ag).le le1).append (.cons va .nil)) (.cons h1 .nil)
   refine ⟨θ', fun j hj => by rw [g j (by omega), ag j hj], (w3.solAdd w3.new.1).2 s, .cons (.bin (N2.add_self _ _) ?_ (v.one_of.le le3)) .nil⟩
   exact ((va.agree w1.le g).le le2).le le3
theorem Infd.lam_no {N1 : NT} {G1 : World'} {x : Lam} {k : Int} {t : Ty} {a : Nat} (w : Wok G f m N next es) (ha : N a = none) (e1 : N1 = N.add a (.unk (next + 1))) (h : Non N1 es (ctx ++ [a]) [x]) : Non N es ctx [.mk 2 k t [x]] := by
 subst e1
 have le1 : N.Le (N.add a (.unk (next + 1))) := NT.le_add ha
 intro θ Γ τs sol hΓ hl
 obtain ⟨τ, rfl, hh⟩ := hl.one
 cases hh with
 | @lam _ _ _ _ A R h1 =>
  have ag : ∀ j, j ≤ next → updF θ (next + 1) A j = θ j := updF_le
  have va : Val (N.add a (.unk (next + 1))) (updF θ (next + 1) A) a A := by
   have := Val.unk (θ := updF θ (next + 1) A) (N.add_self a (.unk (next + 1)))
   rwa [updF_self] at this
  exact h (updF θ (next + 1) A) (Γ ++ [A]) _ ((w.solAdd ha).2 (w.solUpd ag sol)) (((hΓ.agree w.le ag).le le1).append (.cons va .nil)) (.cons h1 .nil)
section
variable {N1 : NT} {next1 : Nat} {es1 es2 : Bd} {G1 G2 G3 G4 : World'} {x : Lam} {t : Ty} {a r1 r2 p : Nat}
abbrev twoN (N1 : NT) (next1 r1 r2 p : Nat) : NT := ((N1.add r1 (.unk (next1 + 1))).add r2 (.unk (next1 + 1 + 1))).add p (.bin false r1 r2)
theorem two_val (h1 : N1 r1 = none) (h2 : N1.add r1 (.unk (next1 + 1)) r2 = none) (hp : (N1.add r1 (.unk (next1 + 1))).add r2 (.unk (next1 + 1 + 1)) p = none) :
  N1.Le (twoN N1 next1 r1 r2 p) ∧ twoN N1 next1 r1 r2 p r1 = some (.unk (next1 + 1)) ∧ twoN N1 next1 r1 r2 p r2 = some (.unk (next1 + 1 + 1)) ∧ twoN N1 next1 r1 r2 p p = some (.bin false r1 r2) := by
 have l1 : N1.Le (N1.add r1 (.unk (next1 + 1))) := NT.le_add h1
 have l2 : (N1.add r1 (.unk (next1 + 1))).Le ((N1.add r1 (.unk (next1 + 1))).add r2 (.unk (next1 + 1 + 1))) := NT.le_add h2
 have l3 : ((N1.add r1 (.unk (next1 + 1))).add r2 (.unk (next1 + 1 + 1))).Le (twoN N1 next1 r1 r2 p) := NT.le_add hp
 exact ⟨l1.trans (l2.trans l3), l3 _ _ (l2 _ _ (N1.add_self _ _)), l3 _ _ (NT.add_self _ _ _), NT.add_self _ _ _⟩
theorem two_full (h : Infd f m N next es ctx [x] G G1 [a] N1 next1 es1) (h1 : N1 r1 = none) (w2 : Wok G2 f m (N1.add r1 (.unk (next1 + 1))) (next1 + 1) es1) (h2 : N1.add r1 (.unk (next1 + 1)) r2 = none)
  (w3 : Wok G3 f m ((N1.add r1 (.unk (next1 + 1))).add r2 (.unk (next1 + 1 + 1))) (next1 + 1 + 1) es1) (hp : (N1.add r1 (.unk (next1 + 1))).add r2 (.unk (next1 + 1 + 1)) p = none)
  {θ : Nat → FT} {Γ : List FT} {A B : FT} (sol : Sol N es θ) (hΓ : Vals N θ ctx Γ) (hh : Has Γ x (.bin false A B)) :
  ∃ η, (∀ k, k ≤ next → η k = θ k) ∧ Sol (twoN N1 next1 r1 r2 p) es1 η ∧ Eqv (twoN N1 next1 r1 r2 p) η a p ∧ Val (twoN N1 next1 r1 r2 p) η r1 A ∧ Val (twoN N1 next1 r1 r2 p) η r2 B := by
 obtain ⟨le, k1, k2, k3⟩ := two_val h1 h2 hp
 obtain ⟨θ', g, s, v⟩ := h.full θ Γ _ sol hΓ (.cons hh .nil)
 have e1 : updF (updF θ' (next1 + 1) A) (next1 + 1 + 1) B (next1 + 1) = A := by
  rw [updF_le (n := next1 + 1) _ (Nat.le_refl _), updF_self]
 have ag : ∀ j, j ≤ next1 → updF (updF θ' (next1 + 1) A) (next1 + 1 + 1) B j = θ' j := fun j hj => by
  rw [updF_le (n := next1 + 1) j (by omega), updF_le j hj]
 have va := (v.one_of.agree h.w.le ag).le le
 have v1 : Val (twoN N1 next1 r1 r2 p) (updF (updF θ' (next1 + 1) A) (next1 + 1 + 1) B) r1 A := by
  have := Val.unk (θ := updF (updF θ' (next1 + 1) A) (next1 + 1 + 1) B) k1
  rwa [e1] at this
 have v2 : Val (twoN N1 next1 r1 r2 p) (updF (updF θ' (next1 + 1) A) (next1 + 1 + 1) B) r2 B := by
  have := Val.unk (θ := updF (updF θ' (next1 + 1) A) (next1 + 1 + 1) B) k2
  rwa [updF_self] at this
 exact ⟨_, fun j hj => by rw [ag j (by have := h.lo; omega), g j hj], (w3.solAdd hp).2 ((w2.solAdd h2).2 ((h.w.solAdd h1).2 (h.w.solUpd ag s))), ⟨_, va, .bin k3 v1 v2⟩, v1, v2⟩
theorem two_sound (h : Infd f m N next es ctx [x] G G1 [a] N1 next1 es1) (h1 : N1 r1 = none) (w2 : Wok G2 f m (N1.add r1 (.unk (next1 + 1))) (next1 + 1) es1) (h2 : N1.add r1 (.unk (next1 + 1)) r2 = none)
  (w3 : Wok G3 f m ((N1.add r1 (.unk (next1 + 1))).add r2 (.unk (next1 + 1 + 1))) (next1 + 1 + 1) es1) (hp : (N1.add r1 (.unk (next1 + 1))).add r2 (.unk (next1 + 1 + 1)) p = none)
  {θ : Nat → FT} (sol : Sol (twoN N1 next1 r1 r2 p) es1 θ) (he : Eqv (twoN N1 next1 r1 r2 p) θ a p) :
  Sol N es θ ∧ ∀ Γ, Vals N θ ctx Γ → ∃ A B, Val (twoN N1 next1 r1 r2 p) θ r1 A ∧ Val (twoN N1 next1 r1 r2 p) θ r2 B ∧ Has Γ x (.bin false A B) := by
 obtain ⟨le, k1, k2, k3⟩ := two_val h1 h2 hp
 obtain ⟨s0, k0⟩ := h.sound θ ((h.w.solAdd h1).1 ((w2.solAdd h2).1 ((w3.solAdd hp).1 sol)))
 refine ⟨s0, fun Γ hΓ => ?_⟩
 obtain ⟨τs, hv, hh⟩ := k0 Γ hΓ
 obtain ⟨τ, rfl, hx⟩ := hh.one
 obtain ⟨v, e1, e2⟩ := he
 obtain ⟨A, B, rfl, u1, u2⟩ := Val.bin_inv k3 e2
 rw [(hv.one_of.le le).det e1] at hx
 exact ⟨A, B, u1, u2, hx⟩
theorem Infd.fst {k : Int} (h : Infd f m N next es ctx [x] G G1 [a] N1 next1 es1) (h1 : N1 r1 = none) (w2 : Wok G2 f m (N1.add r1 (.unk (next1 + 1))) (next1 + 1) es1) (h2 : N1.add r1 (.unk (next1 + 1)) r2 = none)
  (w3 : Wok G3 f m ((N1.add r1 (.unk (next1 + 1))).add r2 (.unk (next1 + 1 + 1))) (next1 + 1 + 1) es1) (hp : (N1.add r1 (.unk (next1 + 1))).add r2 (.unk (next1 + 1 + 1)) p = none)
  (w4 : Wok G4 f m (twoN N1 next1 r1 r2 p) (next1 + 1 + 1) es2) (iff : ∀ θ, Sol (twoN N1 next1 r1 r2 p) es2 θ ↔ Sol (twoN N1 next1 r1 r2 p) es1 θ ∧ Eqv (twoN N1 next1 r1 r2 p) θ a p) :
  Infd f m N next es ctx [.mk 8 k t [x]] G G4 [r1] (twoN N1 next1 r1 r2 p) (next1 + 1 + 1) es2 ∧ Infd f m N next es ctx [.mk 9 k t [x]] G G4 [r2] (twoN N1 next1 r1 r2 p) (next1 + 1 + 1) es2 := by
 obtain ⟨le, k1, k2, k3⟩ := two_val h1 h2 hp
 have hi := h.hi
 simp only [sizeLs] at hi
 refine ⟨⟨w4, h.le.trans le, by have := h.lo; omega, by simp only [sizeLs, sizeL]; omega, fun j hj => by rw [List.mem_singleton.1 hj]; exact ⟨_, k1⟩, fun θ sol => ?_, fun θ Γ τs sol hΓ hl => ?_⟩,
  ⟨w4, h.le.trans le, by have := h.lo; omega, by simp only [sizeLs, sizeL]; omega, fun j hj => by rw [List.mem_singleton.1 hj]; exact ⟨_, k2⟩, fun θ sol => ?_, fun θ Γ τs sol hΓ hl => ?_⟩⟩
 ·obtain ⟨s1, he⟩ := (iff θ).1 sol
  obtain ⟨s0, k⟩ := two_sound h h1 w2 h2 w3 hp s1 he
  refine ⟨s0, fun Γ hΓ => ?_⟩
  obtain ⟨A, B, v1, v2, hx⟩ := k Γ hΓ
  exact ⟨[A], .cons v1 .nil, .cons (.fst hx) .nil⟩
 ·obtain ⟨τ, rfl, hh⟩ := hl.one
  cases hh with
  | fst hx =>
   obtain ⟨η, g, s, he, v1, v2⟩ := two_full h h1 w2 h2 w3 hp sol hΓ hx
   exact ⟨η, g, (iff η).2 ⟨s, he⟩, .cons v1 .nil⟩
 ·obtain ⟨s1, he⟩ := (iff θ).1 sol
  obtain ⟨s0, k⟩ := two_sound h h1 w2 h2 w3 hp s1 he
  refine ⟨s0, fun Γ hΓ => ?_⟩
  obtain ⟨A, B, v1, v2, hx⟩ := k Γ hΓ
  exact ⟨[B], .cons v2 .nil, .cons (.snd hx) .nil⟩
 ·obtain ⟨τ, rfl, hh⟩ := hl.one
  cases hh with
  | snd hx =>
   obtain ⟨η, g, s, he, v1, v2⟩ := two_full h h1 w2 h2 w3 hp sol hΓ hx
   exact ⟨η, g, (iff η).2 ⟨s, he⟩, .cons v2 .nil⟩
theorem Infd.fst_no {k : Int} (h : Infd f m N next es ctx [x] G G1 [a] N1 next1 es1) (h1 : N1 r1 = none) (w2 : Wok G2 f m (N1.add r1 (.unk (next1 + 1))) (next1 + 1) es1) (h2 : N1.add r1 (.unk (next1 + 1)) r2 = none)
  (w3 : Wok G3 f m ((N1.add r1 (.unk (next1 + 1))).add r2 (.unk (next1 + 1 + 1))) (next1 + 1 + 1) es1) (hp : (N1.add r1 (.unk (next1 + 1))).add r2 (.unk (next1 + 1 + 1)) p = none)
  (no : ∀ θ, Sol (twoN N1 next1 r1 r2 p) es1 θ → ¬ Eqv (twoN N1 next1 r1 r2 p) θ a p) : Non N es ctx [.mk 8 k t [x]] ∧ Non N es ctx [.mk 9 k t [x]] := by
 refine ⟨fun θ Γ τs sol hΓ hl => ?_, fun θ Γ τs sol hΓ hl => ?_⟩
 ·obtain ⟨τ, rfl, hh⟩ := hl.one
  cases hh with
  | fst hx =>
   obtain ⟨η, g, s, he, v1, v2⟩ := two_full h h1 w2 h2 w3 hp sol hΓ hx
   exact no η s he
 ·obtain ⟨τ, rfl, hh⟩ := hl.one
  cases hh with
  | snd hx =>
   obtain ⟨η, g, s, he, v1, v2⟩ := two_full h h1 w2 h2 w3 hp sol hΓ hx
   exact no η s he
end
end
end Go.Proofs.Cw.Si
end

/-
  THE INFERER'S WORLD 10: infer's loop over the parts of a term.
-/
section
namespace Go.Proofs.Cw.Si
open Go.Proofs
theorem wps_app (a b : List Nat) : wps (a ++ b) = wps a ++ wps b := by simp [wps]
theorem wps_len (a : List Nat) : (wps a).length = a.length := by simp [wps]
def M19 (row : Bool) (n q : Nat) (K : St → Option (Tree × World')) (f : Nat) (s1 ctx l : List Tree) (len i : Int) (G : World') (o u : Int) (tn : List UInt8) (tl ps : List Tree) (us : List Tree) : Option (Tree × World') :=
 match row, us with
 | false, [] => M19_0 n q K f s1 ctx l len i G o u tn tl ps
 | false, us => M19_0b n q K f s1 ctx l len i G o u tn tl ps us
 | true, [] => M19_0c n q K f s1 l len i G o u tn tl ps ctx
 | true, us => M19_0x3 n q K f s1 l len i G o u tn tl ps ctx us
def S19s (row : Bool) (f : Nat) (s1 ctx l : List Tree) (len i : Int) (G : World') (o u : Int) (tn : List UInt8) (tl ps : List Tree) (us : List Tree) : St :=
 match row, us with
 | false, [] => S19 f s1 ctx l len i false G o u tn tl ps
 | false, us => S19x1 f s1 ctx l len i false G o u tn tl ps us
 | true, [] => S19x2 f s1 l len i false G o u tn tl ps ctx
 | true, us => S19x3 f s1 l len i false G o u tn tl ps ctx us
theorem k19_ok {row : Bool} {n q f c : Nat} {K : St → Option (Tree × World')} {s1 ctx : List Tree} {l : List Lam} {i u : Nat} {G G1 : World'} {o k : Int} {tn : List UInt8} {tl ps us : List Tree} {t : Lam} (hl : l.length ≤ 100000) (hi : l[i]? = some t) (hu : us.length ≤ 100000)
  (h : EvW E c 19 [.wp f 0, .slc ctx, encL t] G (.tup [.wp u 0, .bool true]) G1) (hn : c ≤ n) :
  M19 row n (Nat.succ q) K f s1 ctx (encLs l) (l.length : Nat) (i : Nat) G o k tn tl ps us = M19 row n q K f s1 ctx (encLs l) (l.length : Nat) ((i + 1 : Nat) : Int) G1 o k tn tl ps (us ++ [.wp u 0]) := by
 have hlt : i < l.length := (List.getElem?_eq_some_iff.1 hi).1
 have hnth : nth (encLs l) (Int.toNat ((i : Nat) : Int)) = some (encL t) := by
  rw [Int.toNat_natCast, encLs_map, nth_map, nth_eq, hi]; rfl
 have h := h n hn
 have hw : IntKind.wrap .i64 (((i : Nat) : Int) + 1) = ((i + 1 : Nat) : Int) := by rw [w64 (by omega)]; omega
 have hb : Nat.ble ((us.length + 1) * 8) 140737488355328 = true := by rw [Nat.ble_eq]; omega
 rw [encL_eta] at h hnth
 cases row with
 | false =>
  cases us with
  | nil =>
   show M19_0 n (Nat.succ q) K f s1 ctx (encLs l) _ _ G o k tn tl ps = M19_0b n q K f s1 ctx (encLs l) _ _ G1 o k tn tl ps [.wp u 0]
   rw [k19_0]
   refine step_t (by simp; omega) (step_t (by simp) (step_b hnth (step_t rfl (step_b h (step_t rfl (step_f rfl (step_t rfl ?_)))))))
   rw [hw]; rfl
  | cons a us =>
   show M19_0b n (Nat.succ q) K f s1 ctx (encLs l) _ _ G o k tn tl ps (a :: us) = M19_0b n q K f s1 ctx (encLs l) _ _ G1 o k tn tl ps (a :: us ++ [.wp u 0])
   rw [k19_0b]
   refine step_t (by simp; omega) (step_t (by simp) (step_b hnth (step_t rfl (step_b h (step_t rfl (step_f rfl (step_t rfl (step_t (by rw [hb]; rfl) ?_))))))))
   rw [hw]; rfl
 | true =>
  cases us with
  | nil =>
   show M19_0c n (Nat.succ q) K f s1 (encLs l) _ _ G o k tn tl ps ctx = M19_0x3 n q K f s1 (encLs l) _ _ G1 o k tn tl ps ctx [.wp u 0]
   rw [k19_0c]
   refine step_t (by simp; omega) (step_t (by simp) (step_b hnth (step_t rfl (step_b h (step_t rfl (step_f rfl (step_t rfl ?_)))))))
   rw [hw]; rfl
  | cons a us =>
   show M19_0x3 n (Nat.succ q) K f s1 (encLs l) _ _ G o k tn tl ps ctx (a :: us) = M19_0x3 n q K f s1 (encLs l) _ _ G1 o k tn tl ps ctx (a :: us ++ [.wp u 0])
   rw [k19_0x3]
   refine step_t (by simp; omega) (step_t (by simp) (step_b hnth (step_t rfl (step_b h (step_t rfl (step_f rfl (step_t rfl (step_t (by rw [hb]; rfl) ?_))))))))
   rw [hw]; rfl
theorem k19_no {row : Bool} {n q f c : Nat} {K : St → Option (Tree × World')} {s1 ctx : List Tree} {l : List Lam} {i : Nat} {u : Tree} {G G1 : World'} {o k : Int} {tn : List UInt8} {tl ps us : List Tree} {t : Lam} (hl : l.length ≤ 100000) (hi : l[i]? = some t)
  (h : EvW E c 19 [.wp f 0, .slc ctx, encL t] G (.tup [u, .bool false]) G1) (hu : u.isSc = true) (hn : c ≤ n) :
  M19 row n (Nat.succ q) K f s1 ctx (encLs l) (l.length : Nat) (i : Nat) G o k tn tl ps us = some (.tup [.nilp, .bool false], G1) := by
 have hlt : i < l.length := (List.getElem?_eq_some_iff.1 hi).1
 have hnth : nth (encLs l) (Int.toNat ((i : Nat) : Int)) = some (encL t) := by
  rw [Int.toNat_natCast, encLs_map, nth_map, nth_eq, hi]; rfl
 have h := h n hn
 have ho : Sh.ok (Sh.tup [Sh.any, Sh.bool]) (.tup [u, .bool false]) = true := by simp [Sh.ok, Sh.oks, hu]
 rw [encL_eta] at h hnth
 cases row with
 | false =>
  cases us with
  | nil =>
   show M19_0 n (Nat.succ q) K f s1 ctx (encLs l) _ _ G o k tn tl ps = _
   rw [k19_0]
   exact step_t (by simp; omega) (step_t (by simp) (step_b hnth (step_t rfl (step_b h (step_t ho (step_t rfl rfl))))))
  | cons a us =>
   show M19_0b n (Nat.succ q) K f s1 ctx (encLs l) _ _ G o k tn tl ps (a :: us) = _
   rw [k19_0b]
   exact step_t (by simp; omega) (step_t (by simp) (step_b hnth (step_t rfl (step_b h (step_t ho (step_t rfl rfl))))))
 | true =>
  cases us with
  | nil =>
   show M19_0c n (Nat.succ q) K f s1 (encLs l) _ _ G o k tn tl ps ctx = _
   rw [k19_0c]
   exact step_t (by simp; omega) (step_t (by simp) (step_b hnth (step_t rfl (step_b h (step_t ho (step_t rfl rfl))))))
  | cons a us =>
   show M19_0x3 n (Nat.succ q) K f s1 (encLs l) _ _ G o k tn tl ps ctx (a :: us) = _
   rw [k19_0x3]
   exact step_t (by simp; omega) (step_t (by simp) (step_b hnth (step_t rfl (step_b h (step_t ho (step_t rfl rfl))))))
theorem k19_end {row : Bool} {n q f : Nat} {K : St → Option (Tree × World')} {s1 ctx l : List Tree} {i : Int} {G : World'} {o k : Int} {tn : List UInt8} {tl ps us : List Tree} :
  M19 row n (Nat.succ q) K f s1 ctx l i i G o k tn tl ps us = K (S19s row f s1 ctx l i i G o k tn tl ps us) := by
 cases row with
 | false =>
  cases us with
  | nil =>
   show M19_0 n (Nat.succ q) K f s1 ctx l _ _ G o k tn tl ps = K (S19 f s1 ctx l i i false G o k tn tl ps)
   rw [k19_0]; exact step_f (by simp) rfl
  | cons a us =>
   show M19_0b n (Nat.succ q) K f s1 ctx l _ _ G o k tn tl ps (a :: us) = K (S19x1 f s1 ctx l i i false G o k tn tl ps (a :: us))
   rw [k19_0b]; exact step_f (by simp) rfl
 | true =>
  cases us with
  | nil =>
   show M19_0c n (Nat.succ q) K f s1 l _ _ G o k tn tl ps ctx = K (S19x2 f s1 l i i false G o k tn tl ps ctx)
   rw [k19_0c]; exact step_f (by simp) rfl
  | cons a us =>
   show M19_0x3 n (Nat.succ q) K f s1 l _ _ G o k tn tl ps ctx (a :: us) = K (S19x3 f s1 l i i false G o k tn tl ps ctx (a :: us))
   rw [k19_0x3]; exact step_f (by simp) rfl
end Go.Proofs.Cw.Si
end

/-
  THE INFERER'S WORLD 11: infer's parts together.
-/
section
namespace Go.Proofs.Cw.Si
open Go.Proofs
def Spec19 (f m : Nat) (ctx : List Nat) (t : Lam) : Prop := ∀ (G : World') (N : NT) (next : Nat) (es : Bd), Wok G f m N next es → (∀ i, i ∈ ctx → ∃ nd, N i = some nd) → next + 2 * sizeL t ≤ 1000000 →
 ∃ c v u G', EvW E c 19 [.wp f 0, .slc (wps ctx), encL t] G (.tup [u, .bool v]) G' ∧ ((v = false ∧ u.isSc = true ∧ Non N es ctx [t]) ∨
  (v = true ∧ ∃ i N' next' es', u = .wp i 0 ∧ Infd f m N next es ctx [t] G G' [i] N' next' es'))
theorem l19 {row : Bool} {f m : Nat} {ctx : List Nat} {s1 : List Tree} {o k : Int} {tn : List UInt8} {tl ps : List Tree} {l : List Lam} (hl : l.length ≤ 100000) : ∀ (r : List Lam) (i : Nat), (∀ t, t ∈ r → Spec19 f m ctx t) → l.drop i = r →
  ∀ (us0 : List Nat) (G : World') (N : NT) (next : Nat) (es : Bd), us0.length ≤ i → i ≤ l.length → Wok G f m N next es → (∀ i, i ∈ ctx → ∃ nd, N i = some nd) → next + 2 * sizeLs r ≤ 1000000 →
  ∃ c, (Non N es ctx r ∧ ∃ G', ∀ n q K, c ≤ n → c ≤ q → M19 row n q K f s1 (wps ctx) (encLs l) (l.length : Nat) (i : Nat) G o k tn tl ps (wps us0) = some (.tup [.nilp, .bool false], G')) ∨
   ∃ us N' next' es' G', Infd f m N next es ctx r G G' us N' next' es' ∧ us.length = r.length ∧ ∀ n q K, c ≤ n → c ≤ q → M19 row n q K f s1 (wps ctx) (encLs l) (l.length : Nat) (i : Nat) G o k tn tl ps (wps us0) =
    K (S19s row f s1 (wps ctx) (encLs l) (l.length : Nat) (l.length : Nat) G' o k tn tl ps (wps (us0 ++ us)))
 | [], i, _, hd, us0, G, N, next, es, hu, hil, w, hctx, hn => by
  have e : i = l.length := by
   have := congrArg List.length hd
   simp at this; omega
  subst e
  refine ⟨1, .inr ⟨[], N, next, es, G, Infd.refl w, rfl, fun n q K h1 h2 => ?_⟩⟩
  obtain ⟨q, rfl⟩ : ∃ p, q = Nat.succ p := ⟨q - 1, by omega⟩
  rw [k19_end, List.append_nil]
 | t :: r, i, hs, hd, us0, G, N, next, es, hu, hil, w, hctx, hn => by
  have hi : l[i]? = some t := by
   have := congrArg (·[0]?) hd
   simpa using this
  have hd2 : l.drop (i + 1) = r := by
   rw [← List.tail_drop, hd]; rfl
  have hlt : i < l.length := (List.getElem?_eq_some_iff.1 hi).1
  simp only [sizeLs] at hn
  obtain ⟨c1, v, u, G1, e, ⟨rfl, hsc, no⟩ | ⟨rfl, j, N1, next1, es1, rfl, a⟩⟩ := hs t List.mem_cons_self G N next es w hctx (by omega)
  ·refine ⟨c1 + 1, .inl ⟨no.head, G1, fun n q K h1 h2 => ?_⟩⟩
   obtain ⟨q, rfl⟩ : ∃ p, q = Nat.succ p := ⟨q - 1, by omega⟩
   exact k19_no hl hi e hsc (by omega)
  ·have hhi := a.hi
   simp only [sizeLs] at hhi
   obtain ⟨c2, h⟩ := l19 (row := row) (s1 := s1) (o := o) (k := k) (tn := tn) (tl := tl) (ps := ps) hl r (i + 1) (fun t ht => hs t (List.mem_cons_of_mem _ ht)) hd2 (us0 ++ [j]) G1 N1 next1 es1 (by simp; omega) (by omega) a.w (fun x hx => by obtain ⟨nd, hn⟩ := hctx x hx; exact ⟨nd, a.le _ _ hn⟩) (by omega)
   have step : ∀ n q K, c1 + c2 + 1 ≤ n → c1 + c2 + 1 ≤ q → ∃ p, c2 ≤ p ∧ M19 row n q K f s1 (wps ctx) (encLs l) (l.length : Nat) (i : Nat) G o k tn tl ps (wps us0) = M19 row n p K f s1 (wps ctx) (encLs l) (l.length : Nat) ((i + 1 : Nat) : Int) G1 o k tn tl ps (wps (us0 ++ [j])) := by
    intro n q K h1 h2
    obtain ⟨q, rfl⟩ : ∃ p, q = Nat.succ p := ⟨q - 1, by omega⟩
    refine ⟨q, by omega, ?_⟩
    rw [k19_ok hl hi (by rw [wps_len]; omega) e (by omega), wps_app]
    rfl
   rcases h with ⟨no, G', h⟩ | ⟨us, N', next', es', G', b, hul, h⟩
   ·refine ⟨c1 + c2 + 1, .inl ⟨Non.tail w a no, G', fun n q K h1 h2 => ?_⟩⟩
    obtain ⟨p, hp, e⟩ := step n q K h1 h2
    rw [e]; exact h n p K (by omega) hp
   ·refine ⟨c1 + c2 + 1, .inr ⟨j :: us, N', next', es', G', a.cons w hctx b, by simp [hul], fun n q K h1 h2 => ?_⟩⟩
    obtain ⟨p, hp, e⟩ := step n q K h1 h2
    rw [e, h n p K (by omega) hp, List.append_assoc]
    rfl
end Go.Proofs.Cw.Si
end

/-
  EQUATIONS of the reckoned code: printed by program.
-/
section
set_option maxRecDepth 100000
namespace Go.Proofs.Cw.Si
open Go.Proofs

def L54_0 (n q : Nat) (s0_0 : List Tree) (s1 : Int) : Option Tree := evL eQ n 54 [1, 0, 0] [q] ⟨[AV.t (Tree.ptr (Tree.agg [Tree.slc s0_0]) 0), AV.t (q4 s1)] ++ anyL 21,
 []⟩

def L53_0 (n q : Nat) (s9 : Int) (h1 : List Tree) (h200 : Int) (h201 : List UInt8) (h202 : List Tree) (h300 : Int) (h301 : List UInt8) (h302 : List Tree) : Option (AV ×
 Heap) := evLH eQ 2 n 53 [1, 1, 1, 1, 1, 1, 1, 1, 0, 1, 0] [q] ⟨[AV.href 0 0 0, AV.any, AV.any, AV.any, AV.any, AV.any, AV.any, AV.href 2 0 0, AV.href 3 0 0, AV.t (q4 s9)]
 ++ anyL 79, [q3, HObj.tre q1 h1, HObj.tre q1 [Tree.agg [q4 h200, Tree.str h201, Tree.slc h202]], HObj.tre q1 [Tree.agg [q4 h300, Tree.str h301, Tree.slc h302]]]⟩

def L53_0b (n q : Nat) (s9 : Int) (h2 : List Tree) (h300 : Int) (h301 : List UInt8) (h302 : List Tree) (h400 : Int) (h401 : List UInt8) (h402 : List Tree) : Option (AV ×
 Heap) := evLH eQ 2 n 53 [1, 1, 1, 1, 1, 1, 1, 1, 0, 1, 0] [q] ⟨[AV.href 0 0 0, AV.any, AV.any, AV.any, AV.any, AV.any, AV.any, AV.href 3 0 0, AV.href 4 0 0, AV.t (q4 s9)]
 ++ anyL 79, [HObj.mix (Sh.agg [Sh.slc]) [AV.agg [AV.hsl 2 none]], HObj.dead, HObj.tre q1 h2, HObj.tre q1 [Tree.agg [q4 h300, Tree.str h301, Tree.slc h302]], HObj.tre q1
 [Tree.agg [q4 h400, Tree.str h401, Tree.slc h402]]]⟩

def L26_0 (n q : Nat) (s0_0 : List Tree) (s1 : Int) (s2k : Nat) (s7 : Int) (h0 : List Tree) : Option (AV × Heap) := evLH eQ 1 n 26 [1, 1, 1, 1, 0, 1, 0] [q] ⟨[AV.t
 (Tree.ptr (Tree.agg [Tree.slc s0_0]) 0), AV.t (q4 s1), AV.hsl 0 (some s2k), AV.any, AV.any, AV.any, AV.any, AV.t (q4 s7)] ++ anyL 47, [HObj.tre (Sh.int IntKind.i64) h0]⟩

def L27_0 (n q : Nat) (s0_0 : List Tree) (s1 s2 s7 s8 : Int) : Option Tree := evL eQ n 27 [1, 1, 1, 0, 1, 0] [q] ⟨[AV.t (Tree.ptr (Tree.agg [Tree.slc s0_0]) 0), AV.t (q4
 s1), AV.t (q4 s2), AV.any, AV.any, AV.any, AV.any, AV.t (q4 s7), AV.t (q4 s8)] ++ anyL 40, []⟩

def L28_1 (n q : Nat) (s0_0 : List Tree) (s1 s10 : Int) (h0 : List Tree) (h100 h200 : List UInt8) : Option (AV × Heap) := evLH eQ 1 n 28 [1, 1, 1, 1, 0, 1, 0] [q] ⟨[AV.t
 (Tree.ptr (Tree.agg [Tree.slc s0_0]) 0), AV.t (q4 s1), AV.hsl 0 none, AV.any, AV.any, AV.any, AV.href 1 0 0, AV.any, AV.any, AV.href 2 0 0, AV.t (q4 s10)] ++ anyL 88,
 [HObj.tre (Sh.int IntKind.i64) h0, HObj.mix q2 [AV.agg [AV.t (Tree.str h100), AV.nilS]], HObj.mix q2 [AV.agg [AV.t (Tree.str h200), AV.nilS]]]⟩

def L28_1b (n q : Nat) (s0_0 : List Tree) (s1 s10 : Int) (h1 : List Tree) (h200 h300 : List UInt8) (h4 : List Tree) : Option (AV × Heap) := evLH eQ 1 n 28 [1, 1, 1, 1, 0,
 1, 0] [q] ⟨[AV.t (Tree.ptr (Tree.agg [Tree.slc s0_0]) 0), AV.t (q4 s1), AV.hsl 1 none, AV.any, AV.any, AV.any, AV.href 2 0 0, AV.any, AV.any, AV.href 3 0 0, AV.t (q4
 s10)] ++ anyL 88, [HObj.dead, HObj.tre (Sh.int IntKind.i64) h1, HObj.mix q2 [AV.agg [AV.t (Tree.str h200), AV.nilS]], HObj.mix q2 [AV.agg [AV.t (Tree.str h300), AV.hsl 4
 none]], HObj.tre q2 h4]⟩

def L28_0 (n q : Nat) (s1 s8 : Int) (h0 : List Tree) (h100 : List UInt8) : Option (AV × Heap) := evLH eQ 1 n 28 [1, 1, 0, 1, 0, 0, 1, 0] [q] ⟨[AV.any, AV.t (q4 s1), AV.hsl
 0 none, AV.any, AV.any, AV.any, AV.href 1 0 0, AV.any, AV.t (q4 s8)] ++ anyL 90, [HObj.tre (Sh.int IntKind.i64) h0, HObj.mix q2 [AV.agg [AV.t (Tree.str h100), AV.nilS]]]⟩

def L28_1z (n q : Nat) (s0_0 : List Tree) (s1 s10 : Int) (h000 h100 : List UInt8) : Option (AV × Heap) := evLH eQ 0 n 28 [1, 1, 1, 1, 0, 1, 0] [q] ⟨[AV.t (Tree.ptr
 (Tree.agg [Tree.slc s0_0]) 0), AV.t (q4 s1), AV.nilS, AV.any, AV.any, AV.any, AV.href 0 0 0, AV.any, AV.any, AV.href 1 0 0, AV.t (q4 s10)] ++ anyL 88, [HObj.mix q2
 [AV.agg [AV.t (Tree.str h000), AV.nilS]], HObj.mix q2 [AV.agg [AV.t (Tree.str h100), AV.nilS]]]⟩

def L28_1zb (n q : Nat) (s0_0 : List Tree) (s1 s10 : Int) (h000 h100 : List UInt8) (h2 : List Tree) : Option (AV × Heap) := evLH eQ 0 n 28 [1, 1, 1, 1, 0, 1, 0] [q] ⟨[AV.t
 (Tree.ptr (Tree.agg [Tree.slc s0_0]) 0), AV.t (q4 s1), AV.nilS, AV.any, AV.any, AV.any, AV.href 0 0 0, AV.any, AV.any, AV.href 1 0 0, AV.t (q4 s10)] ++ anyL 88, [HObj.mix
 q2 [AV.agg [AV.t (Tree.str h000), AV.nilS]], HObj.mix q2 [AV.agg [AV.t (Tree.str h100), AV.hsl 2 none]], HObj.tre q2 h2]⟩

def L28_1zc (n q : Nat) (s0_0 : List Tree) (s1 s10 : Int) (h0 : List Tree) (h100 h200 : List UInt8) (h3 : List Tree) : Option (AV × Heap) := evLH eQ 0 n 28 [1, 1, 1, 1, 0,
 1, 0] [q] ⟨[AV.t (Tree.ptr (Tree.agg [Tree.slc s0_0]) 0), AV.t (q4 s1), AV.hsl 0 none, AV.any, AV.any, AV.any, AV.href 1 0 0, AV.any, AV.any, AV.href 2 0 0, AV.t (q4
 s10)] ++ anyL 88, [HObj.tre (Sh.int IntKind.i64) h0, HObj.mix q2 [AV.agg [AV.t (Tree.str h100), AV.nilS]], HObj.mix q2 [AV.agg [AV.t (Tree.str h200), AV.hsl 3 none]],
 HObj.tre q2 h3]⟩

def L28_0z (n q : Nat) (s1 s8 : Int) (h000 : List UInt8) : Option (AV × Heap) := evLH eQ 0 n 28 [1, 1, 0, 1, 0, 0, 1, 0] [q] ⟨[AV.any, AV.t (q4 s1), AV.nilS, AV.any,
 AV.any, AV.any, AV.href 0 0 0, AV.any, AV.t (q4 s8)] ++ anyL 90, [HObj.mix q2 [AV.agg [AV.t (Tree.str h000), AV.nilS]]]⟩

def M25_0 (n q : Nat) (K : St → Option (AV × Heap)) (s1 s8 : List Tree) (s10 : Int) (h1 : List Tree) (h200 h201 : Int) (h202 : List UInt8) (h203 h204 : List Tree) : Option
 (AV × Heap) := evLK eQ 2 n 25 5 [1, 1, 1, 1, 0, 1, 0] [q] ⟨[AV.href 0 0 0, AV.t (Tree.slc s1), AV.any, AV.any, AV.any, AV.href 2 0 0, AV.any, AV.any, AV.t (Tree.slc s8),
 AV.nilS, AV.t (q4 s10)] ++ anyL 165, [q3, HObj.tre q1 h1, HObj.tre q0 [Tree.agg [q4 h200, q4 h201, Tree.str h202, Tree.slc h203, Tree.slc h204]]]⟩ (onH eQ 25 K)

def S25 (s1 s8 : List Tree) (s10 s27 : Int) (s29 : List Tree) (s30 : Int) (s31 : Bool) (h1 : List Tree) (h200 h201 : Int) (h202 : List UInt8) (h203 h204 : List Tree) : St
 := ⟨[AV.href 0 0 0, AV.t (Tree.slc s1), AV.any, AV.any, AV.any, AV.href 2 0 0, AV.any, AV.any, AV.t (Tree.slc s8), AV.nilS, AV.t (q4 s10), AV.any, AV.any, AV.any, AV.any,
 AV.any, AV.any, AV.any, AV.any, AV.any, AV.any, AV.any, AV.any, AV.any, AV.any, AV.any, AV.any, AV.t (q4 s27), AV.href 2 0 4, AV.t (Tree.slc s29), AV.t (q4 s30), AV.t
 (Tree.bool s31)] ++ anyL 144, [q3, HObj.tre q1 h1, HObj.tre q0 [Tree.agg [q4 h200, q4 h201, Tree.str h202, Tree.slc h203, Tree.slc h204]]]⟩

def M25_0b (n q : Nat) (K : St → Option (AV × Heap)) (s1 s8 : List Tree) (s10 : Int) (h2 : List Tree) (h300 h301 : Int) (h302 : List UInt8) (h303 h304 h4 : List Tree) :
 Option (AV × Heap) := evLK eQ 2 n 25 5 [1, 1, 1, 1, 0, 1, 0] [q] ⟨[AV.href 0 0 0, AV.t (Tree.slc s1), AV.any, AV.any, AV.any, AV.href 3 0 0, AV.any, AV.any, AV.t
 (Tree.slc s8), AV.hsl 4 none, AV.t (q4 s10)] ++ anyL 165, [HObj.mix (Sh.agg [Sh.slc]) [AV.agg [AV.hsl 2 none]], HObj.dead, HObj.tre q1 h2, HObj.tre q0 [Tree.agg [q4 h300,
 q4 h301, Tree.str h302, Tree.slc h303, Tree.slc h304]], HObj.tre (Sh.int IntKind.i64) h4]⟩ (onH eQ 25 K)

def S25x1 (s1 s8 : List Tree) (s10 s27 : Int) (s29 : List Tree) (s30 : Int) (s31 : Bool) (h2 : List Tree) (h300 h301 : Int) (h302 : List UInt8) (h303 h304 h4 : List Tree)
 : St := ⟨[AV.href 0 0 0, AV.t (Tree.slc s1), AV.any, AV.any, AV.any, AV.href 3 0 0, AV.any, AV.any, AV.t (Tree.slc s8), AV.hsl 4 none, AV.t (q4 s10), AV.any, AV.any,
 AV.any, AV.any, AV.any, AV.any, AV.any, AV.any, AV.any, AV.any, AV.any, AV.any, AV.any, AV.any, AV.any, AV.any, AV.t (q4 s27), AV.href 3 0 4, AV.t (Tree.slc s29), AV.t
 (q4 s30), AV.t (Tree.bool s31)] ++ anyL 144, [HObj.mix (Sh.agg [Sh.slc]) [AV.agg [AV.hsl 2 none]], HObj.dead, HObj.tre q1 h2, HObj.tre q0 [Tree.agg [q4 h300, q4 h301,
 Tree.str h302, Tree.slc h303, Tree.slc h304]], HObj.tre (Sh.int IntKind.i64) h4]⟩

def M25_0c (n q : Nat) (K : St → Option (AV × Heap)) (s1 : List Tree) (s10 : Int) (h2 : List Tree) (h300 h301 : Int) (h302 : List UInt8) (h303 h304 h4 : List Tree) :
 Option (AV × Heap) := evLK eQ 2 n 25 5 [1, 1, 1, 1, 0, 1, 0] [q] ⟨[AV.href 0 0 0, AV.t (Tree.slc s1), AV.any, AV.any, AV.any, AV.href 3 0 0, AV.any, AV.any, AV.hsl 4
 none, AV.nilS, AV.t (q4 s10)] ++ anyL 165, [HObj.mix (Sh.agg [Sh.slc]) [AV.agg [AV.hsl 2 none]], HObj.dead, HObj.tre q1 h2, HObj.tre q0 [Tree.agg [q4 h300, q4 h301,
 Tree.str h302, Tree.slc h303, Tree.slc h304]], HObj.tre (Sh.int IntKind.i64) h4]⟩ (onH eQ 25 K)

def S25x2 (s1 : List Tree) (s10 s27 : Int) (s29 : List Tree) (s30 : Int) (s31 : Bool) (h2 : List Tree) (h300 h301 : Int) (h302 : List UInt8) (h303 h304 h4 : List Tree) :
 St := ⟨[AV.href 0 0 0, AV.t (Tree.slc s1), AV.any, AV.any, AV.any, AV.href 3 0 0, AV.any, AV.any, AV.hsl 4 none, AV.nilS, AV.t (q4 s10), AV.any, AV.any, AV.any, AV.any,
 AV.any, AV.any, AV.any, AV.any, AV.any, AV.any, AV.any, AV.any, AV.any, AV.any, AV.any, AV.any, AV.t (q4 s27), AV.href 3 0 4, AV.t (Tree.slc s29), AV.t (q4 s30), AV.t
 (Tree.bool s31)] ++ anyL 144, [HObj.mix (Sh.agg [Sh.slc]) [AV.agg [AV.hsl 2 none]], HObj.dead, HObj.tre q1 h2, HObj.tre q0 [Tree.agg [q4 h300, q4 h301, Tree.str h302,
 Tree.slc h303, Tree.slc h304]], HObj.tre (Sh.int IntKind.i64) h4]⟩

def M25_0x3 (n q : Nat) (K : St → Option (AV × Heap)) (s1 : List Tree) (s10 : Int) (h2 : List Tree) (h300 h301 : Int) (h302 : List UInt8) (h303 h304 h4 h5 : List Tree) :
 Option (AV × Heap) := evLK eQ 2 n 25 5 [1, 1, 1, 1, 0, 1, 0] [q] ⟨[AV.href 0 0 0, AV.t (Tree.slc s1), AV.any, AV.any, AV.any, AV.href 3 0 0, AV.any, AV.any, AV.hsl 4
 none, AV.hsl 5 none, AV.t (q4 s10)] ++ anyL 165, [HObj.mix (Sh.agg [Sh.slc]) [AV.agg [AV.hsl 2 none]], HObj.dead, HObj.tre q1 h2, HObj.tre q0 [Tree.agg [q4 h300, q4 h301,
 Tree.str h302, Tree.slc h303, Tree.slc h304]], HObj.froz (Sh.int IntKind.i64) h4, HObj.tre (Sh.int IntKind.i64) h5]⟩ (onH eQ 25 K)

def S25x3 (s1 : List Tree) (s10 s27 : Int) (s29 : List Tree) (s30 : Int) (s31 : Bool) (h2 : List Tree) (h300 h301 : Int) (h302 : List UInt8) (h303 h304 h4 h5 : List Tree)
 : St := ⟨[AV.href 0 0 0, AV.t (Tree.slc s1), AV.any, AV.any, AV.any, AV.href 3 0 0, AV.any, AV.any, AV.hsl 4 none, AV.hsl 5 none, AV.t (q4 s10), AV.any, AV.any, AV.any,
 AV.any, AV.any, AV.any, AV.any, AV.any, AV.any, AV.any, AV.any, AV.any, AV.any, AV.any, AV.any, AV.any, AV.t (q4 s27), AV.href 3 0 4, AV.t (Tree.slc s29), AV.t (q4 s30),
 AV.t (Tree.bool s31)] ++ anyL 144, [HObj.mix (Sh.agg [Sh.slc]) [AV.agg [AV.hsl 2 none]], HObj.dead, HObj.tre q1 h2, HObj.tre q0 [Tree.agg [q4 h300, q4 h301, Tree.str
 h302, Tree.slc h303, Tree.slc h304]], HObj.froz (Sh.int IntKind.i64) h4, HObj.tre (Sh.int IntKind.i64) h5]⟩

def M25_0z (n q : Nat) (K : St → Option (AV × Heap)) (s1 s8 : List Tree) (s10 h100 h101 : Int) (h102 : List UInt8) (h103 h104 : List Tree) : Option (AV × Heap) := evLK eQ
 1 n 25 5 [1, 1, 1, 1, 0, 1, 0] [q] ⟨[AV.href 0 0 0, AV.t (Tree.slc s1), AV.any, AV.any, AV.any, AV.href 1 0 0, AV.any, AV.any, AV.t (Tree.slc s8), AV.nilS, AV.t (q4 s10)]
 ++ anyL 165, [HObj.mix (Sh.agg [Sh.slc]) [AV.agg [AV.nilS]], HObj.tre q0 [Tree.agg [q4 h100, q4 h101, Tree.str h102, Tree.slc h103, Tree.slc h104]]]⟩ (onH eQ 25 K)

def S25z (s1 s8 : List Tree) (s10 s27 : Int) (s29 : List Tree) (s30 : Int) (s31 : Bool) (h100 h101 : Int) (h102 : List UInt8) (h103 h104 : List Tree) : St := ⟨[AV.href 0 0
 0, AV.t (Tree.slc s1), AV.any, AV.any, AV.any, AV.href 1 0 0, AV.any, AV.any, AV.t (Tree.slc s8), AV.nilS, AV.t (q4 s10), AV.any, AV.any, AV.any, AV.any, AV.any, AV.any,
 AV.any, AV.any, AV.any, AV.any, AV.any, AV.any, AV.any, AV.any, AV.any, AV.any, AV.t (q4 s27), AV.href 1 0 4, AV.t (Tree.slc s29), AV.t (q4 s30), AV.t (Tree.bool s31)] ++
 anyL 144, [HObj.mix (Sh.agg [Sh.slc]) [AV.agg [AV.nilS]], HObj.tre q0 [Tree.agg [q4 h100, q4 h101, Tree.str h102, Tree.slc h103, Tree.slc h104]]]⟩

def M25_0zb (n q : Nat) (K : St → Option (AV × Heap)) (s1 s8 : List Tree) (s10 : Int) (h1 : List Tree) (h200 h201 : Int) (h202 : List UInt8) (h203 h204 h3 : List Tree) :
 Option (AV × Heap) := evLK eQ 1 n 25 5 [1, 1, 1, 1, 0, 1, 0] [q] ⟨[AV.href 0 0 0, AV.t (Tree.slc s1), AV.any, AV.any, AV.any, AV.href 2 0 0, AV.any, AV.any, AV.t
 (Tree.slc s8), AV.hsl 3 none, AV.t (q4 s10)] ++ anyL 165, [q3, HObj.tre q1 h1, HObj.tre q0 [Tree.agg [q4 h200, q4 h201, Tree.str h202, Tree.slc h203, Tree.slc h204]],
 HObj.tre (Sh.int IntKind.i64) h3]⟩ (onH eQ 25 K)

def S25zx1 (s1 s8 : List Tree) (s10 s27 : Int) (s29 : List Tree) (s30 : Int) (s31 : Bool) (h1 : List Tree) (h200 h201 : Int) (h202 : List UInt8) (h203 h204 h3 : List Tree)
 : St := ⟨[AV.href 0 0 0, AV.t (Tree.slc s1), AV.any, AV.any, AV.any, AV.href 2 0 0, AV.any, AV.any, AV.t (Tree.slc s8), AV.hsl 3 none, AV.t (q4 s10), AV.any, AV.any,
 AV.any, AV.any, AV.any, AV.any, AV.any, AV.any, AV.any, AV.any, AV.any, AV.any, AV.any, AV.any, AV.any, AV.any, AV.t (q4 s27), AV.href 2 0 4, AV.t (Tree.slc s29), AV.t
 (q4 s30), AV.t (Tree.bool s31)] ++ anyL 144, [q3, HObj.tre q1 h1, HObj.tre q0 [Tree.agg [q4 h200, q4 h201, Tree.str h202, Tree.slc h203, Tree.slc h204]], HObj.tre (Sh.int
 IntKind.i64) h3]⟩

def M25_0zc (n q : Nat) (K : St → Option (AV × Heap)) (s1 : List Tree) (s10 : Int) (h1 : List Tree) (h200 h201 : Int) (h202 : List UInt8) (h203 h204 h3 : List Tree) :
 Option (AV × Heap) := evLK eQ 1 n 25 5 [1, 1, 1, 1, 0, 1, 0] [q] ⟨[AV.href 0 0 0, AV.t (Tree.slc s1), AV.any, AV.any, AV.any, AV.href 2 0 0, AV.any, AV.any, AV.hsl 3
 none, AV.nilS, AV.t (q4 s10)] ++ anyL 165, [q3, HObj.tre q1 h1, HObj.tre q0 [Tree.agg [q4 h200, q4 h201, Tree.str h202, Tree.slc h203, Tree.slc h204]], HObj.tre (Sh.int
 IntKind.i64) h3]⟩ (onH eQ 25 K)

def S25zx2 (s1 : List Tree) (s10 s27 : Int) (s29 : List Tree) (s30 : Int) (s31 : Bool) (h1 : List Tree) (h200 h201 : Int) (h202 : List UInt8) (h203 h204 h3 : List Tree) :
 St := ⟨[AV.href 0 0 0, AV.t (Tree.slc s1), AV.any, AV.any, AV.any, AV.href 2 0 0, AV.any, AV.any, AV.hsl 3 none, AV.nilS, AV.t (q4 s10), AV.any, AV.any, AV.any, AV.any,
 AV.any, AV.any, AV.any, AV.any, AV.any, AV.any, AV.any, AV.any, AV.any, AV.any, AV.any, AV.any, AV.t (q4 s27), AV.href 2 0 4, AV.t (Tree.slc s29), AV.t (q4 s30), AV.t
 (Tree.bool s31)] ++ anyL 144, [q3, HObj.tre q1 h1, HObj.tre q0 [Tree.agg [q4 h200, q4 h201, Tree.str h202, Tree.slc h203, Tree.slc h204]], HObj.tre (Sh.int IntKind.i64)
 h3]⟩

def M25_0zx3 (n q : Nat) (K : St → Option (AV × Heap)) (s1 : List Tree) (s10 : Int) (h1 : List Tree) (h200 h201 : Int) (h202 : List UInt8) (h203 h204 h3 h4 : List Tree) :
 Option (AV × Heap) := evLK eQ 1 n 25 5 [1, 1, 1, 1, 0, 1, 0] [q] ⟨[AV.href 0 0 0, AV.t (Tree.slc s1), AV.any, AV.any, AV.any, AV.href 2 0 0, AV.any, AV.any, AV.hsl 3
 none, AV.hsl 4 none, AV.t (q4 s10)] ++ anyL 165, [q3, HObj.tre q1 h1, HObj.tre q0 [Tree.agg [q4 h200, q4 h201, Tree.str h202, Tree.slc h203, Tree.slc h204]], HObj.froz
 (Sh.int IntKind.i64) h3, HObj.tre (Sh.int IntKind.i64) h4]⟩ (onH eQ 25 K)

def S25zx3 (s1 : List Tree) (s10 s27 : Int) (s29 : List Tree) (s30 : Int) (s31 : Bool) (h1 : List Tree) (h200 h201 : Int) (h202 : List UInt8) (h203 h204 h3 h4 : List Tree)
 : St := ⟨[AV.href 0 0 0, AV.t (Tree.slc s1), AV.any, AV.any, AV.any, AV.href 2 0 0, AV.any, AV.any, AV.hsl 3 none, AV.hsl 4 none, AV.t (q4 s10), AV.any, AV.any, AV.any,
 AV.any, AV.any, AV.any, AV.any, AV.any, AV.any, AV.any, AV.any, AV.any, AV.any, AV.any, AV.any, AV.any, AV.t (q4 s27), AV.href 2 0 4, AV.t (Tree.slc s29), AV.t (q4 s30),
 AV.t (Tree.bool s31)] ++ anyL 144, [q3, HObj.tre q1 h1, HObj.tre q0 [Tree.agg [q4 h200, q4 h201, Tree.str h202, Tree.slc h203, Tree.slc h204]], HObj.froz (Sh.int
 IntKind.i64) h3, HObj.tre (Sh.int IntKind.i64) h4]⟩

def L7_0 (n q : Nat) (s5 : Int) (s7k : Nat) (s8 : Int) (h000 : List UInt8) (h2 h3 : List Tree) : Option Tree := evL eQ n 7 [1, 1, 1, 1, 1, 1, 0, 1, 0] [q] ⟨[AV.any,
 AV.any, AV.href 0 0 0, AV.any, AV.href 1 0 0, AV.t (q4 s5), AV.any, AV.hsl 3 (some s7k), AV.t (q4 s8)] ++ anyL 61, [HObj.mix q2 [AV.agg [AV.t (Tree.str h000), AV.nilS]],
 HObj.mix (Sh.agg [Sh.slc]) [AV.agg [AV.hsl 2 none]], HObj.tre q1 h2, HObj.tre (Sh.int IntKind.i64) h3]⟩

def L7_0b (n q : Nat) (s5 : Int) (s7k : Nat) (s8 : Int) (h000 : List UInt8) (h100 h2 : List Tree) : Option Tree := evL eQ n 7 [1, 1, 1, 1, 1, 1, 0, 1, 0] [q] ⟨[AV.any,
 AV.any, AV.href 0 0 0, AV.any, AV.href 1 0 0, AV.t (q4 s5), AV.any, AV.hsl 2 (some s7k), AV.t (q4 s8)] ++ anyL 61, [HObj.mix q2 [AV.agg [AV.t (Tree.str h000), AV.nilS]],
 HObj.froz (Sh.agg [Sh.slc]) [Tree.agg [Tree.slc h100]], HObj.tre (Sh.int IntKind.i64) h2]⟩

theorem r52 (n : Nat) (rows : List Tree) (s : List UInt8) (l : List Tree) : evR eQ n 52 [AV.href 0 0 0, AV.t (Tree.str s), AV.t (Tree.slc l)] [q3, HObj.tre q1 rows] = bif
 true && Nat.ble ((List.length rows + 1) * 48) 140737488355328 then some (AV.t (q4 (IntKind.wrap IntKind.i64 ((↑(List.length (rows ++ [Tree.agg [q4 (-1), Tree.str s,
 Tree.slc l]])) : Int) - 1))), [HObj.mix (Sh.agg [Sh.slc]) [AV.agg [AV.hsl 3 none]], HObj.dead, HObj.tre q1 [Tree.agg [q4 (-1), Tree.str s, Tree.slc l]], HObj.tre q1 (rows
 ++ [Tree.agg [q4 (-1), Tree.str s, Tree.slc l]])]) else none := by kernel_rfl

theorem r52z (n : Nat) (s : List UInt8) (l : List Tree) : evR eQ n 52 [AV.href 0 0 0, AV.t (Tree.str s), AV.t (Tree.slc l)] [HObj.mix (Sh.agg [Sh.slc]) [AV.agg [AV.nilS]]]
 = some (AV.t (q4 (IntKind.wrap IntKind.i64 ((↑1 : Int) - 1))), [HObj.mix (Sh.agg [Sh.slc]) [AV.agg [AV.hsl 2 none]], HObj.tre q1 [Tree.agg [q4 (-1), Tree.str s, Tree.slc
 l]], HObj.tre q1 [Tree.agg [q4 (-1), Tree.str s, Tree.slc l]]]) := by kernel_rfl

theorem e54 (n : Nat) (rows : List Tree) (i : Int) : evQ eQ n 54 [Tree.ptr (Tree.agg [Tree.slc rows]) 0, q4 i] = L54_0 n n rows i := by kernel_rfl

theorem l54_0 (n q : Nat) (s0_0 : List Tree) (s1 : Int) : L54_0 n (Nat.succ q) s0_0 s1 = bif decide (0 ≤ s1) then Option.bind (nth s0_0 (Int.toNat s1)) fun y => bif Sh.ok
 q1 y then bif decide (Tree.toInt (q6 (Tree.cs y)) ≥ 0) then bif decide (0 ≤ s1) then Option.bind (nth s0_0 (Int.toNat s1)) fun y => bif Sh.ok q1 y then L54_0 n q s0_0
 (Tree.toInt (q6 (Tree.cs y))) else none else none else some (q4 s1) else none else none := by kernel_rfl

theorem r53 (n : Nat) (rows : List Tree) (a b : Int) : evR eQ n 53 [AV.href 0 0 0, AV.t (q4 a), AV.t (q4 b)] [q3, HObj.tre q1 rows] = Option.bind (evP eQ n 54 [Tree.ptr
 (Tree.agg [Tree.slc rows]) 0, q4 a]) fun y => bif q8 y then Option.bind (evP eQ n 54 [Tree.ptr (Tree.agg [Tree.slc rows]) 0, q4 b]) fun y_1 => bif q8 y_1 then bif
 Tree.toInt y == Tree.toInt y_1 then some (AV.t (Tree.bool true), [q3, HObj.tre q1 rows]) else bif decide (0 ≤ Tree.toInt y) && (decide (Tree.toInt y < (↑(List.length
 rows) : Int)) && true) then Option.bind (nth rows (Int.toNat (Tree.toInt y))) fun y_2 => bif Sh.ok q1 y_2 then bif decide (0 ≤ Tree.toInt y_1) && (decide (Tree.toInt y_1
 < (↑(List.length rows) : Int)) && true) then Option.bind (nth rows (Int.toNat (Tree.toInt y_1))) fun y_3 => bif Sh.ok q1 y_3 then bif Tree.toStr (q6 (List.tail (Tree.cs
 y_2))) == [] then bif decide (0 ≤ Tree.toInt y) && (decide (Tree.toInt y < (↑(List.length rows) : Int)) && true) then Option.bind (nth rows (Int.toNat (Tree.toInt y)))
 fun y_4 => bif Sh.ok q1 y_4 then some (AV.t (Tree.bool true), [q3, HObj.tre q1 (setN rows (Int.toNat (Tree.toInt y)) (Tree.agg [q4 (Tree.toInt y_1), Tree.str (Tree.toStr
 (q6 (List.tail (Tree.cs y_4)))), Tree.slc (Tree.elems (q6 (List.tail (List.tail (Tree.cs y_4)))))])), HObj.tre q1 [Tree.agg [q4 (Tree.toInt (q6 (Tree.cs y_2))), Tree.str
 (Tree.toStr (q6 (List.tail (Tree.cs y_2)))), Tree.slc (Tree.elems (q6 (List.tail (List.tail (Tree.cs y_2)))))]], HObj.tre q1 [Tree.agg [q4 (Tree.toInt (q6 (Tree.cs
 y_3))), Tree.str (Tree.toStr (q6 (List.tail (Tree.cs y_3)))), Tree.slc (Tree.elems (q6 (List.tail (List.tail (Tree.cs y_3)))))]]]) else none else none else bif decide (0
 ≤ Tree.toInt y_1) && (decide (Tree.toInt y_1 < (↑(List.length rows) : Int)) && true) then Option.bind (nth rows (Int.toNat (Tree.toInt y_1))) fun y_4 => bif Sh.ok q1 y_4
 then bif Tree.toStr (q6 (List.tail (Tree.cs y_3))) == [] then some (AV.t (Tree.bool true), [q3, HObj.tre q1 (setN rows (Int.toNat (Tree.toInt y_1)) (Tree.agg [q4
 (Tree.toInt y), Tree.str (Tree.toStr (q6 (List.tail (Tree.cs y_4)))), Tree.slc (Tree.elems (q6 (List.tail (List.tail (Tree.cs y_4)))))])), HObj.tre q1 [Tree.agg [q4
 (Tree.toInt (q6 (Tree.cs y_2))), Tree.str (Tree.toStr (q6 (List.tail (Tree.cs y_2)))), Tree.slc (Tree.elems (q6 (List.tail (List.tail (Tree.cs y_2)))))]], HObj.tre q1
 [Tree.agg [q4 (Tree.toInt (q6 (Tree.cs y_3))), Tree.str (Tree.toStr (q6 (List.tail (Tree.cs y_3)))), Tree.slc (Tree.elems (q6 (List.tail (List.tail (Tree.cs y_3)))))]]])
 else bif !Tree.toStr (q6 (List.tail (Tree.cs y_2))) == Tree.toStr (q6 (List.tail (Tree.cs y_3))) then some (AV.t (Tree.bool false), [q3, HObj.tre q1 (setN rows (Int.toNat
 (Tree.toInt y_1)) (Tree.agg [q4 (Tree.toInt y), Tree.str (Tree.toStr (q6 (List.tail (Tree.cs y_4)))), Tree.slc (Tree.elems (q6 (List.tail (List.tail (Tree.cs y_4)))))])),
 HObj.tre q1 [Tree.agg [q4 (Tree.toInt (q6 (Tree.cs y_2))), Tree.str (Tree.toStr (q6 (List.tail (Tree.cs y_2)))), Tree.slc (Tree.elems (q6 (List.tail (List.tail (Tree.cs
 y_2)))))]], HObj.tre q1 [Tree.agg [q4 (Tree.toInt (q6 (Tree.cs y_3))), Tree.str (Tree.toStr (q6 (List.tail (Tree.cs y_3)))), Tree.slc (Tree.elems (q6 (List.tail
 (List.tail (Tree.cs y_3)))))]]]) else bif (↑(List.length (Tree.elems (q6 (List.tail (List.tail (Tree.cs y_2)))))) : Int) != (↑(List.length (Tree.elems (q6 (List.tail
 (List.tail (Tree.cs y_3)))))) : Int) then some (AV.t (Tree.bool false), [q3, HObj.tre q1 (setN rows (Int.toNat (Tree.toInt y_1)) (Tree.agg [q4 (Tree.toInt y), Tree.str
 (Tree.toStr (q6 (List.tail (Tree.cs y_4)))), Tree.slc (Tree.elems (q6 (List.tail (List.tail (Tree.cs y_4)))))])), HObj.tre q1 [Tree.agg [q4 (Tree.toInt (q6 (Tree.cs
 y_2))), Tree.str (Tree.toStr (q6 (List.tail (Tree.cs y_2)))), Tree.slc (Tree.elems (q6 (List.tail (List.tail (Tree.cs y_2)))))]], HObj.tre q1 [Tree.agg [q4 (Tree.toInt
 (q6 (Tree.cs y_3))), Tree.str (Tree.toStr (q6 (List.tail (Tree.cs y_3)))), Tree.slc (Tree.elems (q6 (List.tail (List.tail (Tree.cs y_3)))))]]]) else L53_0 n n 0 (setN
 rows (Int.toNat (Tree.toInt y_1)) (Tree.agg [q4 (Tree.toInt y), Tree.str (Tree.toStr (q6 (List.tail (Tree.cs y_4)))), Tree.slc (Tree.elems (q6 (List.tail (List.tail
 (Tree.cs y_4)))))])) (Tree.toInt (q6 (Tree.cs y_2))) (Tree.toStr (q6 (List.tail (Tree.cs y_2)))) (Tree.elems (q6 (List.tail (List.tail (Tree.cs y_2))))) (Tree.toInt (q6
 (Tree.cs y_3))) (Tree.toStr (q6 (List.tail (Tree.cs y_3)))) (Tree.elems (q6 (List.tail (List.tail (Tree.cs y_3))))) else none else none else none else none else none else
 none else none else none := by kernel_rfl

theorem m53_0 (n q : Nat) (s9 : Int) (h1 : List Tree) (h200 : Int) (h201 : List UInt8) (h202 : List Tree) (h300 : Int) (h301 : List UInt8) (h302 : List Tree) : L53_0 n
 (Nat.succ q) s9 h1 h200 h201 h202 h300 h301 h302 = bif decide (s9 < (↑(List.length h202) : Int)) then bif decide (0 ≤ s9) then Option.bind (nth h202 (Int.toNat s9)) fun y
 => bif q8 y then bif decide (0 ≤ s9) then Option.bind (nth h302 (Int.toNat s9)) fun y_1 => bif q8 y_1 then Option.bind (runFn eQ n 53 [AV.href 0 0 0, AV.t (q4 (Tree.toInt
 y)), AV.t (q4 (Tree.toInt y_1))] [q3, HObj.tre q1 h1]) fun y => bif true && (isT Sh.bool (Prod.fst y) && q7 (Prod.snd y)) then bif !Tree.toBool (avT (Prod.fst y)) then
 some (AV.t (Tree.bool false), [HObj.mix (Sh.agg [Sh.slc]) [AV.agg [AV.hsl 4 none]], HObj.dead, HObj.tre q1 [Tree.agg [q4 h200, Tree.str h201, Tree.slc h202]], HObj.tre q1
 [Tree.agg [q4 h300, Tree.str h301, Tree.slc h302]], HObj.tre q1 (gRow (Prod.snd y))]) else L53_0b n q (IntKind.wrap IntKind.i64 (s9 + 1)) (gRow (Prod.snd y)) h200 h201
 h202 h300 h301 h302 else none else none else none else none else none else some (AV.t (Tree.bool true), [q3, HObj.tre q1 h1, HObj.tre q1 [Tree.agg [q4 h200, Tree.str
 h201, Tree.slc h202]], HObj.tre q1 [Tree.agg [q4 h300, Tree.str h301, Tree.slc h302]]]) := by kernel_rfl

theorem m53_0b (n q : Nat) (s9 : Int) (h2 : List Tree) (h300 : Int) (h301 : List UInt8) (h302 : List Tree) (h400 : Int) (h401 : List UInt8) (h402 : List Tree) : L53_0b n
 (Nat.succ q) s9 h2 h300 h301 h302 h400 h401 h402 = bif decide (s9 < (↑(List.length h302) : Int)) then bif decide (0 ≤ s9) then Option.bind (nth h302 (Int.toNat s9)) fun y
 => bif q8 y then bif decide (0 ≤ s9) then Option.bind (nth h402 (Int.toNat s9)) fun y_1 => bif q8 y_1 then Option.bind (runFn eQ n 53 [AV.href 0 0 0, AV.t (q4 (Tree.toInt
 y)), AV.t (q4 (Tree.toInt y_1))] [q3, HObj.tre q1 h2]) fun y => bif true && (isT Sh.bool (Prod.fst y) && q7 (Prod.snd y)) then bif !Tree.toBool (avT (Prod.fst y)) then
 some (AV.t (Tree.bool false), [HObj.mix (Sh.agg [Sh.slc]) [AV.agg [AV.hsl 5 none]], HObj.dead, HObj.dead, HObj.tre q1 [Tree.agg [q4 h300, Tree.str h301, Tree.slc h302]],
 HObj.tre q1 [Tree.agg [q4 h400, Tree.str h401, Tree.slc h402]], HObj.tre q1 (gRow (Prod.snd y))]) else L53_0b n q (IntKind.wrap IntKind.i64 (s9 + 1)) (gRow (Prod.snd y))
 h300 h301 h302 h400 h401 h402 else none else none else none else none else none else some (AV.t (Tree.bool true), [HObj.mix (Sh.agg [Sh.slc]) [AV.agg [AV.hsl 2 none]],
 HObj.dead, HObj.tre q1 h2, HObj.tre q1 [Tree.agg [q4 h300, Tree.str h301, Tree.slc h302]], HObj.tre q1 [Tree.agg [q4 h400, Tree.str h401, Tree.slc h402]]]) := by
 kernel_rfl

theorem r26 (n : Nat) (rows marks : List Tree) (i : Int) (c : Nat) : evR eQ n 26 [AV.t (Tree.ptr (Tree.agg [Tree.slc rows]) 0), AV.t (q4 i), AV.hsl 0 (some c)] [HObj.tre
 (Sh.int IntKind.i64) marks] = Option.bind (evP eQ n 54 [Tree.ptr (Tree.agg [Tree.slc rows]) 0, q4 i]) fun y => bif q8 y then bif decide (0 ≤ Tree.toInt y) && (decide
 (Tree.toInt y < (↑(List.length marks) : Int)) && true) then Option.bind (nth marks (Int.toNat (Tree.toInt y))) fun y_1 => bif q8 y_1 then bif Tree.toInt y_1 != 0 then bif
 decide (0 ≤ Tree.toInt y) && (decide (Tree.toInt y < (↑(List.length marks) : Int)) && true) then Option.bind (nth marks (Int.toNat (Tree.toInt y))) fun y => bif q8 y then
 some (AV.t (Tree.bool (Tree.toInt y == 2)), [HObj.tre (Sh.int IntKind.i64) marks]) else none else none else bif decide (0 ≤ Tree.toInt y) && (decide (Tree.toInt y <
 (↑(List.length marks) : Int)) && true) then Option.bind (nth marks (Int.toNat (Tree.toInt y))) fun y_2 => bif q8 y_2 then L26_0 n n rows (Tree.toInt y) c 0 (setN marks
 (Int.toNat (Tree.toInt y)) (q4 1)) else none else none else none else none else none := by kernel_rfl

theorem m26_0 (n q : Nat) (s0_0 : List Tree) (s1 : Int) (s2k : Nat) (s7 : Int) (h0 : List Tree) : L26_0 n (Nat.succ q) s0_0 s1 s2k s7 h0 = bif decide (0 ≤ s1) then
 Option.bind (nth s0_0 (Int.toNat s1)) fun y => bif Sh.ok q1 y then bif decide (s7 < (↑(List.length (Tree.elems (q6 (List.tail (List.tail (Tree.cs y)))))) : Int)) then bif
 decide (0 ≤ s1) then Option.bind (nth s0_0 (Int.toNat s1)) fun y => bif Sh.ok q1 y then bif decide (0 ≤ s7) then Option.bind (nth (Tree.elems (q6 (List.tail (List.tail
 (Tree.cs y))))) (Int.toNat s7)) fun y => bif q8 y then Option.bind (runFn eQ n 26 [AV.t (Tree.ptr (Tree.agg [Tree.slc s0_0]) 0), AV.t (q4 (Tree.toInt y)), AV.hsl 0 (some
 s2k)] [HObj.tre (Sh.int IntKind.i64) h0]) fun y => bif true && (isT Sh.bool (Prod.fst y) && mForm (Sh.int IntKind.i64) (Prod.snd y)) then bif !Tree.toBool (avT (Prod.fst
 y)) then some (AV.t (Tree.bool false), [HObj.tre (Sh.int IntKind.i64) (mRow (Prod.snd y))]) else L26_0 n q s0_0 s1 s2k (IntKind.wrap IntKind.i64 (s7 + 1)) (mRow (Prod.snd
 y)) else none else none else none else none else none else bif decide (0 ≤ s1) && (decide (s1 < (↑(List.length h0) : Int)) && true) then Option.bind (nth h0 (Int.toNat
 s1)) fun y => bif q8 y then some (AV.t (Tree.bool true), [HObj.tre (Sh.int IntKind.i64) (setN h0 (Int.toNat s1) (q4 2))]) else none else none else none else none := by
 kernel_rfl

theorem e27 (n : Nat) (rows : List Tree) (i m : Int) : evQ eQ n 27 [Tree.ptr (Tree.agg [Tree.slc rows]) 0, q4 i, q4 m] = Option.bind (evP eQ n 54 [Tree.ptr (Tree.agg
 [Tree.slc rows]) 0, q4 i]) fun y => bif q8 y then L27_0 n n rows (Tree.toInt y) m 1 0 else none := by kernel_rfl

theorem l27_0 (n q : Nat) (s0_0 : List Tree) (s1 s2 s7 s8 : Int) : L27_0 n (Nat.succ q) s0_0 s1 s2 s7 s8 = bif decide (0 ≤ s1) then Option.bind (nth s0_0 (Int.toNat s1))
 fun y => bif Sh.ok q1 y then bif decide (s8 < (↑(List.length (Tree.elems (q6 (List.tail (List.tail (Tree.cs y)))))) : Int)) then bif decide (s7 ≤ s2) then bif decide (0 ≤
 s1) then Option.bind (nth s0_0 (Int.toNat s1)) fun y => bif Sh.ok q1 y then bif decide (0 ≤ s8) then Option.bind (nth (Tree.elems (q6 (List.tail (List.tail (Tree.cs
 y))))) (Int.toNat s8)) fun y => bif q8 y then Option.bind (evP eQ n 27 [Tree.ptr (Tree.agg [Tree.slc s0_0]) 0, q4 (Tree.toInt y), q4 (IntKind.wrap IntKind.i64 (s2 -
 s7))]) fun y => bif q8 y then L27_0 n q s0_0 s1 s2 (IntKind.wrap IntKind.i64 (s7 + Tree.toInt y)) (IntKind.wrap IntKind.i64 (s8 + 1)) else none else none else none else
 none else none else some (q4 s7) else some (q4 s7) else none else none := by kernel_rfl

theorem r28 (n : Nat) (rows names : List Tree) (i : Int) : evR eQ n 28 [AV.t (Tree.ptr (Tree.agg [Tree.slc rows]) 0), AV.t (q4 i), AV.hsl 0 none] [HObj.tre (Sh.int
 IntKind.i64) names] = Option.bind (evP eQ n 54 [Tree.ptr (Tree.agg [Tree.slc rows]) 0, q4 i]) fun y => bif q8 y then bif decide (0 ≤ Tree.toInt y) then Option.bind (nth
 rows (Int.toNat (Tree.toInt y))) fun y_1 => bif Sh.ok q1 y_1 then bif Tree.toStr (q6 (List.tail (Tree.cs y_1))) == [] then L28_0 n n (Tree.toInt y) 0 names [] else bif
 decide (0 ≤ Tree.toInt y) then Option.bind (nth rows (Int.toNat (Tree.toInt y))) fun y_2 => bif Sh.ok q1 y_2 then L28_1 n n rows (Tree.toInt y) 0 names [] (Tree.toStr (q6
 (List.tail (Tree.cs y_2)))) else none else none else none else none else none := by kernel_rfl

theorem m28_1 (n q : Nat) (s0_0 : List Tree) (s1 s10 : Int) (h0 : List Tree) (h100 h200 : List UInt8) : L28_1 n (Nat.succ q) s0_0 s1 s10 h0 h100 h200 = bif decide (0 ≤ s1)
 then Option.bind (nth s0_0 (Int.toNat s1)) fun y => bif Sh.ok q1 y then bif decide (s10 < (↑(List.length (Tree.elems (q6 (List.tail (List.tail (Tree.cs y)))))) : Int))
 then bif decide (0 ≤ s1) then Option.bind (nth s0_0 (Int.toNat s1)) fun y => bif Sh.ok q1 y then bif decide (0 ≤ s10) then Option.bind (nth (Tree.elems (q6 (List.tail
 (List.tail (Tree.cs y))))) (Int.toNat s10)) fun y => bif q8 y then Option.bind (runFn eQ n 28 [AV.t (Tree.ptr (Tree.agg [Tree.slc s0_0]) 0), AV.t (q4 (Tree.toInt y)),
 AV.hsl 0 none] [HObj.tre (Sh.int IntKind.i64) h0]) fun y => bif nForm q2 (Sh.int IntKind.i64) (Prod.fst y) (Prod.snd y) then L28_1b n q s0_0 s1 (IntKind.wrap IntKind.i64
 (s10 + 1)) (nRow q2 (Sh.int IntKind.i64) (Prod.fst y) (Prod.snd y)) h100 h200 [tQ' (nTy q2 (Sh.int IntKind.i64) (Prod.fst y) (Prod.snd y))] else bif nNil q2 (Sh.int
 IntKind.i64) (Prod.fst y) (Prod.snd y) && false then none else none else none else none else none else none else some (AV.tup [AV.agg [AV.t (Tree.str h200), AV.nilS],
 AV.hsl 0 none], [HObj.tre (Sh.int IntKind.i64) h0, HObj.mix q2 [AV.agg [AV.t (Tree.str h200), AV.nilS]], HObj.mix q2 [AV.agg [AV.t (Tree.str h200), AV.nilS]]]) else none
 else none := by kernel_rfl

theorem m28_1b (n q : Nat) (s0_0 : List Tree) (s1 s10 : Int) (h1 : List Tree) (h200 h300 : List UInt8) (h4 : List Tree) : L28_1b n (Nat.succ q) s0_0 s1 s10 h1 h200 h300 h4
 = bif decide (0 ≤ s1) then Option.bind (nth s0_0 (Int.toNat s1)) fun y => bif Sh.ok q1 y then bif decide (s10 < (↑(List.length (Tree.elems (q6 (List.tail (List.tail
 (Tree.cs y)))))) : Int)) then bif decide (0 ≤ s1) then Option.bind (nth s0_0 (Int.toNat s1)) fun y => bif Sh.ok q1 y then bif decide (0 ≤ s10) then Option.bind (nth
 (Tree.elems (q6 (List.tail (List.tail (Tree.cs y))))) (Int.toNat s10)) fun y => bif q8 y then Option.bind (runFn eQ n 28 [AV.t (Tree.ptr (Tree.agg [Tree.slc s0_0]) 0),
 AV.t (q4 (Tree.toInt y)), AV.hsl 0 none] [HObj.tre (Sh.int IntKind.i64) h1]) fun y => bif nForm q2 (Sh.int IntKind.i64) (Prod.fst y) (Prod.snd y) then bif true && Nat.ble
 ((List.length h4 + 1) * 40) 140737488355328 then L28_1b n q s0_0 s1 (IntKind.wrap IntKind.i64 (s10 + 1)) (nRow q2 (Sh.int IntKind.i64) (Prod.fst y) (Prod.snd y)) h200
 h300 (h4 ++ [tQ' (nTy q2 (Sh.int IntKind.i64) (Prod.fst y) (Prod.snd y))]) else none else bif nNil q2 (Sh.int IntKind.i64) (Prod.fst y) (Prod.snd y) && false then none
 else none else none else none else none else none else some (AV.tup [AV.agg [AV.t (Tree.str h300), AV.hsl 4 none], AV.hsl 1 none], [HObj.dead, HObj.tre (Sh.int
 IntKind.i64) h1, HObj.mix q2 [AV.agg [AV.t (Tree.str h300), AV.hsl 4 none]], HObj.mix q2 [AV.agg [AV.t (Tree.str h300), AV.hsl 4 none]], HObj.tre q2 h4]) else none else
 none := by kernel_rfl

theorem m28_0 (n q : Nat) (s1 s8 : Int) (h0 : List Tree) (h100 : List UInt8) : L28_0 n (Nat.succ q) s1 s8 h0 h100 = bif decide (s8 < (↑(List.length h0) : Int)) then bif
 decide (0 ≤ s8) && (decide (s8 < (↑(List.length h0) : Int)) && true) then Option.bind (nth h0 (Int.toNat s8)) fun y => bif q8 y then bif Tree.toInt y == s1 then
 Option.bind (evP eQ n 48 [q4 s8]) fun y => bif Sh.ok Sh.str y then bif decide (1 + List.length (Tree.toStr y) ≤ 140737488355328) then some (AV.tup [AV.agg [AV.t (Tree.str
 (63 :: Tree.toStr y)), AV.nilS], AV.hsl 0 none], [HObj.tre (Sh.int IntKind.i64) h0, HObj.mix q2 [AV.agg [AV.t (Tree.str (63 :: Tree.toStr y)), AV.nilS]]]) else none else
 none else L28_0 n q s1 (IntKind.wrap IntKind.i64 (s8 + 1)) h0 h100 else none else none else Option.bind (evP eQ n 48 [q4 (↑(List.length h0) : Int)]) fun y => bif Sh.ok
 Sh.str y then bif decide (1 + List.length (Tree.toStr y) ≤ 140737488355328) then bif true && Nat.ble ((List.length h0 + 1) * 8) 140737488355328 then some (AV.tup [AV.agg
 [AV.t (Tree.str (63 :: Tree.toStr y)), AV.nilS], AV.hsl 3 none], [HObj.dead, HObj.mix q2 [AV.agg [AV.t (Tree.str (63 :: Tree.toStr y)), AV.nilS]], HObj.tre (Sh.int
 IntKind.i64) [q4 s1], HObj.tre (Sh.int IntKind.i64) (h0 ++ [q4 s1])]) else none else none else none := by kernel_rfl

theorem r28z (n : Nat) (rows : List Tree) (i : Int) : evR eQ n 28 [AV.t (Tree.ptr (Tree.agg [Tree.slc rows]) 0), AV.t (q4 i), AV.nilS] [] = Option.bind (evP eQ n 54
 [Tree.ptr (Tree.agg [Tree.slc rows]) 0, q4 i]) fun y => bif q8 y then bif decide (0 ≤ Tree.toInt y) then Option.bind (nth rows (Int.toNat (Tree.toInt y))) fun y_1 => bif
 Sh.ok q1 y_1 then bif Tree.toStr (q6 (List.tail (Tree.cs y_1))) == [] then L28_0z n n (Tree.toInt y) 0 [] else bif decide (0 ≤ Tree.toInt y) then Option.bind (nth rows
 (Int.toNat (Tree.toInt y))) fun y_2 => bif Sh.ok q1 y_2 then L28_1z n n rows (Tree.toInt y) 0 [] (Tree.toStr (q6 (List.tail (Tree.cs y_2)))) else none else none else none
 else none else none := by kernel_rfl

theorem m28_1z (n q : Nat) (s0_0 : List Tree) (s1 s10 : Int) (h000 h100 : List UInt8) : L28_1z n (Nat.succ q) s0_0 s1 s10 h000 h100 = bif decide (0 ≤ s1) then Option.bind
 (nth s0_0 (Int.toNat s1)) fun y => bif Sh.ok q1 y then bif decide (s10 < (↑(List.length (Tree.elems (q6 (List.tail (List.tail (Tree.cs y)))))) : Int)) then bif decide (0
 ≤ s1) then Option.bind (nth s0_0 (Int.toNat s1)) fun y => bif Sh.ok q1 y then bif decide (0 ≤ s10) then Option.bind (nth (Tree.elems (q6 (List.tail (List.tail (Tree.cs
 y))))) (Int.toNat s10)) fun y => bif q8 y then Option.bind (runFn eQ n 28 [AV.t (Tree.ptr (Tree.agg [Tree.slc s0_0]) 0), AV.t (q4 (Tree.toInt y)), AV.nilS] []) fun y =>
 bif nForm q2 (Sh.int IntKind.i64) (Prod.fst y) (Prod.snd y) then L28_1zc n q s0_0 s1 (IntKind.wrap IntKind.i64 (s10 + 1)) (nRow q2 (Sh.int IntKind.i64) (Prod.fst y)
 (Prod.snd y)) h000 h100 [tQ' (nTy q2 (Sh.int IntKind.i64) (Prod.fst y) (Prod.snd y))] else bif nNil q2 (Sh.int IntKind.i64) (Prod.fst y) (Prod.snd y) && true then L28_1zb
 n q s0_0 s1 (IntKind.wrap IntKind.i64 (s10 + 1)) h000 h100 [tQ' (nTy q2 (Sh.int IntKind.i64) (Prod.fst y) (Prod.snd y))] else none else none else none else none else none
 else some (AV.tup [AV.agg [AV.t (Tree.str h100), AV.nilS], AV.nilS], [HObj.mix q2 [AV.agg [AV.t (Tree.str h100), AV.nilS]], HObj.mix q2 [AV.agg [AV.t (Tree.str h100),
 AV.nilS]]]) else none else none := by kernel_rfl

theorem m28_1zb (n q : Nat) (s0_0 : List Tree) (s1 s10 : Int) (h000 h100 : List UInt8) (h2 : List Tree) : L28_1zb n (Nat.succ q) s0_0 s1 s10 h000 h100 h2 = bif decide (0 ≤
 s1) then Option.bind (nth s0_0 (Int.toNat s1)) fun y => bif Sh.ok q1 y then bif decide (s10 < (↑(List.length (Tree.elems (q6 (List.tail (List.tail (Tree.cs y)))))) :
 Int)) then bif decide (0 ≤ s1) then Option.bind (nth s0_0 (Int.toNat s1)) fun y => bif Sh.ok q1 y then bif decide (0 ≤ s10) then Option.bind (nth (Tree.elems (q6
 (List.tail (List.tail (Tree.cs y))))) (Int.toNat s10)) fun y => bif q8 y then Option.bind (runFn eQ n 28 [AV.t (Tree.ptr (Tree.agg [Tree.slc s0_0]) 0), AV.t (q4
 (Tree.toInt y)), AV.nilS] []) fun y => bif nForm q2 (Sh.int IntKind.i64) (Prod.fst y) (Prod.snd y) then bif true && Nat.ble ((List.length h2 + 1) * 40) 140737488355328
 then L28_1zc n q s0_0 s1 (IntKind.wrap IntKind.i64 (s10 + 1)) (nRow q2 (Sh.int IntKind.i64) (Prod.fst y) (Prod.snd y)) h000 h100 (h2 ++ [tQ' (nTy q2 (Sh.int IntKind.i64)
 (Prod.fst y) (Prod.snd y))]) else none else bif nNil q2 (Sh.int IntKind.i64) (Prod.fst y) (Prod.snd y) && true then bif true && Nat.ble ((List.length h2 + 1) * 40)
 140737488355328 then L28_1zb n q s0_0 s1 (IntKind.wrap IntKind.i64 (s10 + 1)) h000 h100 (h2 ++ [tQ' (nTy q2 (Sh.int IntKind.i64) (Prod.fst y) (Prod.snd y))]) else none
 else none else none else none else none else none else some (AV.tup [AV.agg [AV.t (Tree.str h100), AV.hsl 2 none], AV.nilS], [HObj.mix q2 [AV.agg [AV.t (Tree.str h100),
 AV.hsl 2 none]], HObj.mix q2 [AV.agg [AV.t (Tree.str h100), AV.hsl 2 none]], HObj.tre q2 h2]) else none else none := by kernel_rfl

theorem m28_1zc (n q : Nat) (s0_0 : List Tree) (s1 s10 : Int) (h0 : List Tree) (h100 h200 : List UInt8) (h3 : List Tree) : L28_1zc n (Nat.succ q) s0_0 s1 s10 h0 h100 h200
 h3 = bif decide (0 ≤ s1) then Option.bind (nth s0_0 (Int.toNat s1)) fun y => bif Sh.ok q1 y then bif decide (s10 < (↑(List.length (Tree.elems (q6 (List.tail (List.tail
 (Tree.cs y)))))) : Int)) then bif decide (0 ≤ s1) then Option.bind (nth s0_0 (Int.toNat s1)) fun y => bif Sh.ok q1 y then bif decide (0 ≤ s10) then Option.bind (nth
 (Tree.elems (q6 (List.tail (List.tail (Tree.cs y))))) (Int.toNat s10)) fun y => bif q8 y then Option.bind (runFn eQ n 28 [AV.t (Tree.ptr (Tree.agg [Tree.slc s0_0]) 0),
 AV.t (q4 (Tree.toInt y)), AV.hsl 0 none] [HObj.tre (Sh.int IntKind.i64) h0]) fun y => bif nForm q2 (Sh.int IntKind.i64) (Prod.fst y) (Prod.snd y) then bif true && Nat.ble
 ((List.length h3 + 1) * 40) 140737488355328 then L28_1zc n q s0_0 s1 (IntKind.wrap IntKind.i64 (s10 + 1)) (nRow q2 (Sh.int IntKind.i64) (Prod.fst y) (Prod.snd y)) h100
 h200 (h3 ++ [tQ' (nTy q2 (Sh.int IntKind.i64) (Prod.fst y) (Prod.snd y))]) else none else bif nNil q2 (Sh.int IntKind.i64) (Prod.fst y) (Prod.snd y) && false then none
 else none else none else none else none else none else some (AV.tup [AV.agg [AV.t (Tree.str h200), AV.hsl 3 none], AV.hsl 0 none], [HObj.tre (Sh.int IntKind.i64) h0,
 HObj.mix q2 [AV.agg [AV.t (Tree.str h200), AV.hsl 3 none]], HObj.mix q2 [AV.agg [AV.t (Tree.str h200), AV.hsl 3 none]], HObj.tre q2 h3]) else none else none := by
 kernel_rfl

theorem m28_0z (n q : Nat) (s1 s8 : Int) (h000 : List UInt8) : L28_0z n (Nat.succ q) s1 s8 h000 = bif decide (s8 < (↑0 : Int)) then none else Option.bind (evP eQ n 48 [q4
 (↑0 : Int)]) fun y => bif Sh.ok Sh.str y then bif decide (1 + List.length (Tree.toStr y) ≤ 140737488355328) then some (AV.tup [AV.agg [AV.t (Tree.str (63 :: Tree.toStr
 y)), AV.nilS], AV.hsl 2 none], [HObj.mix q2 [AV.agg [AV.t (Tree.str (63 :: Tree.toStr y)), AV.nilS]], HObj.tre (Sh.int IntKind.i64) [q4 s1], HObj.tre (Sh.int IntKind.i64)
 [q4 s1]]) else none else none := by kernel_rfl

theorem r25 (n : Nat) (rows ctx : List Tree) (o k : Int) (tn : List UInt8) (tl l : List Tree) : evR eQ n 25 [AV.href 0 0 0, AV.t (Tree.slc ctx), AV.t (Tree.agg [q4 o, q4
 k, Tree.str tn, Tree.slc tl, Tree.slc l])] [q3, HObj.tre q1 rows] = bif o == 2 then bif firstOk (Sh.int IntKind.i64) ctx then bif true && Nat.ble ((0 + List.length ctx) *
 8) 140737488355328 then Option.bind (runFn eQ n 52 [AV.href 0 0 0, AV.t (Tree.str []), AV.t (Tree.slc [])] [q3, HObj.tre q1 rows]) fun y => bif true && (isT (Sh.int
 IntKind.i64) (Prod.fst y) && q7 (Prod.snd y)) then bif true && Nat.ble ((List.length ctx + 1) * 8) 140737488355328 then evLH eQ 2 n 25 [1, 1, 1, 1, 0, 1, 0] [n] ⟨[AV.href
 0 0 0, AV.t (Tree.slc ctx), AV.any, AV.any, AV.any, AV.href 3 0 0, AV.any, AV.any, AV.hsl 4 none, AV.nilS, AV.t (q4 0)] ++ anyL 165, [HObj.mix (Sh.agg [Sh.slc]) [AV.agg
 [AV.hsl 2 none]], HObj.dead, HObj.tre q1 (gRow (Prod.snd y)), HObj.tre q0 [Tree.agg [q4 o, q4 k, Tree.str tn, Tree.slc tl, Tree.slc l]], HObj.tre (Sh.int IntKind.i64)
 (ctx ++ [q4 (Tree.toInt (avT (Prod.fst y)))])]⟩ else none else none else none else none else evLH eQ 2 n 25 [1, 1, 1, 1, 0, 1, 0] [n] ⟨[AV.href 0 0 0, AV.t (Tree.slc
 ctx), AV.any, AV.any, AV.any, AV.href 2 0 0, AV.any, AV.any, AV.t (Tree.slc ctx), AV.nilS, AV.t (q4 0)] ++ anyL 165, [q3, HObj.tre q1 rows, HObj.tre q0 [Tree.agg [q4 o,
 q4 k, Tree.str tn, Tree.slc tl, Tree.slc l]]]⟩ := by kernel_rfl

theorem k25_0 (n q : Nat) (K : St → Option (AV × Heap)) (s1 s8 : List Tree) (s10 : Int) (h1 : List Tree) (h200 h201 : Int) (h202 : List UInt8) (h203 h204 : List Tree) :
 M25_0 n (Nat.succ q) K s1 s8 s10 h1 h200 h201 h202 h203 h204 = bif decide (s10 < (↑(List.length h204) : Int)) then bif decide (0 ≤ s10) then Option.bind (nth h204
 (Int.toNat s10)) fun y => bif Sh.ok q0 y then Option.bind (runFn eQ n 25 [AV.href 0 0 0, AV.t (Tree.slc s8), AV.t (lQ y)] [q3, HObj.tre q1 h1]) fun y => bif true && (isT
 (Sh.tup [Sh.int IntKind.i64, Sh.bool]) (Prod.fst y) && q7 (Prod.snd y)) then bif !Tree.toBool (q6 (List.tail (Tree.tupl (avT (Prod.fst y))))) then some (AV.t (Tree.tup
 [q4 0, Tree.bool false]), [HObj.mix (Sh.agg [Sh.slc]) [AV.agg [AV.hsl 3 none]], HObj.dead, HObj.tre q0 [Tree.agg [q4 h200, q4 h201, Tree.str h202, Tree.slc h203, Tree.slc
 h204]], HObj.tre q1 (gRow (Prod.snd y))]) else M25_0b n q K s1 s8 (IntKind.wrap IntKind.i64 (s10 + 1)) (gRow (Prod.snd y)) h200 h201 h202 h203 h204 [q4 (Tree.toInt (q6
 (Tree.tupl (avT (Prod.fst y)))))] else none else none else none else K (S25 s1 s8 s10 s10 h204 (↑(List.length h204) : Int) false h1 h200 h201 h202 h203 h204) := by
 kernel_rfl

theorem z25 (n : Nat) (s1 s8 : List Tree) (s10 s27 : Int) (s29 : List Tree) (s30 : Int) (s31 : Bool) (h1 : List Tree) (h200 h201 : Int) (h202 : List UInt8) (h203 h204 :
 List Tree) : evZH eQ 2 n 25 5 (S25 s1 s8 s10 s27 s29 s30 s31 h1 h200 h201 h202 h203 h204) = bif h200 == 1 then bif decide (0 ≤ IntKind.wrap IntKind.i64 (IntKind.wrap
 IntKind.i64 ((↑(List.length s1) : Int) - 1) - h201)) then Option.bind (nth s1 (Int.toNat (IntKind.wrap IntKind.i64 (IntKind.wrap IntKind.i64 ((↑(List.length s1) : Int) -
 1) - h201)))) fun y => bif q8 y then some (AV.t (Tree.tup [q4 (Tree.toInt y), Tree.bool true]), [q3, HObj.tre q1 h1, HObj.tre q0 [Tree.agg [q4 h200, q4 h201, Tree.str
 h202, Tree.slc h203, Tree.slc h204]]]) else none else none else bif h200 == 2 then bif decide (0 ≤ IntKind.wrap IntKind.i64 ((↑(List.length s8) : Int) - 1)) then
 Option.bind (nth s8 (Int.toNat (IntKind.wrap IntKind.i64 ((↑(List.length s8) : Int) - 1)))) fun y => bif q8 y then none else none else none else bif h200 == 3 then
 Option.bind (runFn eQ n 52 [AV.href 0 0 0, AV.t (Tree.str []), AV.t (Tree.slc [])] [q3, HObj.tre q1 h1]) fun y => bif true && (isT (Sh.int IntKind.i64) (Prod.fst y) && q7
 (Prod.snd y)) then none else none else bif h200 == 4 then Option.bind (runFn eQ n 52 [AV.href 0 0 0, AV.t (Tree.str [78, 97, 116]), AV.t (Tree.slc [])] [q3, HObj.tre q1
 h1]) fun y => bif true && (isT (Sh.int IntKind.i64) (Prod.fst y) && q7 (Prod.snd y)) then some (AV.t (Tree.tup [q4 (Tree.toInt (avT (Prod.fst y))), Tree.bool true]),
 [HObj.mix (Sh.agg [Sh.slc]) [AV.agg [AV.hsl 3 none]], HObj.dead, HObj.tre q0 [Tree.agg [q4 h200, q4 h201, Tree.str h202, Tree.slc h203, Tree.slc h204]], HObj.tre q1 (gRow
 (Prod.snd y))]) else none else bif h200 == 5 then none else bif h200 == 6 then none else bif h200 == 7 then none else Option.bind (runFn eQ n 52 [AV.href 0 0 0, AV.t
 (Tree.str []), AV.t (Tree.slc [])] [q3, HObj.tre q1 h1]) fun y => bif true && (isT (Sh.int IntKind.i64) (Prod.fst y) && q7 (Prod.snd y)) then Option.bind (runFn eQ n 52
 [AV.href 0 0 0, AV.t (Tree.str []), AV.t (Tree.slc [])] [q3, HObj.tre q1 (gRow (Prod.snd y))]) fun y_1 => bif true && (isT (Sh.int IntKind.i64) (Prod.fst y_1) && q7
 (Prod.snd y_1)) then bif decide (0 ≤ IntKind.wrap IntKind.i64 (h200 - 8)) && (decide (IntKind.wrap IntKind.i64 (h200 - 8) < (↑2 : Int)) && true) then Option.bind (nth [q4
 (Tree.toInt (avT (Prod.fst y))), q4 (Tree.toInt (avT (Prod.fst y_1)))] (Int.toNat (IntKind.wrap IntKind.i64 (h200 - 8)))) fun y => bif q8 y then none else none else none
 else none else none := by kernel_rfl

theorem k25_0b (n q : Nat) (K : St → Option (AV × Heap)) (s1 s8 : List Tree) (s10 : Int) (h2 : List Tree) (h300 h301 : Int) (h302 : List UInt8) (h303 h304 h4 : List Tree)
 : M25_0b n (Nat.succ q) K s1 s8 s10 h2 h300 h301 h302 h303 h304 h4 = bif decide (s10 < (↑(List.length h304) : Int)) then bif decide (0 ≤ s10) then Option.bind (nth h304
 (Int.toNat s10)) fun y => bif Sh.ok q0 y then Option.bind (runFn eQ n 25 [AV.href 0 0 0, AV.t (Tree.slc s8), AV.t (lQ y)] [q3, HObj.tre q1 h2]) fun y => bif true && (isT
 (Sh.tup [Sh.int IntKind.i64, Sh.bool]) (Prod.fst y) && q7 (Prod.snd y)) then bif !Tree.toBool (q6 (List.tail (Tree.tupl (avT (Prod.fst y))))) then some (AV.t (Tree.tup
 [q4 0, Tree.bool false]), [HObj.mix (Sh.agg [Sh.slc]) [AV.agg [AV.hsl 5 none]], HObj.dead, HObj.dead, HObj.tre q0 [Tree.agg [q4 h300, q4 h301, Tree.str h302, Tree.slc
 h303, Tree.slc h304]], HObj.tre (Sh.int IntKind.i64) h4, HObj.tre q1 (gRow (Prod.snd y))]) else bif true && Nat.ble ((List.length h4 + 1) * 8) 140737488355328 then M25_0b
 n q K s1 s8 (IntKind.wrap IntKind.i64 (s10 + 1)) (gRow (Prod.snd y)) h300 h301 h302 h303 h304 (h4 ++ [q4 (Tree.toInt (q6 (Tree.tupl (avT (Prod.fst y)))))]) else none else
 none else none else none else K (S25x1 s1 s8 s10 s10 h304 (↑(List.length h304) : Int) false h2 h300 h301 h302 h303 h304 h4) := by kernel_rfl

theorem z25x1 (n : Nat) (s1 s8 : List Tree) (s10 s27 : Int) (s29 : List Tree) (s30 : Int) (s31 : Bool) (h2 : List Tree) (h300 h301 : Int) (h302 : List UInt8) (h303 h304 h4
 : List Tree) : evZH eQ 2 n 25 5 (S25x1 s1 s8 s10 s27 s29 s30 s31 h2 h300 h301 h302 h303 h304 h4) = bif h300 == 1 then bif decide (0 ≤ IntKind.wrap IntKind.i64
 (IntKind.wrap IntKind.i64 ((↑(List.length s1) : Int) - 1) - h301)) then Option.bind (nth s1 (Int.toNat (IntKind.wrap IntKind.i64 (IntKind.wrap IntKind.i64 ((↑(List.length
 s1) : Int) - 1) - h301)))) fun y => bif q8 y then some (AV.t (Tree.tup [q4 (Tree.toInt y), Tree.bool true]), [HObj.mix (Sh.agg [Sh.slc]) [AV.agg [AV.hsl 2 none]],
 HObj.dead, HObj.tre q1 h2, HObj.tre q0 [Tree.agg [q4 h300, q4 h301, Tree.str h302, Tree.slc h303, Tree.slc h304]], HObj.tre (Sh.int IntKind.i64) h4]) else none else none
 else bif h300 == 2 then bif decide (0 ≤ IntKind.wrap IntKind.i64 ((↑(List.length s8) : Int) - 1)) then Option.bind (nth s8 (Int.toNat (IntKind.wrap IntKind.i64
 ((↑(List.length s8) : Int) - 1)))) fun y => bif q8 y then bif true && (decide (0 < (↑(List.length h4) : Int)) && true) then Option.bind (nth h4 0) fun y_1 => bif q8 y_1
 then Option.bind (runFn eQ n 52 [AV.href 0 0 0, AV.t (Tree.str [84, 111]), AV.t (Tree.slc [q4 (Tree.toInt y), q4 (Tree.toInt y_1)])] [q3, HObj.tre q1 h2]) fun y_2 => bif
 true && (isT (Sh.int IntKind.i64) (Prod.fst y_2) && q7 (Prod.snd y_2)) then some (AV.t (Tree.tup [q4 (Tree.toInt (avT (Prod.fst y_2))), Tree.bool true]), [HObj.mix
 (Sh.agg [Sh.slc]) [AV.agg [AV.hsl 6 none]], HObj.dead, HObj.dead, HObj.tre q0 [Tree.agg [q4 h300, q4 h301, Tree.str h302, Tree.slc h303, Tree.slc h304]], HObj.tre (Sh.int
 IntKind.i64) h4, HObj.froz (Sh.int IntKind.i64) [q4 (Tree.toInt y), q4 (Tree.toInt y_1)], HObj.tre q1 (gRow (Prod.snd y_2))]) else none else none else none else none else
 none else bif h300 == 3 then Option.bind (runFn eQ n 52 [AV.href 0 0 0, AV.t (Tree.str []), AV.t (Tree.slc [])] [q3, HObj.tre q1 h2]) fun y => bif true && (isT (Sh.int
 IntKind.i64) (Prod.fst y) && q7 (Prod.snd y)) then bif true && (decide (0 < (↑(List.length h4) : Int)) && true) then Option.bind (nth h4 0) fun y_1 => bif q8 y_1 then bif
 true && (decide (1 < (↑(List.length h4) : Int)) && true) then Option.bind (nth h4 1) fun y_2 => bif q8 y_2 then Option.bind (runFn eQ n 52 [AV.href 0 0 0, AV.t (Tree.str
 [84, 111]), AV.t (Tree.slc [q4 (Tree.toInt y_2), q4 (Tree.toInt (avT (Prod.fst y)))])] [q3, HObj.tre q1 (gRow (Prod.snd y))]) fun y_3 => bif true && (isT (Sh.int
 IntKind.i64) (Prod.fst y_3) && q7 (Prod.snd y_3)) then Option.bind (runFn eQ n 53 [AV.href 0 0 0, AV.t (q4 (Tree.toInt y_1)), AV.t (q4 (Tree.toInt (avT (Prod.fst y_3))))]
 [q3, HObj.tre q1 (gRow (Prod.snd y_3))]) fun y_4 => bif true && (isT Sh.bool (Prod.fst y_4) && q7 (Prod.snd y_4)) then some (AV.t (Tree.tup [q4 (Tree.toInt (avT (Prod.fst
 y))), Tree.bool (Tree.toBool (avT (Prod.fst y_4)))]), [HObj.mix (Sh.agg [Sh.slc]) [AV.agg [AV.hsl 8 none]], HObj.dead, HObj.dead, HObj.tre q0 [Tree.agg [q4 h300, q4 h301,
 Tree.str h302, Tree.slc h303, Tree.slc h304]], HObj.tre (Sh.int IntKind.i64) h4, HObj.dead, HObj.froz (Sh.int IntKind.i64) [q4 (Tree.toInt y_2), q4 (Tree.toInt (avT
 (Prod.fst y)))], HObj.dead, HObj.tre q1 (gRow (Prod.snd y_4))]) else none else none else none else none else none else none else none else bif h300 == 4 then Option.bind
 (runFn eQ n 52 [AV.href 0 0 0, AV.t (Tree.str [78, 97, 116]), AV.t (Tree.slc [])] [q3, HObj.tre q1 h2]) fun y => bif true && (isT (Sh.int IntKind.i64) (Prod.fst y) && q7
 (Prod.snd y)) then some (AV.t (Tree.tup [q4 (Tree.toInt (avT (Prod.fst y))), Tree.bool true]), [HObj.mix (Sh.agg [Sh.slc]) [AV.agg [AV.hsl 5 none]], HObj.dead, HObj.dead,
 HObj.tre q0 [Tree.agg [q4 h300, q4 h301, Tree.str h302, Tree.slc h303, Tree.slc h304]], HObj.tre (Sh.int IntKind.i64) h4, HObj.tre q1 (gRow (Prod.snd y))]) else none else
 bif h300 == 5 then bif true && (decide (0 < (↑(List.length h4) : Int)) && true) then Option.bind (nth h4 0) fun y => bif q8 y then bif true && (decide (0 < (↑(List.length
 h4) : Int)) && true) then Option.bind (nth h4 0) fun y_1 => bif q8 y_1 then Option.bind (runFn eQ n 52 [AV.href 0 0 0, AV.t (Tree.str [78, 97, 116]), AV.t (Tree.slc [])]
 [q3, HObj.tre q1 h2]) fun y_2 => bif true && (isT (Sh.int IntKind.i64) (Prod.fst y_2) && q7 (Prod.snd y_2)) then Option.bind (runFn eQ n 53 [AV.href 0 0 0, AV.t (q4
 (Tree.toInt y_1)), AV.t (q4 (Tree.toInt (avT (Prod.fst y_2))))] [q3, HObj.tre q1 (gRow (Prod.snd y_2))]) fun y_3 => bif true && (isT Sh.bool (Prod.fst y_3) && q7
 (Prod.snd y_3)) then some (AV.t (Tree.tup [q4 (Tree.toInt y), Tree.bool (Tree.toBool (avT (Prod.fst y_3)))]), [HObj.mix (Sh.agg [Sh.slc]) [AV.agg [AV.hsl 6 none]],
 HObj.dead, HObj.dead, HObj.tre q0 [Tree.agg [q4 h300, q4 h301, Tree.str h302, Tree.slc h303, Tree.slc h304]], HObj.tre (Sh.int IntKind.i64) h4, HObj.dead, HObj.tre q1
 (gRow (Prod.snd y_3))]) else none else none else none else none else none else none else bif h300 == 6 then bif true && (decide (0 < (↑(List.length h4) : Int)) && true)
 then Option.bind (nth h4 0) fun y => bif q8 y then Option.bind (runFn eQ n 52 [AV.href 0 0 0, AV.t (Tree.str [78, 97, 116]), AV.t (Tree.slc [])] [q3, HObj.tre q1 h2]) fun
 y_1 => bif true && (isT (Sh.int IntKind.i64) (Prod.fst y_1) && q7 (Prod.snd y_1)) then Option.bind (runFn eQ n 53 [AV.href 0 0 0, AV.t (q4 (Tree.toInt y)), AV.t (q4
 (Tree.toInt (avT (Prod.fst y_1))))] [q3, HObj.tre q1 (gRow (Prod.snd y_1))]) fun y => bif true && (isT Sh.bool (Prod.fst y) && q7 (Prod.snd y)) then bif true && (decide
 (2 < (↑(List.length h4) : Int)) && true) then Option.bind (nth h4 2) fun y_2 => bif q8 y_2 then bif Tree.toBool (avT (Prod.fst y)) then bif true && (decide (1 <
 (↑(List.length h4) : Int)) && true) then Option.bind (nth h4 1) fun y_3 => bif q8 y_3 then bif true && (decide (2 < (↑(List.length h4) : Int)) && true) then Option.bind
 (nth h4 2) fun y_4 => bif q8 y_4 then bif true && (decide (2 < (↑(List.length h4) : Int)) && true) then Option.bind (nth h4 2) fun y_5 => bif q8 y_5 then Option.bind
 (runFn eQ n 52 [AV.href 0 0 0, AV.t (Tree.str [84, 111]), AV.t (Tree.slc [q4 (Tree.toInt y_4), q4 (Tree.toInt y_5)])] [q3, HObj.tre q1 (gRow (Prod.snd y))]) fun y => bif
 true && (isT (Sh.int IntKind.i64) (Prod.fst y) && q7 (Prod.snd y)) then Option.bind (runFn eQ n 53 [AV.href 0 0 0, AV.t (q4 (Tree.toInt y_3)), AV.t (q4 (Tree.toInt (avT
 (Prod.fst y))))] [q3, HObj.tre q1 (gRow (Prod.snd y))]) fun y => bif true && (isT Sh.bool (Prod.fst y) && q7 (Prod.snd y)) then some (AV.t (Tree.tup [q4 (Tree.toInt y_2),
 Tree.bool (Tree.toBool (avT (Prod.fst y)))]), [HObj.mix (Sh.agg [Sh.slc]) [AV.agg [AV.hsl 9 none]], HObj.dead, HObj.dead, HObj.tre q0 [Tree.agg [q4 h300, q4 h301,
 Tree.str h302, Tree.slc h303, Tree.slc h304]], HObj.tre (Sh.int IntKind.i64) h4, HObj.dead, HObj.dead, HObj.froz (Sh.int IntKind.i64) [q4 (Tree.toInt y_4), q4 (Tree.toInt
 y_5)], HObj.dead, HObj.tre q1 (gRow (Prod.snd y))]) else none else none else none else none else none else none else none else none else some (AV.t (Tree.tup [q4
 (Tree.toInt y_2), Tree.bool false]), [HObj.mix (Sh.agg [Sh.slc]) [AV.agg [AV.hsl 6 none]], HObj.dead, HObj.dead, HObj.tre q0 [Tree.agg [q4 h300, q4 h301, Tree.str h302,
 Tree.slc h303, Tree.slc h304]], HObj.tre (Sh.int IntKind.i64) h4, HObj.dead, HObj.tre q1 (gRow (Prod.snd y))]) else none else none else none else none else none else none
 else bif h300 == 7 then bif true && (decide (0 < (↑(List.length h4) : Int)) && true) then Option.bind (nth h4 0) fun y => bif q8 y then bif true && (decide (1 <
 (↑(List.length h4) : Int)) && true) then Option.bind (nth h4 1) fun y_1 => bif q8 y_1 then Option.bind (runFn eQ n 52 [AV.href 0 0 0, AV.t (Tree.str [80, 97, 105, 114]),
 AV.t (Tree.slc [q4 (Tree.toInt y), q4 (Tree.toInt y_1)])] [q3, HObj.tre q1 h2]) fun y_2 => bif true && (isT (Sh.int IntKind.i64) (Prod.fst y_2) && q7 (Prod.snd y_2)) then
 some (AV.t (Tree.tup [q4 (Tree.toInt (avT (Prod.fst y_2))), Tree.bool true]), [HObj.mix (Sh.agg [Sh.slc]) [AV.agg [AV.hsl 6 none]], HObj.dead, HObj.dead, HObj.tre q0
 [Tree.agg [q4 h300, q4 h301, Tree.str h302, Tree.slc h303, Tree.slc h304]], HObj.tre (Sh.int IntKind.i64) h4, HObj.froz (Sh.int IntKind.i64) [q4 (Tree.toInt y), q4
 (Tree.toInt y_1)], HObj.tre q1 (gRow (Prod.snd y_2))]) else none else none else none else none else none else Option.bind (runFn eQ n 52 [AV.href 0 0 0, AV.t (Tree.str
 []), AV.t (Tree.slc [])] [q3, HObj.tre q1 h2]) fun y => bif true && (isT (Sh.int IntKind.i64) (Prod.fst y) && q7 (Prod.snd y)) then Option.bind (runFn eQ n 52 [AV.href 0
 0 0, AV.t (Tree.str []), AV.t (Tree.slc [])] [q3, HObj.tre q1 (gRow (Prod.snd y))]) fun y_1 => bif true && (isT (Sh.int IntKind.i64) (Prod.fst y_1) && q7 (Prod.snd y_1))
 then bif decide (0 ≤ IntKind.wrap IntKind.i64 (h300 - 8)) && (decide (IntKind.wrap IntKind.i64 (h300 - 8) < (↑2 : Int)) && true) then Option.bind (nth [q4 (Tree.toInt
 (avT (Prod.fst y))), q4 (Tree.toInt (avT (Prod.fst y_1)))] (Int.toNat (IntKind.wrap IntKind.i64 (h300 - 8)))) fun y_2 => bif q8 y_2 then bif true && (decide (0 <
 (↑(List.length h4) : Int)) && true) then Option.bind (nth h4 0) fun y_3 => bif q8 y_3 then Option.bind (runFn eQ n 52 [AV.href 0 0 0, AV.t (Tree.str [80, 97, 105, 114]),
 AV.t (Tree.slc [q4 (Tree.toInt (avT (Prod.fst y))), q4 (Tree.toInt (avT (Prod.fst y_1)))])] [q3, HObj.tre q1 (gRow (Prod.snd y_1))]) fun y_4 => bif true && (isT (Sh.int
 IntKind.i64) (Prod.fst y_4) && q7 (Prod.snd y_4)) then Option.bind (runFn eQ n 53 [AV.href 0 0 0, AV.t (q4 (Tree.toInt y_3)), AV.t (q4 (Tree.toInt (avT (Prod.fst y_4))))]
 [q3, HObj.tre q1 (gRow (Prod.snd y_4))]) fun y_5 => bif true && (isT Sh.bool (Prod.fst y_5) && q7 (Prod.snd y_5)) then some (AV.t (Tree.tup [q4 (Tree.toInt y_2),
 Tree.bool (Tree.toBool (avT (Prod.fst y_5)))]), [HObj.mix (Sh.agg [Sh.slc]) [AV.agg [AV.hsl 10 none]], HObj.dead, HObj.dead, HObj.tre q0 [Tree.agg [q4 h300, q4 h301,
 Tree.str h302, Tree.slc h303, Tree.slc h304]], HObj.tre (Sh.int IntKind.i64) h4, HObj.dead, HObj.dead, HObj.tre (Sh.int IntKind.i64) [q4 (Tree.toInt (avT (Prod.fst y))),
 q4 (Tree.toInt (avT (Prod.fst y_1)))], HObj.froz (Sh.int IntKind.i64) [q4 (Tree.toInt (avT (Prod.fst y))), q4 (Tree.toInt (avT (Prod.fst y_1)))], HObj.dead, HObj.tre q1
 (gRow (Prod.snd y_5))]) else none else none else none else none else none else none else none else none := by kernel_rfl

theorem k25_0c (n q : Nat) (K : St → Option (AV × Heap)) (s1 : List Tree) (s10 : Int) (h2 : List Tree) (h300 h301 : Int) (h302 : List UInt8) (h303 h304 h4 : List Tree) :
 M25_0c n (Nat.succ q) K s1 s10 h2 h300 h301 h302 h303 h304 h4 = bif decide (s10 < (↑(List.length h304) : Int)) then bif decide (0 ≤ s10) then Option.bind (nth h304
 (Int.toNat s10)) fun y => bif Sh.ok q0 y then Option.bind (runFn eQ n 25 [AV.href 0 0 0, AV.t (Tree.slc h4), AV.t (lQ y)] [q3, HObj.tre q1 h2]) fun y => bif true && (isT
 (Sh.tup [Sh.int IntKind.i64, Sh.bool]) (Prod.fst y) && q7 (Prod.snd y)) then bif !Tree.toBool (q6 (List.tail (Tree.tupl (avT (Prod.fst y))))) then some (AV.t (Tree.tup
 [q4 0, Tree.bool false]), [HObj.mix (Sh.agg [Sh.slc]) [AV.agg [AV.hsl 5 none]], HObj.dead, HObj.dead, HObj.tre q0 [Tree.agg [q4 h300, q4 h301, Tree.str h302, Tree.slc
 h303, Tree.slc h304]], HObj.froz (Sh.int IntKind.i64) h4, HObj.tre q1 (gRow (Prod.snd y))]) else M25_0x3 n q K s1 (IntKind.wrap IntKind.i64 (s10 + 1)) (gRow (Prod.snd y))
 h300 h301 h302 h303 h304 h4 [q4 (Tree.toInt (q6 (Tree.tupl (avT (Prod.fst y)))))] else none else none else none else K (S25x2 s1 s10 s10 h304 (↑(List.length h304) : Int)
 false h2 h300 h301 h302 h303 h304 h4) := by kernel_rfl

theorem k25_0x3 (n q : Nat) (K : St → Option (AV × Heap)) (s1 : List Tree) (s10 : Int) (h2 : List Tree) (h300 h301 : Int) (h302 : List UInt8) (h303 h304 h4 h5 : List Tree)
 : M25_0x3 n (Nat.succ q) K s1 s10 h2 h300 h301 h302 h303 h304 h4 h5 = bif decide (s10 < (↑(List.length h304) : Int)) then bif decide (0 ≤ s10) then Option.bind (nth h304
 (Int.toNat s10)) fun y => bif Sh.ok q0 y then Option.bind (runFn eQ n 25 [AV.href 0 0 0, AV.t (Tree.slc h4), AV.t (lQ y)] [q3, HObj.tre q1 h2]) fun y => bif true && (isT
 (Sh.tup [Sh.int IntKind.i64, Sh.bool]) (Prod.fst y) && q7 (Prod.snd y)) then bif !Tree.toBool (q6 (List.tail (Tree.tupl (avT (Prod.fst y))))) then some (AV.t (Tree.tup
 [q4 0, Tree.bool false]), [HObj.mix (Sh.agg [Sh.slc]) [AV.agg [AV.hsl 6 none]], HObj.dead, HObj.dead, HObj.tre q0 [Tree.agg [q4 h300, q4 h301, Tree.str h302, Tree.slc
 h303, Tree.slc h304]], HObj.froz (Sh.int IntKind.i64) h4, HObj.tre (Sh.int IntKind.i64) h5, HObj.tre q1 (gRow (Prod.snd y))]) else bif true && Nat.ble ((List.length h5 +
 1) * 8) 140737488355328 then M25_0x3 n q K s1 (IntKind.wrap IntKind.i64 (s10 + 1)) (gRow (Prod.snd y)) h300 h301 h302 h303 h304 h4 (h5 ++ [q4 (Tree.toInt (q6 (Tree.tupl
 (avT (Prod.fst y)))))]) else none else none else none else none else K (S25x3 s1 s10 s10 h304 (↑(List.length h304) : Int) false h2 h300 h301 h302 h303 h304 h4 h5) := by
 kernel_rfl

theorem r25z (n : Nat) (ctx : List Tree) (o k : Int) (tn : List UInt8) (tl l : List Tree) : evR eQ n 25 [AV.href 0 0 0, AV.t (Tree.slc ctx), AV.t (Tree.agg [q4 o, q4 k,
 Tree.str tn, Tree.slc tl, Tree.slc l])] [HObj.mix (Sh.agg [Sh.slc]) [AV.agg [AV.nilS]]] = bif o == 2 then bif firstOk (Sh.int IntKind.i64) ctx then bif true && Nat.ble
 ((0 + List.length ctx) * 8) 140737488355328 then Option.bind (runFn eQ n 52 [AV.href 0 0 0, AV.t (Tree.str []), AV.t (Tree.slc [])] [HObj.mix (Sh.agg [Sh.slc]) [AV.agg
 [AV.nilS]]]) fun y => bif true && (isT (Sh.int IntKind.i64) (Prod.fst y) && q7 (Prod.snd y)) then bif true && Nat.ble ((List.length ctx + 1) * 8) 140737488355328 then
 evLH eQ 1 n 25 [1, 1, 1, 1, 0, 1, 0] [n] ⟨[AV.href 0 0 0, AV.t (Tree.slc ctx), AV.any, AV.any, AV.any, AV.href 2 0 0, AV.any, AV.any, AV.hsl 3 none, AV.nilS, AV.t (q4 0)]
 ++ anyL 165, [q3, HObj.tre q1 (gRow (Prod.snd y)), HObj.tre q0 [Tree.agg [q4 o, q4 k, Tree.str tn, Tree.slc tl, Tree.slc l]], HObj.tre (Sh.int IntKind.i64) (ctx ++ [q4
 (Tree.toInt (avT (Prod.fst y)))])]⟩ else none else none else none else none else evLH eQ 1 n 25 [1, 1, 1, 1, 0, 1, 0] [n] ⟨[AV.href 0 0 0, AV.t (Tree.slc ctx), AV.any,
 AV.any, AV.any, AV.href 1 0 0, AV.any, AV.any, AV.t (Tree.slc ctx), AV.nilS, AV.t (q4 0)] ++ anyL 165, [HObj.mix (Sh.agg [Sh.slc]) [AV.agg [AV.nilS]], HObj.tre q0
 [Tree.agg [q4 o, q4 k, Tree.str tn, Tree.slc tl, Tree.slc l]]]⟩ := by kernel_rfl

theorem k25_0z (n q : Nat) (K : St → Option (AV × Heap)) (s1 s8 : List Tree) (s10 h100 h101 : Int) (h102 : List UInt8) (h103 h104 : List Tree) : M25_0z n (Nat.succ q) K s1
 s8 s10 h100 h101 h102 h103 h104 = bif decide (s10 < (↑(List.length h104) : Int)) then bif decide (0 ≤ s10) then Option.bind (nth h104 (Int.toNat s10)) fun y => bif Sh.ok
 q0 y then Option.bind (runFn eQ n 25 [AV.href 0 0 0, AV.t (Tree.slc s8), AV.t (lQ y)] [HObj.mix (Sh.agg [Sh.slc]) [AV.agg [AV.nilS]]]) fun y => bif true && (isT (Sh.tup
 [Sh.int IntKind.i64, Sh.bool]) (Prod.fst y) && q7 (Prod.snd y)) then bif !Tree.toBool (q6 (List.tail (Tree.tupl (avT (Prod.fst y))))) then some (AV.t (Tree.tup [q4 0,
 Tree.bool false]), [HObj.mix (Sh.agg [Sh.slc]) [AV.agg [AV.hsl 2 none]], HObj.tre q0 [Tree.agg [q4 h100, q4 h101, Tree.str h102, Tree.slc h103, Tree.slc h104]], HObj.tre
 q1 (gRow (Prod.snd y))]) else M25_0zb n q K s1 s8 (IntKind.wrap IntKind.i64 (s10 + 1)) (gRow (Prod.snd y)) h100 h101 h102 h103 h104 [q4 (Tree.toInt (q6 (Tree.tupl (avT
 (Prod.fst y)))))] else none else none else none else K (S25z s1 s8 s10 s10 h104 (↑(List.length h104) : Int) false h100 h101 h102 h103 h104) := by kernel_rfl

theorem z25z (n : Nat) (s1 s8 : List Tree) (s10 s27 : Int) (s29 : List Tree) (s30 : Int) (s31 : Bool) (h100 h101 : Int) (h102 : List UInt8) (h103 h104 : List Tree) : evZH
 eQ 1 n 25 5 (S25z s1 s8 s10 s27 s29 s30 s31 h100 h101 h102 h103 h104) = bif h100 == 1 then bif decide (0 ≤ IntKind.wrap IntKind.i64 (IntKind.wrap IntKind.i64
 ((↑(List.length s1) : Int) - 1) - h101)) then Option.bind (nth s1 (Int.toNat (IntKind.wrap IntKind.i64 (IntKind.wrap IntKind.i64 ((↑(List.length s1) : Int) - 1) -
 h101)))) fun y => bif q8 y then some (AV.t (Tree.tup [q4 (Tree.toInt y), Tree.bool true]), [HObj.mix (Sh.agg [Sh.slc]) [AV.agg [AV.nilS]], HObj.tre q0 [Tree.agg [q4 h100,
 q4 h101, Tree.str h102, Tree.slc h103, Tree.slc h104]]]) else none else none else bif h100 == 2 then bif decide (0 ≤ IntKind.wrap IntKind.i64 ((↑(List.length s8) : Int) -
 1)) then Option.bind (nth s8 (Int.toNat (IntKind.wrap IntKind.i64 ((↑(List.length s8) : Int) - 1)))) fun y => bif q8 y then none else none else none else bif h100 == 3
 then Option.bind (runFn eQ n 52 [AV.href 0 0 0, AV.t (Tree.str []), AV.t (Tree.slc [])] [HObj.mix (Sh.agg [Sh.slc]) [AV.agg [AV.nilS]]]) fun y => bif true && (isT (Sh.int
 IntKind.i64) (Prod.fst y) && q7 (Prod.snd y)) then none else none else bif h100 == 4 then Option.bind (runFn eQ n 52 [AV.href 0 0 0, AV.t (Tree.str [78, 97, 116]), AV.t
 (Tree.slc [])] [HObj.mix (Sh.agg [Sh.slc]) [AV.agg [AV.nilS]]]) fun y => bif true && (isT (Sh.int IntKind.i64) (Prod.fst y) && q7 (Prod.snd y)) then some (AV.t (Tree.tup
 [q4 (Tree.toInt (avT (Prod.fst y))), Tree.bool true]), [HObj.mix (Sh.agg [Sh.slc]) [AV.agg [AV.hsl 2 none]], HObj.tre q0 [Tree.agg [q4 h100, q4 h101, Tree.str h102,
 Tree.slc h103, Tree.slc h104]], HObj.tre q1 (gRow (Prod.snd y))]) else none else bif h100 == 5 then none else bif h100 == 6 then none else bif h100 == 7 then none else
 Option.bind (runFn eQ n 52 [AV.href 0 0 0, AV.t (Tree.str []), AV.t (Tree.slc [])] [HObj.mix (Sh.agg [Sh.slc]) [AV.agg [AV.nilS]]]) fun y => bif true && (isT (Sh.int
 IntKind.i64) (Prod.fst y) && q7 (Prod.snd y)) then Option.bind (runFn eQ n 52 [AV.href 0 0 0, AV.t (Tree.str []), AV.t (Tree.slc [])] [q3, HObj.tre q1 (gRow (Prod.snd
 y))]) fun y_1 => bif true && (isT (Sh.int IntKind.i64) (Prod.fst y_1) && q7 (Prod.snd y_1)) then bif decide (0 ≤ IntKind.wrap IntKind.i64 (h100 - 8)) && (decide
 (IntKind.wrap IntKind.i64 (h100 - 8) < (↑2 : Int)) && true) then Option.bind (nth [q4 (Tree.toInt (avT (Prod.fst y))), q4 (Tree.toInt (avT (Prod.fst y_1)))] (Int.toNat
 (IntKind.wrap IntKind.i64 (h100 - 8)))) fun y => bif q8 y then none else none else none else none else none := by kernel_rfl

theorem k25_0zb (n q : Nat) (K : St → Option (AV × Heap)) (s1 s8 : List Tree) (s10 : Int) (h1 : List Tree) (h200 h201 : Int) (h202 : List UInt8) (h203 h204 h3 : List Tree)
 : M25_0zb n (Nat.succ q) K s1 s8 s10 h1 h200 h201 h202 h203 h204 h3 = bif decide (s10 < (↑(List.length h204) : Int)) then bif decide (0 ≤ s10) then Option.bind (nth h204
 (Int.toNat s10)) fun y => bif Sh.ok q0 y then Option.bind (runFn eQ n 25 [AV.href 0 0 0, AV.t (Tree.slc s8), AV.t (lQ y)] [q3, HObj.tre q1 h1]) fun y => bif true && (isT
 (Sh.tup [Sh.int IntKind.i64, Sh.bool]) (Prod.fst y) && q7 (Prod.snd y)) then bif !Tree.toBool (q6 (List.tail (Tree.tupl (avT (Prod.fst y))))) then some (AV.t (Tree.tup
 [q4 0, Tree.bool false]), [HObj.mix (Sh.agg [Sh.slc]) [AV.agg [AV.hsl 4 none]], HObj.dead, HObj.tre q0 [Tree.agg [q4 h200, q4 h201, Tree.str h202, Tree.slc h203, Tree.slc
 h204]], HObj.tre (Sh.int IntKind.i64) h3, HObj.tre q1 (gRow (Prod.snd y))]) else bif true && Nat.ble ((List.length h3 + 1) * 8) 140737488355328 then M25_0zb n q K s1 s8
 (IntKind.wrap IntKind.i64 (s10 + 1)) (gRow (Prod.snd y)) h200 h201 h202 h203 h204 (h3 ++ [q4 (Tree.toInt (q6 (Tree.tupl (avT (Prod.fst y)))))]) else none else none else
 none else none else K (S25zx1 s1 s8 s10 s10 h204 (↑(List.length h204) : Int) false h1 h200 h201 h202 h203 h204 h3) := by kernel_rfl

theorem z25zx1 (n : Nat) (s1 s8 : List Tree) (s10 s27 : Int) (s29 : List Tree) (s30 : Int) (s31 : Bool) (h1 : List Tree) (h200 h201 : Int) (h202 : List UInt8) (h203 h204
 h3 : List Tree) : evZH eQ 1 n 25 5 (S25zx1 s1 s8 s10 s27 s29 s30 s31 h1 h200 h201 h202 h203 h204 h3) = bif h200 == 1 then bif decide (0 ≤ IntKind.wrap IntKind.i64
 (IntKind.wrap IntKind.i64 ((↑(List.length s1) : Int) - 1) - h201)) then Option.bind (nth s1 (Int.toNat (IntKind.wrap IntKind.i64 (IntKind.wrap IntKind.i64 ((↑(List.length
 s1) : Int) - 1) - h201)))) fun y => bif q8 y then some (AV.t (Tree.tup [q4 (Tree.toInt y), Tree.bool true]), [q3, HObj.tre q1 h1, HObj.tre q0 [Tree.agg [q4 h200, q4 h201,
 Tree.str h202, Tree.slc h203, Tree.slc h204]], HObj.tre (Sh.int IntKind.i64) h3]) else none else none else bif h200 == 2 then bif decide (0 ≤ IntKind.wrap IntKind.i64
 ((↑(List.length s8) : Int) - 1)) then Option.bind (nth s8 (Int.toNat (IntKind.wrap IntKind.i64 ((↑(List.length s8) : Int) - 1)))) fun y => bif q8 y then bif true &&
 (decide (0 < (↑(List.length h3) : Int)) && true) then Option.bind (nth h3 0) fun y_1 => bif q8 y_1 then Option.bind (runFn eQ n 52 [AV.href 0 0 0, AV.t (Tree.str [84,
 111]), AV.t (Tree.slc [q4 (Tree.toInt y), q4 (Tree.toInt y_1)])] [q3, HObj.tre q1 h1]) fun y_2 => bif true && (isT (Sh.int IntKind.i64) (Prod.fst y_2) && q7 (Prod.snd
 y_2)) then some (AV.t (Tree.tup [q4 (Tree.toInt (avT (Prod.fst y_2))), Tree.bool true]), [HObj.mix (Sh.agg [Sh.slc]) [AV.agg [AV.hsl 5 none]], HObj.dead, HObj.tre q0
 [Tree.agg [q4 h200, q4 h201, Tree.str h202, Tree.slc h203, Tree.slc h204]], HObj.tre (Sh.int IntKind.i64) h3, HObj.froz (Sh.int IntKind.i64) [q4 (Tree.toInt y), q4
 (Tree.toInt y_1)], HObj.tre q1 (gRow (Prod.snd y_2))]) else none else none else none else none else none else bif h200 == 3 then Option.bind (runFn eQ n 52 [AV.href 0 0
 0, AV.t (Tree.str []), AV.t (Tree.slc [])] [q3, HObj.tre q1 h1]) fun y => bif true && (isT (Sh.int IntKind.i64) (Prod.fst y) && q7 (Prod.snd y)) then bif true && (decide
 (0 < (↑(List.length h3) : Int)) && true) then Option.bind (nth h3 0) fun y_1 => bif q8 y_1 then bif true && (decide (1 < (↑(List.length h3) : Int)) && true) then
 Option.bind (nth h3 1) fun y_2 => bif q8 y_2 then Option.bind (runFn eQ n 52 [AV.href 0 0 0, AV.t (Tree.str [84, 111]), AV.t (Tree.slc [q4 (Tree.toInt y_2), q4
 (Tree.toInt (avT (Prod.fst y)))])] [q3, HObj.tre q1 (gRow (Prod.snd y))]) fun y_3 => bif true && (isT (Sh.int IntKind.i64) (Prod.fst y_3) && q7 (Prod.snd y_3)) then
 Option.bind (runFn eQ n 53 [AV.href 0 0 0, AV.t (q4 (Tree.toInt y_1)), AV.t (q4 (Tree.toInt (avT (Prod.fst y_3))))] [q3, HObj.tre q1 (gRow (Prod.snd y_3))]) fun y_4 =>
 bif true && (isT Sh.bool (Prod.fst y_4) && q7 (Prod.snd y_4)) then some (AV.t (Tree.tup [q4 (Tree.toInt (avT (Prod.fst y))), Tree.bool (Tree.toBool (avT (Prod.fst
 y_4)))]), [HObj.mix (Sh.agg [Sh.slc]) [AV.agg [AV.hsl 7 none]], HObj.dead, HObj.tre q0 [Tree.agg [q4 h200, q4 h201, Tree.str h202, Tree.slc h203, Tree.slc h204]],
 HObj.tre (Sh.int IntKind.i64) h3, HObj.dead, HObj.froz (Sh.int IntKind.i64) [q4 (Tree.toInt y_2), q4 (Tree.toInt (avT (Prod.fst y)))], HObj.dead, HObj.tre q1 (gRow
 (Prod.snd y_4))]) else none else none else none else none else none else none else none else bif h200 == 4 then Option.bind (runFn eQ n 52 [AV.href 0 0 0, AV.t (Tree.str
 [78, 97, 116]), AV.t (Tree.slc [])] [q3, HObj.tre q1 h1]) fun y => bif true && (isT (Sh.int IntKind.i64) (Prod.fst y) && q7 (Prod.snd y)) then some (AV.t (Tree.tup [q4
 (Tree.toInt (avT (Prod.fst y))), Tree.bool true]), [HObj.mix (Sh.agg [Sh.slc]) [AV.agg [AV.hsl 4 none]], HObj.dead, HObj.tre q0 [Tree.agg [q4 h200, q4 h201, Tree.str
 h202, Tree.slc h203, Tree.slc h204]], HObj.tre (Sh.int IntKind.i64) h3, HObj.tre q1 (gRow (Prod.snd y))]) else none else bif h200 == 5 then bif true && (decide (0 <
 (↑(List.length h3) : Int)) && true) then Option.bind (nth h3 0) fun y => bif q8 y then bif true && (decide (0 < (↑(List.length h3) : Int)) && true) then Option.bind (nth
 h3 0) fun y_1 => bif q8 y_1 then Option.bind (runFn eQ n 52 [AV.href 0 0 0, AV.t (Tree.str [78, 97, 116]), AV.t (Tree.slc [])] [q3, HObj.tre q1 h1]) fun y_2 => bif true
 && (isT (Sh.int IntKind.i64) (Prod.fst y_2) && q7 (Prod.snd y_2)) then Option.bind (runFn eQ n 53 [AV.href 0 0 0, AV.t (q4 (Tree.toInt y_1)), AV.t (q4 (Tree.toInt (avT
 (Prod.fst y_2))))] [q3, HObj.tre q1 (gRow (Prod.snd y_2))]) fun y_3 => bif true && (isT Sh.bool (Prod.fst y_3) && q7 (Prod.snd y_3)) then some (AV.t (Tree.tup [q4
 (Tree.toInt y), Tree.bool (Tree.toBool (avT (Prod.fst y_3)))]), [HObj.mix (Sh.agg [Sh.slc]) [AV.agg [AV.hsl 5 none]], HObj.dead, HObj.tre q0 [Tree.agg [q4 h200, q4 h201,
 Tree.str h202, Tree.slc h203, Tree.slc h204]], HObj.tre (Sh.int IntKind.i64) h3, HObj.dead, HObj.tre q1 (gRow (Prod.snd y_3))]) else none else none else none else none
 else none else none else bif h200 == 6 then bif true && (decide (0 < (↑(List.length h3) : Int)) && true) then Option.bind (nth h3 0) fun y => bif q8 y then Option.bind
 (runFn eQ n 52 [AV.href 0 0 0, AV.t (Tree.str [78, 97, 116]), AV.t (Tree.slc [])] [q3, HObj.tre q1 h1]) fun y_1 => bif true && (isT (Sh.int IntKind.i64) (Prod.fst y_1) &&
 q7 (Prod.snd y_1)) then Option.bind (runFn eQ n 53 [AV.href 0 0 0, AV.t (q4 (Tree.toInt y)), AV.t (q4 (Tree.toInt (avT (Prod.fst y_1))))] [q3, HObj.tre q1 (gRow (Prod.snd
 y_1))]) fun y => bif true && (isT Sh.bool (Prod.fst y) && q7 (Prod.snd y)) then bif true && (decide (2 < (↑(List.length h3) : Int)) && true) then Option.bind (nth h3 2)
 fun y_2 => bif q8 y_2 then bif Tree.toBool (avT (Prod.fst y)) then bif true && (decide (1 < (↑(List.length h3) : Int)) && true) then Option.bind (nth h3 1) fun y_3 => bif
 q8 y_3 then bif true && (decide (2 < (↑(List.length h3) : Int)) && true) then Option.bind (nth h3 2) fun y_4 => bif q8 y_4 then bif true && (decide (2 < (↑(List.length
 h3) : Int)) && true) then Option.bind (nth h3 2) fun y_5 => bif q8 y_5 then Option.bind (runFn eQ n 52 [AV.href 0 0 0, AV.t (Tree.str [84, 111]), AV.t (Tree.slc [q4
 (Tree.toInt y_4), q4 (Tree.toInt y_5)])] [q3, HObj.tre q1 (gRow (Prod.snd y))]) fun y => bif true && (isT (Sh.int IntKind.i64) (Prod.fst y) && q7 (Prod.snd y)) then
 Option.bind (runFn eQ n 53 [AV.href 0 0 0, AV.t (q4 (Tree.toInt y_3)), AV.t (q4 (Tree.toInt (avT (Prod.fst y))))] [q3, HObj.tre q1 (gRow (Prod.snd y))]) fun y => bif true
 && (isT Sh.bool (Prod.fst y) && q7 (Prod.snd y)) then some (AV.t (Tree.tup [q4 (Tree.toInt y_2), Tree.bool (Tree.toBool (avT (Prod.fst y)))]), [HObj.mix (Sh.agg [Sh.slc])
 [AV.agg [AV.hsl 8 none]], HObj.dead, HObj.tre q0 [Tree.agg [q4 h200, q4 h201, Tree.str h202, Tree.slc h203, Tree.slc h204]], HObj.tre (Sh.int IntKind.i64) h3, HObj.dead,
 HObj.dead, HObj.froz (Sh.int IntKind.i64) [q4 (Tree.toInt y_4), q4 (Tree.toInt y_5)], HObj.dead, HObj.tre q1 (gRow (Prod.snd y))]) else none else none else none else none
 else none else none else none else none else some (AV.t (Tree.tup [q4 (Tree.toInt y_2), Tree.bool false]), [HObj.mix (Sh.agg [Sh.slc]) [AV.agg [AV.hsl 5 none]],
 HObj.dead, HObj.tre q0 [Tree.agg [q4 h200, q4 h201, Tree.str h202, Tree.slc h203, Tree.slc h204]], HObj.tre (Sh.int IntKind.i64) h3, HObj.dead, HObj.tre q1 (gRow
 (Prod.snd y))]) else none else none else none else none else none else none else bif h200 == 7 then bif true && (decide (0 < (↑(List.length h3) : Int)) && true) then
 Option.bind (nth h3 0) fun y => bif q8 y then bif true && (decide (1 < (↑(List.length h3) : Int)) && true) then Option.bind (nth h3 1) fun y_1 => bif q8 y_1 then
 Option.bind (runFn eQ n 52 [AV.href 0 0 0, AV.t (Tree.str [80, 97, 105, 114]), AV.t (Tree.slc [q4 (Tree.toInt y), q4 (Tree.toInt y_1)])] [q3, HObj.tre q1 h1]) fun y_2 =>
 bif true && (isT (Sh.int IntKind.i64) (Prod.fst y_2) && q7 (Prod.snd y_2)) then some (AV.t (Tree.tup [q4 (Tree.toInt (avT (Prod.fst y_2))), Tree.bool true]), [HObj.mix
 (Sh.agg [Sh.slc]) [AV.agg [AV.hsl 5 none]], HObj.dead, HObj.tre q0 [Tree.agg [q4 h200, q4 h201, Tree.str h202, Tree.slc h203, Tree.slc h204]], HObj.tre (Sh.int
 IntKind.i64) h3, HObj.froz (Sh.int IntKind.i64) [q4 (Tree.toInt y), q4 (Tree.toInt y_1)], HObj.tre q1 (gRow (Prod.snd y_2))]) else none else none else none else none else
 none else Option.bind (runFn eQ n 52 [AV.href 0 0 0, AV.t (Tree.str []), AV.t (Tree.slc [])] [q3, HObj.tre q1 h1]) fun y => bif true && (isT (Sh.int IntKind.i64)
 (Prod.fst y) && q7 (Prod.snd y)) then Option.bind (runFn eQ n 52 [AV.href 0 0 0, AV.t (Tree.str []), AV.t (Tree.slc [])] [q3, HObj.tre q1 (gRow (Prod.snd y))]) fun y_1 =>
 bif true && (isT (Sh.int IntKind.i64) (Prod.fst y_1) && q7 (Prod.snd y_1)) then bif decide (0 ≤ IntKind.wrap IntKind.i64 (h200 - 8)) && (decide (IntKind.wrap IntKind.i64
 (h200 - 8) < (↑2 : Int)) && true) then Option.bind (nth [q4 (Tree.toInt (avT (Prod.fst y))), q4 (Tree.toInt (avT (Prod.fst y_1)))] (Int.toNat (IntKind.wrap IntKind.i64
 (h200 - 8)))) fun y_2 => bif q8 y_2 then bif true && (decide (0 < (↑(List.length h3) : Int)) && true) then Option.bind (nth h3 0) fun y_3 => bif q8 y_3 then Option.bind
 (runFn eQ n 52 [AV.href 0 0 0, AV.t (Tree.str [80, 97, 105, 114]), AV.t (Tree.slc [q4 (Tree.toInt (avT (Prod.fst y))), q4 (Tree.toInt (avT (Prod.fst y_1)))])] [q3,
 HObj.tre q1 (gRow (Prod.snd y_1))]) fun y_4 => bif true && (isT (Sh.int IntKind.i64) (Prod.fst y_4) && q7 (Prod.snd y_4)) then Option.bind (runFn eQ n 53 [AV.href 0 0 0,
 AV.t (q4 (Tree.toInt y_3)), AV.t (q4 (Tree.toInt (avT (Prod.fst y_4))))] [q3, HObj.tre q1 (gRow (Prod.snd y_4))]) fun y_5 => bif true && (isT Sh.bool (Prod.fst y_5) && q7
 (Prod.snd y_5)) then some (AV.t (Tree.tup [q4 (Tree.toInt y_2), Tree.bool (Tree.toBool (avT (Prod.fst y_5)))]), [HObj.mix (Sh.agg [Sh.slc]) [AV.agg [AV.hsl 9 none]],
 HObj.dead, HObj.tre q0 [Tree.agg [q4 h200, q4 h201, Tree.str h202, Tree.slc h203, Tree.slc h204]], HObj.tre (Sh.int IntKind.i64) h3, HObj.dead, HObj.dead, HObj.tre
 (Sh.int IntKind.i64) [q4 (Tree.toInt (avT (Prod.fst y))), q4 (Tree.toInt (avT (Prod.fst y_1)))], HObj.froz (Sh.int IntKind.i64) [q4 (Tree.toInt (avT (Prod.fst y))), q4
 (Tree.toInt (avT (Prod.fst y_1)))], HObj.dead, HObj.tre q1 (gRow (Prod.snd y_5))]) else none else none else none else none else none else none else none else none := by
 kernel_rfl

theorem k25_0zc (n q : Nat) (K : St → Option (AV × Heap)) (s1 : List Tree) (s10 : Int) (h1 : List Tree) (h200 h201 : Int) (h202 : List UInt8) (h203 h204 h3 : List Tree) :
 M25_0zc n (Nat.succ q) K s1 s10 h1 h200 h201 h202 h203 h204 h3 = bif decide (s10 < (↑(List.length h204) : Int)) then bif decide (0 ≤ s10) then Option.bind (nth h204
 (Int.toNat s10)) fun y => bif Sh.ok q0 y then Option.bind (runFn eQ n 25 [AV.href 0 0 0, AV.t (Tree.slc h3), AV.t (lQ y)] [q3, HObj.tre q1 h1]) fun y => bif true && (isT
 (Sh.tup [Sh.int IntKind.i64, Sh.bool]) (Prod.fst y) && q7 (Prod.snd y)) then bif !Tree.toBool (q6 (List.tail (Tree.tupl (avT (Prod.fst y))))) then some (AV.t (Tree.tup
 [q4 0, Tree.bool false]), [HObj.mix (Sh.agg [Sh.slc]) [AV.agg [AV.hsl 4 none]], HObj.dead, HObj.tre q0 [Tree.agg [q4 h200, q4 h201, Tree.str h202, Tree.slc h203, Tree.slc
 h204]], HObj.froz (Sh.int IntKind.i64) h3, HObj.tre q1 (gRow (Prod.snd y))]) else M25_0zx3 n q K s1 (IntKind.wrap IntKind.i64 (s10 + 1)) (gRow (Prod.snd y)) h200 h201
 h202 h203 h204 h3 [q4 (Tree.toInt (q6 (Tree.tupl (avT (Prod.fst y)))))] else none else none else none else K (S25zx2 s1 s10 s10 h204 (↑(List.length h204) : Int) false h1
 h200 h201 h202 h203 h204 h3) := by kernel_rfl

theorem k25_0zx3 (n q : Nat) (K : St → Option (AV × Heap)) (s1 : List Tree) (s10 : Int) (h1 : List Tree) (h200 h201 : Int) (h202 : List UInt8) (h203 h204 h3 h4 : List
 Tree) : M25_0zx3 n (Nat.succ q) K s1 s10 h1 h200 h201 h202 h203 h204 h3 h4 = bif decide (s10 < (↑(List.length h204) : Int)) then bif decide (0 ≤ s10) then Option.bind
 (nth h204 (Int.toNat s10)) fun y => bif Sh.ok q0 y then Option.bind (runFn eQ n 25 [AV.href 0 0 0, AV.t (Tree.slc h3), AV.t (lQ y)] [q3, HObj.tre q1 h1]) fun y => bif
 true && (isT (Sh.tup [Sh.int IntKind.i64, Sh.bool]) (Prod.fst y) && q7 (Prod.snd y)) then bif !Tree.toBool (q6 (List.tail (Tree.tupl (avT (Prod.fst y))))) then some (AV.t
 (Tree.tup [q4 0, Tree.bool false]), [HObj.mix (Sh.agg [Sh.slc]) [AV.agg [AV.hsl 5 none]], HObj.dead, HObj.tre q0 [Tree.agg [q4 h200, q4 h201, Tree.str h202, Tree.slc
 h203, Tree.slc h204]], HObj.froz (Sh.int IntKind.i64) h3, HObj.tre (Sh.int IntKind.i64) h4, HObj.tre q1 (gRow (Prod.snd y))]) else bif true && Nat.ble ((List.length h4 +
 1) * 8) 140737488355328 then M25_0zx3 n q K s1 (IntKind.wrap IntKind.i64 (s10 + 1)) (gRow (Prod.snd y)) h200 h201 h202 h203 h204 h3 (h4 ++ [q4 (Tree.toInt (q6 (Tree.tupl
 (avT (Prod.fst y)))))]) else none else none else none else none else K (S25zx3 s1 s10 s10 h204 (↑(List.length h204) : Int) false h1 h200 h201 h202 h203 h204 h3 h4) := by
 kernel_rfl

theorem e7 (n : Nat) (o k : Int) (tn : List UInt8) (tl l : List Tree) : evQ eQ n 7 [Tree.agg [q4 o, q4 k, Tree.str tn, Tree.slc tl, Tree.slc l]] = Option.bind (evP eQ n 21
 [Tree.agg [q4 o, q4 k, Tree.str tn, Tree.slc tl, Tree.slc l]]) fun y => bif Sh.ok Sh.bool y then bif !Tree.toBool y then some (Tree.tup [Tree.agg [Tree.str [], Tree.slc
 []], q4 4]) else Option.bind (evP eQ n 23 [Tree.agg [q4 o, q4 k, Tree.str tn, Tree.slc tl, Tree.slc l]]) fun y => bif Sh.ok q0 y then Option.bind (evP eQ n 22 [lQ y]) fun
 y => bif Sh.ok Sh.bool y then bif !Tree.toBool y then some (Tree.tup [Tree.agg [Tree.str [], Tree.slc []], q4 4]) else Option.bind (evP eQ n 24 [Tree.agg [q4 o, q4 k,
 Tree.str tn, Tree.slc tl, Tree.slc l], q4 0]) fun y => bif Sh.ok Sh.bool y then bif !Tree.toBool y then some (Tree.tup [Tree.agg [Tree.str [], Tree.slc []], q4 4]) else
 Option.bind (runFn eQ n 25 [AV.href 0 0 0, AV.t (Tree.slc []), AV.t (Tree.agg [q4 o, q4 k, Tree.str tn, Tree.slc tl, Tree.slc l])] [HObj.mix (Sh.agg [Sh.slc]) [AV.agg
 [AV.nilS]]]) fun y => bif true && (isT (Sh.tup [Sh.int IntKind.i64, Sh.bool]) (Prod.fst y) && q7 (Prod.snd y)) then bif !Tree.toBool (q6 (List.tail (Tree.tupl (avT
 (Prod.fst y))))) then some (Tree.tup [Tree.agg [Tree.str [], Tree.slc []], q4 250]) else bif true && (decide ((↑(List.length (gRow (Prod.snd y))) : Int) ≤ (↑(List.length
 (gRow (Prod.snd y))) : Int)) && decide ((↑(List.length (gRow (Prod.snd y))) : Int) * (↑8 : Int) ≤ 140737488355328) && decide ((↑(List.length (gRow (Prod.snd y))) : Int) ≤
 140737488355328)) then L7_0 n n (Tree.toInt (q6 (Tree.tupl (avT (Prod.fst y))))) (Int.toNat (↑(List.length (gRow (Prod.snd y))) : Int)) 0 [] (gRow (Prod.snd y))
 (List.replicate (Int.toNat (↑(List.length (gRow (Prod.snd y))) : Int)) (q4 0)) else none else none else none else none else none else none := by kernel_rfl

theorem l7_0 (n q : Nat) (s5 : Int) (s7k : Nat) (s8 : Int) (h000 : List UInt8) (h2 h3 : List Tree) : L7_0 n (Nat.succ q) s5 s7k s8 h000 h2 h3 = bif decide (s8 <
 (↑(List.length h2) : Int)) then Option.bind (runFn eQ n 26 [AV.t (Tree.ptr (Tree.agg [Tree.slc h2]) 0), AV.t (q4 s8), AV.hsl 0 (some s7k)] [HObj.tre (Sh.int IntKind.i64)
 h3]) fun y => bif true && (isT Sh.bool (Prod.fst y) && mForm (Sh.int IntKind.i64) (Prod.snd y)) then bif !Tree.toBool (avT (Prod.fst y)) then some (Tree.tup [Tree.agg
 [Tree.str [], Tree.slc []], q4 250]) else L7_0b n q s5 s7k (IntKind.wrap IntKind.i64 (s8 + 1)) h000 h2 (mRow (Prod.snd y)) else none else Option.bind (evP eQ n 27
 [Tree.ptr (Tree.agg [Tree.slc h2]) 0, q4 s5, q4 200]) fun y => bif q8 y then bif decide (Tree.toInt y > 200) then some (Tree.tup [Tree.agg [Tree.str [], Tree.slc []], q4
 2]) else Option.bind (runFn eQ n 28 [AV.t (Tree.ptr (Tree.agg [Tree.slc h2]) 0), AV.t (q4 s5), AV.nilS] []) fun y => bif nForm q2 (Sh.int IntKind.i64) (Prod.fst y)
 (Prod.snd y) then some (Tree.tup [tQ' (nTy q2 (Sh.int IntKind.i64) (Prod.fst y) (Prod.snd y)), q4 0]) else bif nNil q2 (Sh.int IntKind.i64) (Prod.fst y) (Prod.snd y) &&
 true then some (Tree.tup [tQ' (nTy q2 (Sh.int IntKind.i64) (Prod.fst y) (Prod.snd y)), q4 0]) else none else none := by kernel_rfl

theorem l7_0b (n q : Nat) (s5 : Int) (s7k : Nat) (s8 : Int) (h000 : List UInt8) (h100 h2 : List Tree) : L7_0b n (Nat.succ q) s5 s7k s8 h000 h100 h2 = bif decide (s8 <
 (↑(List.length h100) : Int)) then Option.bind (runFn eQ n 26 [AV.t (Tree.ptr (Tree.agg [Tree.slc h100]) 0), AV.t (q4 s8), AV.hsl 0 (some s7k)] [HObj.tre (Sh.int
 IntKind.i64) h2]) fun y => bif true && (isT Sh.bool (Prod.fst y) && mForm (Sh.int IntKind.i64) (Prod.snd y)) then bif !Tree.toBool (avT (Prod.fst y)) then some (Tree.tup
 [Tree.agg [Tree.str [], Tree.slc []], q4 250]) else L7_0b n q s5 s7k (IntKind.wrap IntKind.i64 (s8 + 1)) h000 h100 (mRow (Prod.snd y)) else none else Option.bind (evP eQ
 n 27 [Tree.ptr (Tree.agg [Tree.slc h100]) 0, q4 s5, q4 200]) fun y => bif q8 y then bif decide (Tree.toInt y > 200) then some (Tree.tup [Tree.agg [Tree.str [], Tree.slc
 []], q4 2]) else Option.bind (runFn eQ n 28 [AV.t (Tree.ptr (Tree.agg [Tree.slc h100]) 0), AV.t (q4 s5), AV.nilS] []) fun y => bif nForm q2 (Sh.int IntKind.i64) (Prod.fst
 y) (Prod.snd y) then some (Tree.tup [tQ' (nTy q2 (Sh.int IntKind.i64) (Prod.fst y) (Prod.snd y)), q4 0]) else bif nNil q2 (Sh.int IntKind.i64) (Prod.fst y) (Prod.snd y)
 && true then some (Tree.tup [tQ' (nTy q2 (Sh.int IntKind.i64) (Prod.fst y) (Prod.snd y)), q4 0]) else none else none := by kernel_rfl


end Go.Proofs.Cw.Si
end

/-
  EQUATIONS behind the loops, where a node is a function: cut by program out of SiE1, SiE2 (gencut.py).
-/
section
set_option maxRecDepth 100000
namespace Go.Proofs.Cw.Si
open Go.Proofs

theorem y25x3 (n : Nat) (s1 : List Tree) (s10 s27 : Int) (s29 : List Tree) (s30 : Int) (s31 : Bool) (h2 : List Tree) (h301 : Int) (h302 : List UInt8) (h303 h304 h4 h5 :
 List Tree) : evZH eQ 2 n 25 5 (S25x3 s1 s10 s27 s29 s30 s31 h2 2 h301 h302 h303 h304 h4 h5) = bif decide (0 ≤ IntKind.wrap IntKind.i64 ((↑(List.length h4) : Int) - 1)) &&
 (decide (IntKind.wrap IntKind.i64 ((↑(List.length h4) : Int) - 1) < (↑(List.length h4) : Int)) && true) then Option.bind (nth h4 (Int.toNat (IntKind.wrap IntKind.i64
 ((↑(List.length h4) : Int) - 1)))) fun y => bif q8 y then bif true && (decide (0 < (↑(List.length h5) : Int)) && true) then Option.bind (nth h5 0) fun y_1 => bif q8 y_1
 then Option.bind (runFn eQ n 52 [AV.href 0 0 0, AV.t (Tree.str [84, 111]), AV.t (Tree.slc [q4 (Tree.toInt y), q4 (Tree.toInt y_1)])] [q3, HObj.tre q1 h2]) fun y_2 => bif
 true && (isT (Sh.int IntKind.i64) (Prod.fst y_2) && q7 (Prod.snd y_2)) then some (AV.t (Tree.tup [q4 (Tree.toInt (avT (Prod.fst y_2))), Tree.bool true]), [HObj.mix
 (Sh.agg [Sh.slc]) [AV.agg [AV.hsl 7 none]], HObj.dead, HObj.dead, HObj.tre q0 [Tree.agg [q4 2, q4 h301, Tree.str h302, Tree.slc h303, Tree.slc h304]], HObj.froz (Sh.int
 IntKind.i64) h4, HObj.tre (Sh.int IntKind.i64) h5, HObj.froz (Sh.int IntKind.i64) [q4 (Tree.toInt y), q4 (Tree.toInt y_1)], HObj.tre q1 (gRow (Prod.snd y_2))]) else none
 else none else none else none else none := by kernel_rfl

theorem y25zx3 (n : Nat) (s1 : List Tree) (s10 s27 : Int) (s29 : List Tree) (s30 : Int) (s31 : Bool) (h1 : List Tree) (h201 : Int) (h202 : List UInt8) (h203 h204 h3 h4 :
 List Tree) : evZH eQ 1 n 25 5 (S25zx3 s1 s10 s27 s29 s30 s31 h1 2 h201 h202 h203 h204 h3 h4) = bif decide (0 ≤ IntKind.wrap IntKind.i64 ((↑(List.length h3) : Int) - 1))
 && (decide (IntKind.wrap IntKind.i64 ((↑(List.length h3) : Int) - 1) < (↑(List.length h3) : Int)) && true) then Option.bind (nth h3 (Int.toNat (IntKind.wrap IntKind.i64
 ((↑(List.length h3) : Int) - 1)))) fun y => bif q8 y then bif true && (decide (0 < (↑(List.length h4) : Int)) && true) then Option.bind (nth h4 0) fun y_1 => bif q8 y_1
 then Option.bind (runFn eQ n 52 [AV.href 0 0 0, AV.t (Tree.str [84, 111]), AV.t (Tree.slc [q4 (Tree.toInt y), q4 (Tree.toInt y_1)])] [q3, HObj.tre q1 h1]) fun y_2 => bif
 true && (isT (Sh.int IntKind.i64) (Prod.fst y_2) && q7 (Prod.snd y_2)) then some (AV.t (Tree.tup [q4 (Tree.toInt (avT (Prod.fst y_2))), Tree.bool true]), [HObj.mix
 (Sh.agg [Sh.slc]) [AV.agg [AV.hsl 6 none]], HObj.dead, HObj.tre q0 [Tree.agg [q4 2, q4 h201, Tree.str h202, Tree.slc h203, Tree.slc h204]], HObj.froz (Sh.int IntKind.i64)
 h3, HObj.tre (Sh.int IntKind.i64) h4, HObj.froz (Sh.int IntKind.i64) [q4 (Tree.toInt y), q4 (Tree.toInt y_1)], HObj.tre q1 (gRow (Prod.snd y_2))]) else none else none
 else none else none else none := by kernel_rfl

theorem y19x3 (n s0 : Nat) (s1 s28 : List Tree) (s29 s30 : Int) (s31 : Bool) (h0G : World') (h101 : Int) (h102 : List UInt8) (h103 h104 h2 h3 : List Tree) : evZW eQ n 19 5
 (S19x3 s0 s1 s28 s29 s30 s31 h0G 2 h101 h102 h103 h104 h2 h3) = bif decide (0 ≤ IntKind.wrap IntKind.i64 ((↑(List.length h2) : Int) - 1)) && (decide (IntKind.wrap
 IntKind.i64 ((↑(List.length h2) : Int) - 1) < (↑(List.length h2) : Int)) && true) then Option.bind (nth h2 (Int.toNat (IntKind.wrap IntKind.i64 ((↑(List.length h2) : Int)
 - 1)))) fun y => bif Sh.ok Sh.wp y then bif true && (decide (0 < (↑(List.length h3) : Int)) && true) then Option.bind (nth h3 0) fun y_1 => bif Sh.ok Sh.wp y_1 then
 Option.bind (evW eQ n 45 [Tree.str [84, 111], Tree.wp (Tree.wid y) 0, Tree.wp (Tree.wid y_1) 0] (h0G ++ [WObj.cells [Tree.str [78, 97, 116], q4 0, Tree.slc []]])) fun y
 => bif Sh.ok Sh.wp (Prod.fst y) then some (Tree.tup [Tree.wp (Tree.wid (Prod.fst y)) 0, Tree.bool true], Prod.snd y) else none else none else none else none else none :=
 by kernel_rfl


end Go.Proofs.Cw.Si
end

/-
  THE INFERER'S WORLD 12: behind infer's loop.
-/
section
namespace Go.Proofs.Cw.Si
open Go.Proofs
theorem rest_num {f : Nat} {s1 ctx l : List Tree} {len i k : Int} {G : World'} {tn : List UInt8} {tl ps : List Tree} (n : Nat) :
  evZW (Tab.env tab) n 19 5 (S19s false f s1 ctx l len i G 4 k tn tl ps []) = some (.tup [.wp G.length 0, .bool true], G ++ [Nd.nat.obj]) := by
 show evZW (Tab.env tab) n 19 5 (S19 f s1 ctx l len i false G 4 k tn tl ps) = _
 rw [z19]
 rfl
theorem nth_wps {l : List Nat} {i j : Nat} (h : l[i]? = some j) : nth (wps l) i = some (.wp j 0) := by
 rw [wps, nth_map, nth_eq, h]; rfl
theorem rest_var {f : Nat} {ctx : List Nat} {ctx2 l : List Tree} {len i k : Int} {G : World'} {tn : List UInt8} {tl ps : List Tree} {j : Nat} (n : Nat) (h0 : 0 ≤ k) (h1 : k < ctx.length) (hc : ctx.length ≤ 1000000) (hj : ctx[ctx.length - 1 - k.toNat]? = some j) :
  evZW (Tab.env tab) n 19 5 (S19s false f (wps ctx) ctx2 l len i G 1 k tn tl ps []) = some (.tup [.wp j 0, .bool true], G ++ [Nd.nat.obj]) := by
 show evZW (Tab.env tab) n 19 5 (S19 f (wps ctx) ctx2 l len i false G 1 k tn tl ps) = _
 rw [z19]
 rw [wps_len]
 have e : IntKind.wrap .i64 (IntKind.wrap .i64 (((ctx.length : Nat) : Int) - 1) - k) = ((ctx.length - 1 - k.toNat : Nat) : Int) := by
  rw [w64 (x := ((ctx.length : Nat) : Int) - 1) (by omega), w64 (by omega)]; omega
 rw [e]
 refine step_t rfl (step_t (by simp) (step_b (y := .wp j 0) ?_ ?_))
 ·rw [Int.toNat_natCast]; exact nth_wps hj
 ·exact step_t rfl rfl
theorem rest_suc {f a c : Nat} {s1 ctx l : List Tree} {len i k : Int} {G G2 : World'} {tn : List UInt8} {tl ps : List Tree} {v : Bool} (h : EvW E c 46 [.wp f 0, .wp a 0, .wp G.length 0] (G ++ [Nd.nat.obj]) (.bool v) G2) (n : Nat) (hn : c ≤ n) :
  evZW (Tab.env tab) n 19 5 (S19s false f s1 ctx l len i G 5 k tn tl ps (wps [a])) = some (.tup [.wp G.length 0, .bool v], G2) := by
 show evZW (Tab.env tab) n 19 5 (S19x1 f s1 ctx l len i false G 5 k tn tl ps [.wp a 0]) = _
 rw [z19x1]
 refine step_f rfl (step_f rfl (step_f rfl (step_t rfl (step_t rfl (step_b (y := .wp a 0) rfl (step_t rfl ?_))))))
 exact step_b (h n hn) (step_t rfl rfl)
theorem rest_pair {f a b : Nat} {s1 ctx l : List Tree} {len i k : Int} {G : World'} {tn : List UInt8} {tl ps : List Tree} (n : Nat) (hn : 1 ≤ n) :
  evZW (Tab.env tab) n 19 5 (S19s false f s1 ctx l len i G 7 k tn tl ps (wps [a, b])) = some (.tup [.wp (G ++ [Nd.nat.obj]).length 0, .bool true], (G ++ [Nd.nat.obj]) ++ [(Nd.bin false a b).obj]) := by
 show evZW (Tab.env tab) n 19 5 (S19x1 f s1 ctx l len i false G 7 k tn tl ps [.wp a 0, .wp b 0]) = _
 rw [z19x1]
 refine step_f rfl (step_f rfl (step_f rfl (step_f rfl (step_f rfl (step_t rfl (step_t rfl (step_b (y := .wp a 0) rfl (step_t rfl (step_t rfl (step_b (y := .wp b 0) rfl (step_t rfl ?_)))))))))))
 exact step_b (s45 false a b _ n hn) (step_t rfl rfl)
theorem rest_app {f a b r c : Nat} {s1 ctx l : List Tree} {len i k : Int} {G G1 G2 : World'} {tn : List UInt8} {tl ps : List Tree} {v : Bool} (h1 : EvW E 1 44 [.wp f 0] (G ++ [Nd.nat.obj]) (.wp r 0) G1)
  (h2 : EvW E c 46 [.wp f 0, .wp a 0, .wp G1.length 0] (G1 ++ [(Nd.bin true b r).obj]) (.bool v) G2) (n : Nat) (hn : c + 1 ≤ n) :
  evZW (Tab.env tab) n 19 5 (S19s false f s1 ctx l len i G 3 k tn tl ps (wps [a, b])) = some (.tup [.wp r 0, .bool v], G2) := by
 show evZW (Tab.env tab) n 19 5 (S19x1 f s1 ctx l len i false G 3 k tn tl ps [.wp a 0, .wp b 0]) = _
 rw [z19x1]
 refine step_f rfl (step_f rfl (step_t rfl (step_b (h1 n (by omega)) (step_t rfl (step_t rfl (step_b (y := .wp a 0) rfl (step_t rfl (step_t rfl (step_b (y := .wp b 0) rfl (step_t rfl ?_))))))))))
 exact step_b (s45 true b r _ n (by omega)) (step_t rfl (step_b (h2 n (by omega)) (step_t rfl rfl)))
theorem rest_fst {f a r1 r2 c : Nat} {s1 ctx l : List Tree} {len i k : Int} {G G1 G2 G3 : World'} {tn : List UInt8} {tl ps : List Tree} {v : Bool} (h1 : EvW E 1 44 [.wp f 0] (G ++ [Nd.nat.obj]) (.wp r1 0) G1) (h2 : EvW E 1 44 [.wp f 0] G1 (.wp r2 0) G2)
  (h3 : EvW E c 46 [.wp f 0, .wp a 0, .wp G2.length 0] (G2 ++ [(Nd.bin false r1 r2).obj]) (.bool v) G3) (n : Nat) (hn : c + 1 ≤ n) :
  evZW (Tab.env tab) n 19 5 (S19s false f s1 ctx l len i G 8 k tn tl ps (wps [a])) = some (.tup [.wp r1 0, .bool v], G3) := by
 show evZW (Tab.env tab) n 19 5 (S19x1 f s1 ctx l len i false G 8 k tn tl ps [.wp a 0]) = _
 rw [z19x1]
 refine step_f rfl (step_f rfl (step_f rfl (step_f rfl (step_f rfl (step_f rfl (step_t rfl (step_b (h1 n (by omega)) (step_t rfl (step_b (h2 n (by omega)) (step_t rfl (step_t rfl (step_b (y := .wp r1 0) rfl (step_t rfl (step_t rfl (step_b (y := .wp a 0) rfl (step_t rfl ?_))))))))))))))))
 exact step_b (s45 false r1 r2 _ n (by omega)) (step_t rfl (step_b (h3 n (by omega)) (step_t rfl rfl)))
theorem rest_snd {f a r1 r2 c : Nat} {s1 ctx l : List Tree} {len i k : Int} {G G1 G2 G3 : World'} {tn : List UInt8} {tl ps : List Tree} {v : Bool} (h1 : EvW E 1 44 [.wp f 0] (G ++ [Nd.nat.obj]) (.wp r1 0) G1) (h2 : EvW E 1 44 [.wp f 0] G1 (.wp r2 0) G2)
  (h3 : EvW E c 46 [.wp f 0, .wp a 0, .wp G2.length 0] (G2 ++ [(Nd.bin false r1 r2).obj]) (.bool v) G3) (n : Nat) (hn : c + 1 ≤ n) :
  evZW (Tab.env tab) n 19 5 (S19s false f s1 ctx l len i G 9 k tn tl ps (wps [a])) = some (.tup [.wp r2 0, .bool v], G3) := by
 show evZW (Tab.env tab) n 19 5 (S19x1 f s1 ctx l len i false G 9 k tn tl ps [.wp a 0]) = _
 rw [z19x1]
 refine step_f rfl (step_f rfl (step_f rfl (step_f rfl (step_f rfl (step_f rfl (step_f rfl (step_t rfl (step_b (h1 n (by omega)) (step_t rfl (step_b (h2 n (by omega)) (step_t rfl (step_t rfl (step_b (y := .wp r2 0) rfl (step_t rfl (step_t rfl (step_b (y := .wp a 0) rfl (step_t rfl ?_)))))))))))))))))
 exact step_b (s45 false r1 r2 _ n (by omega)) (step_t rfl (step_b (h3 n (by omega)) (step_t rfl rfl)))
theorem rest_iter_no {f a b d c : Nat} {s1 ctx l : List Tree} {len i k : Int} {G G2 : World'} {tn : List UInt8} {tl ps : List Tree} (h : EvW E c 46 [.wp f 0, .wp a 0, .wp G.length 0] (G ++ [Nd.nat.obj]) (.bool false) G2) (n : Nat) (hn : c ≤ n) :
  evZW (Tab.env tab) n 19 5 (S19s false f s1 ctx l len i G 6 k tn tl ps (wps [a, b, d])) = some (.tup [.wp d 0, .bool false], G2) := by
 show evZW (Tab.env tab) n 19 5 (S19x1 f s1 ctx l len i false G 6 k tn tl ps [.wp a 0, .wp b 0, .wp d 0]) = _
 rw [z19x1]
 refine step_f rfl (step_f rfl (step_f rfl (step_f rfl (step_t rfl (step_t rfl (step_b (y := .wp d 0) rfl (step_t rfl (step_t rfl (step_b (y := .wp a 0) rfl (step_t rfl ?_))))))))))
 exact step_b (h n hn) (step_t rfl (step_f rfl rfl))
theorem rest_iter {f a b d c : Nat} {s1 ctx l : List Tree} {len i k : Int} {G G2 G3 : World'} {tn : List UInt8} {tl ps : List Tree} {v : Bool} (h : EvW E c 46 [.wp f 0, .wp a 0, .wp G.length 0] (G ++ [Nd.nat.obj]) (.bool true) G2)
  (h2 : EvW E c 46 [.wp f 0, .wp b 0, .wp G2.length 0] (G2 ++ [(Nd.bin true d d).obj]) (.bool v) G3) (n : Nat) (hn : c + 1 ≤ n) :
  evZW (Tab.env tab) n 19 5 (S19s false f s1 ctx l len i G 6 k tn tl ps (wps [a, b, d])) = some (.tup [.wp d 0, .bool v], G3) := by
 show evZW (Tab.env tab) n 19 5 (S19x1 f s1 ctx l len i false G 6 k tn tl ps [.wp a 0, .wp b 0, .wp d 0]) = _
 rw [z19x1]
 refine step_f rfl (step_f rfl (step_f rfl (step_f rfl (step_t rfl (step_t rfl (step_b (y := .wp d 0) rfl (step_t rfl (step_t rfl (step_b (y := .wp a 0) rfl (step_t rfl ?_))))))))))
 refine step_b (h n (by omega)) (step_t rfl (step_t rfl (step_t rfl (step_b (y := .wp b 0) rfl (step_t rfl (step_t rfl (step_b (y := .wp d 0) rfl (step_t rfl (step_t rfl (step_b (y := .wp d 0) rfl (step_t rfl ?_)))))))))))
 exact step_b (s45 true d d _ n (by omega)) (step_t rfl (step_b (h2 n (by omega)) (step_t rfl rfl)))
theorem rest_lam {f a b : Nat} {ctx : List Nat} {s1 l : List Tree} {len i k : Int} {G : World'} {tn : List UInt8} {tl ps : List Tree} (n : Nat) (hn : 1 ≤ n) (hc : ctx.length ≤ 1000000) :
  evZW (Tab.env tab) n 19 5 (S19s true f s1 (wps (ctx ++ [a])) l len i G 2 k tn tl ps (wps [b])) = some (.tup [.wp (G ++ [Nd.nat.obj]).length 0, .bool true], (G ++ [Nd.nat.obj]) ++ [(Nd.bin true a b).obj]) := by
 show evZW (Tab.env tab) n 19 5 (S19x3 f s1 l len i false G 2 k tn tl ps (wps (ctx ++ [a])) [.wp b 0]) = _
 rw [y19x3, wps_len]
 have e : IntKind.wrap .i64 ((((ctx ++ [a]).length : Nat) : Int) - 1) = ((ctx.length : Nat) : Int) := by
  rw [w64 (by simp; omega)]; simp
 rw [e]
 have hx : nth (wps (ctx ++ [a])) (Int.toNat ((ctx.length : Nat) : Int)) = some (.wp a 0) := by
  rw [Int.toNat_natCast]; exact nth_wps (by simp)
 refine step_t (by simp; omega) (step_b (y := .wp a 0) hx (step_t rfl (step_t rfl (step_b (y := .wp b 0) rfl (step_t rfl ?_)))))
 exact step_b (s45 true a b _ n hn) (step_t rfl rfl)
end Go.Proofs.Cw.Si
end

/-
  THE INFERER'S WORLD 13: infer.
-/
section
namespace Go.Proofs.Cw.Si
open Go.Proofs
mutual
def esh (d : Nat) : Lam → Prop
 | .mk o m _ l => (l.length : Int) = partsN o ∧ (o = 1 → 0 ≤ m ∧ m < (d : Nat)) ∧ eshs (if o = 2 then d + 1 else d) l
def eshs (d : Nat) : List Lam → Prop
 | [] => True
 | t :: r => esh d t ∧ eshs d r
end
theorem eshs_mem {d : Nat} : ∀ {l : List Lam} {t : Lam}, t ∈ l → eshs d l → esh d t
 | x :: r, t, h, hs => by
  unfold eshs at hs
  rcases List.mem_cons.1 h with rfl | h
  ·exact hs.1
  ·exact eshs_mem h hs.2
theorem sizeLs_mem {l : List Lam} {t : Lam} (h : t ∈ l) : sizeL t ≤ sizeLs l := by
 induction l with
 | nil => cases h
 | cons x r ih =>
  simp only [sizeLs]
  rcases List.mem_cons.1 h with rfl | h
  ·omega
  ·have := ih h; omega
theorem ops_of {o : Int} {n : Nat} (h : (n : Int) = partsN o) : (o = 1 ∧ n = 0) ∨ (o = 4 ∧ n = 0) ∨ (o = 2 ∧ n = 1) ∨ (o = 5 ∧ n = 1) ∨ (o = 8 ∧ n = 1) ∨ (o = 9 ∧ n = 1) ∨ (o = 3 ∧ n = 2) ∨ (o = 7 ∧ n = 2) ∨ (o = 6 ∧ n = 3) := by
 unfold partsN at h
 split at h
 ·rename_i e; rcases e with e | e <;> omega
 ·split at h
  ·rename_i e; rcases e with e | e | e | e <;> omega
  ·split at h
   ·rename_i e; rcases e with e | e <;> omega
   ·split at h <;> omega
theorem firstAny (l : List Nat) : firstOk Sh.any (wps l) = true := by cases l <;> rfl
theorem s43r (l : List Nat) : ∀ n, 1 ≤ n → runFn E n 43 [.t (.slc (wps l))] [] = some (.clip (wps l), []) := by
 intro n hn
 obtain ⟨n, rfl⟩ : ∃ k, n = k + 1 := ⟨n - 1, by omega⟩
 have e : List.drop 0 (List.take (Int.toNat ((wps l).length : Nat)) (wps l)) = wps l := by
  rw [Int.toNat_natCast, List.take_length]; rfl
 rw [runFn_evR, r43r, e]
 exact step_t (by simp) (step_t (firstAny l) rfl)
theorem encLs_len (l : List Lam) : (encLs l).length = l.length := by rw [encLs_map, List.length_map]
theorem cast0 : ((0 : Nat) : Int) = 0 := rfl
theorem head19 {f n : Nat} {ctx : List Tree} {o k : Int} {ty : Ty} {l : List Lam} {G : World'} (ho : o ≠ 2) :
  evWQ (Tab.env tab) n 19 [.wp f 0, .slc ctx, encL (.mk o k ty l)] G = M19 false n n (evZW (Tab.env tab) n 19 5) f ctx ctx (encLs l) (l.length : Nat) ((0 : Nat) : Int) G o k ty.name (encTs ty.parts) (encLs l) (wps []) := by
 cases ty with
 | mk s u =>
 rw [cast0]
 show _ = M19_0 n n (evZW (Tab.env tab) n 19 5) f ctx ctx (encLs l) (l.length : Nat) 0 G o k s (encTs u) (encLs l)
 unfold M19_0
 rw [encL, w19, ← encLs_len l]
 refine step_f (by simpa using ho) ?_
 exact evLW_cut (j := 4) (p := [1, 0]) 5 (by decide)
theorem head19r {f n : Nat} {ctx : List Nat} {a : Nat} {k : Int} {ty : Ty} {l : List Lam} {G G1 : World'} (h : EvW E 1 44 [.wp f 0] G (.wp a 0) G1) (hn : 1 ≤ n) (hc : ctx.length ≤ 1000000) :
  evWQ (Tab.env tab) n 19 [.wp f 0, .slc (wps ctx), encL (.mk 2 k ty l)] G = M19 true n n (evZW (Tab.env tab) n 19 5) f (wps ctx) (wps (ctx ++ [a])) (encLs l) (l.length : Nat) ((0 : Nat) : Int) G1 2 k ty.name (encTs ty.parts) (encLs l) (wps []) := by
 cases ty with
 | mk s u =>
 rw [cast0]
 show _ = M19_0c n n (evZW (Tab.env tab) n 19 5) f (wps ctx) (encLs l) (l.length : Nat) 0 G1 2 k s (encTs u) (encLs l) (wps (ctx ++ [a]))
 unfold M19_0c
 rw [encL, w19, ← encLs_len l, wps_app]
 refine step_t rfl (step_b (s43r ctx n hn) (step_t rfl (step_b (h n hn) (step_t rfl (step_t ?_ ?_)))))
 ·show (firstOk Sh.any (wps ctx) && (true && Nat.ble (((wps ctx).length + 1) * 8) 140737488355328)) = true
  rw [firstAny, wps_len]
  simp only [Bool.true_and, Nat.ble_eq]
  omega
 ·exact evLW_cut (j := 4) (p := [1, 0]) 5 (by decide)
end Go.Proofs.Cw.Si
end
