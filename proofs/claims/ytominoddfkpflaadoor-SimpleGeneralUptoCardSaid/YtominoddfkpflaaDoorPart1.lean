/- SIMPLE: what the functions that the law reaches come to, and why. -/
import Derived.Test.YtominoddfkpflaaDoorCw4
import Derived.Test.YtominoddfkpflaaDoorRows
set_option linter.unusedSimpArgs false
set_option linter.unusedVariables false

/-
  SIMPLE, the data: types and terms, and the trees that stand for them.
-/
section
namespace Go.Proofs.Cw.Si
open Go.Proofs
inductive Ty where
 | mk (name : List UInt8) (l : List Ty)
inductive Lam where
 | mk (op n : Int) (t : Ty) (l : List Lam)
namespace Ty
def name : Ty → List UInt8
 | .mk s _ => s
def parts : Ty → List Ty
 | .mk _ l => l
end Ty
namespace Lam
def op : Lam → Int
 | .mk o _ _ _ => o
def num : Lam → Int
 | .mk _ n _ _ => n
def ty : Lam → Ty
 | .mk _ _ t _ => t
def parts : Lam → List Lam
 | .mk _ _ _ l => l
end Lam
mutual
def encT : Ty → Tree
 | .mk s l => .agg [.str s, .slc (encTs l)]
def encTs : List Ty → List Tree
 | [] => []
 | t :: r => encT t :: encTs r
end
mutual
def encL : Lam → Tree
 | .mk o n (.mk s l) ps => .agg [.int .i64 o, .int .i64 n, .str s, .slc (encTs l), .slc (encLs ps)]
def encLs : List Lam → List Tree
 | [] => []
 | t :: r => encL t :: encLs r
end
theorem encTs_map : ∀ l : List Ty, encTs l = l.map encT
 | [] => rfl
 | _ :: r => by rw [encTs, encTs_map r]; rfl
theorem encLs_map : ∀ l : List Lam, encLs l = l.map encL
 | [] => rfl
 | _ :: r => by rw [encLs, encLs_map r]; rfl
end Go.Proofs.Cw.Si
end

/-
  SIMPLE, the plain part: sizes, what is well formed, equality, types.
-/
section
namespace Go.Proofs.Cw.Si
open Go.Proofs
def sNat : List UInt8 := [78, 97, 116]
def sTo : List UInt8 := [84, 111]
def sPair : List UInt8 := [80, 97, 105, 114]
mutual
def sizeT : Ty → Nat
 | .mk _ l => 1 + sizeTs l
def sizeTs : List Ty → Nat
 | [] => 0
 | t :: r => sizeT t + sizeTs r
end
mutual
def depthT : Ty → Nat
 | .mk _ l => depthTs l + 1
def depthTs : List Ty → Nat
 | [] => 0
 | t :: r => max (depthT t) (depthTs r)
end
mutual
def sizeL : Lam → Nat
 | .mk _ _ _ l => 1 + sizeLs l
def sizeLs : List Lam → Nat
 | [] => 0
 | t :: r => sizeL t + sizeLs r
end
mutual
def depthL : Lam → Nat
 | .mk _ _ _ l => depthLs l + 1
def depthLs : List Lam → Nat
 | [] => 0
 | t :: r => max (depthL t) (depthLs r)
end
mutual
def formed : Ty → Bool
 | .mk s l => if s = sNat then l.isEmpty else if s = sTo ∨ s = sPair then l.length == 2 && formedTs l else false
def formedTs : List Ty → Bool
 | [] => true
 | t :: r => formed t && formedTs r
end
def validT (t : Ty) : Bool := decide (sizeT t ≤ 60) && decide (depthT t ≤ 12) && formed t
def zeroT (t : Ty) : Bool := t.name.isEmpty && t.parts.isEmpty
def partsN (op : Int) : Int :=
 if op = 1 ∨ op = 4 then 0 else if op = 2 ∨ op = 5 ∨ op = 8 ∨ op = 9 then 1 else if op = 3 ∨ op = 7 then 2 else if op = 6 then 3 else -1
def topN (op : Int) : Int := if op = 1 then 200 else if op = 4 then 1000 else 0
mutual
def shaped : Lam → Bool
 | .mk o n t l => (l.length : Int) == partsN o && decide (0 ≤ n) && decide (n ≤ topN o) && (if o = 2 then validT t else zeroT t) && shapeds l
def shapeds : List Lam → Bool
 | [] => true
 | t :: r => shaped t && shapeds r
end
def validL (t : Lam) : Bool := decide (sizeL t ≤ 300) && decide (depthL t ≤ 60) && shaped t
mutual
def eqT : Ty → Ty → Bool
 | .mk s l, .mk s' l' => s == s' && eqTs l l'
def eqTs : List Ty → List Ty → Bool
 | [], [] => true
 | a :: r, b :: r' => eqT a b && eqTs r r'
 | _, _ => false
end
mutual
theorem eqT_iff : ∀ a b : Ty, eqT a b = true ↔ a = b
 | .mk s l, .mk s' l' => by simp [eqT, eqTs_iff l l']
theorem eqTs_iff : ∀ a b : List Ty, eqTs a b = true ↔ a = b
 | [], [] => by simp [eqTs]
 | [], _ :: _ => by simp [eqTs]
 | _ :: _, [] => by simp [eqTs]
 | a :: r, b :: r' => by simp [eqTs, eqT_iff a b, eqTs_iff r r']
end
instance : DecidableEq Ty := fun a b => decidable_of_iff _ (eqT_iff a b)
def tNat : Ty := .mk sNat []
def tTo (a b : Ty) : Ty := .mk sTo [a, b]
def tPair (a b : Ty) : Ty := .mk sPair [a, b]
def fromEnd (ctx : List Ty) (n : Int) : Option Ty := if 0 ≤ n ∧ n < ctx.length then ctx[(ctx.length - 1 - n.toNat)]? else none
def rt2 (t : Ty) : List Ty → Option Ty
 | [b] => some (tTo t b)
 | _ => none
def rt3 : List Ty → Option Ty
 | [f, a] => (match f.parts with
  | [x, y] => if f.name = sTo ∧ x = a then some y else none
  | _ => none)
 | _ => none
def rt5 : List Ty → Option Ty
 | [x] => if x.name = sNat then some tNat else none
 | _ => none
def rt6 : List Ty → Option Ty
 | [n, f, a] => if n.name = sNat ∧ f = tTo a a then some a else none
 | _ => none
def rt7 : List Ty → Option Ty
 | [a, b] => some (tPair a b)
 | _ => none
def rt8 : List Ty → Option Ty
 | [p] => (match p.parts with
  | [a, _] => if p.name = sPair then some a else none
  | _ => none)
 | _ => none
def rt9 : List Ty → Option Ty
 | [p] => (match p.parts with
  | [_, b] => if p.name = sPair then some b else none
  | _ => none)
 | _ => none
def ruleT (ctx : List Ty) (o n : Int) (t : Ty) (ts : List Ty) : Option Ty :=
 if o = 1 then fromEnd ctx n
 else if o = 2 then rt2 t ts
 else if o = 3 then rt3 ts
 else if o = 4 then some tNat
 else if o = 5 then rt5 ts
 else if o = 6 then rt6 ts
 else if o = 7 then rt7 ts
 else if o = 8 then rt8 ts
 else if o = 9 then rt9 ts
 else none
mutual
def typed (ctx : List Ty) : Lam → Ty ⊕ List Nat
 | .mk o n t l => match typeds (if o = 2 then ctx ++ [t] else ctx) 0 l with
  | .inr p => .inr p
  | .inl ts => match ruleT ctx o n t ts with
   | some u => .inl u
   | none => .inr []
def typeds (ctx : List Ty) (i : Nat) : List Lam → List Ty ⊕ List Nat
 | [] => .inl []
 | x :: r => match typed ctx x with
  | .inr p => .inr (i :: p)
  | .inl u => match typeds ctx (i + 1) r with
   | .inr p => .inr p
   | .inl us => .inl (u :: us)
end
def bindsN (o : Int) (l : Nat) : Int := if o = 2 ∧ l = 1 then 1 else 0
mutual
def shift (d k : Int) : Lam → Lam
 | .mk o n t l => .mk o (if o = 1 ∧ 0 ≤ n ∧ k ≤ n ∧ k ≤ n + d then n + d else n) t (shifts d (k + bindsN o l.length) l)
def shifts (d k : Int) : List Lam → List Lam
 | [] => []
 | t :: r => shift d k t :: shifts d k r
end
mutual
def subst (at_ : Int) (s : Lam) (d : Int) : Lam → Lam
 | .mk o n t l => if o = 1 ∧ n = at_ + d then shift d 0 s else .mk o (if o = 1 ∧ n > at_ + d then n - 1 else n) t (substs at_ s (d + bindsN o l.length) l)
def substs (at_ : Int) (s : Lam) (d : Int) : List Lam → List Lam
 | [] => []
 | t :: r => subst at_ s d t :: substs at_ s d r
end
def tyZero : Ty := .mk [] []
end Go.Proofs.Cw.Si
end

/-
  MOST GENERAL TYPES, the plain law 1: types with unknowns, tables of types as trees that share, what unknowns stand for.
-/
section
namespace Go.Proofs.Cw.Si
inductive FT where
 | var (k : Nat)
 | nat
 | bin (p : Bool) (a b : FT)
namespace FT
def sub (θ : Nat → FT) : FT → FT
 | .var k => θ k
 | .nat => .nat
 | .bin p a b => .bin p (a.sub θ) (b.sub θ)
def size : FT → Nat
 | .var _ => 1
 | .nat => 1
 | .bin _ a b => a.size + b.size + 1
def occ (k : Nat) : FT → Prop
 | .var j => j = k
 | .nat => False
 | .bin _ a b => a.occ k ∨ b.occ k
theorem size_pos : ∀ t : FT, 1 ≤ t.size
 | .var _ => Nat.le_refl _
 | .nat => Nat.le_refl _
 | .bin _ _ _ => by simp [size]
theorem sub_var : ∀ t : FT, t.sub .var = t
 | .var _ => rfl
 | .nat => rfl
 | .bin p a b => by simp only [sub, sub_var a, sub_var b]
theorem sub_sub (θ η : Nat → FT) : ∀ t : FT, (t.sub θ).sub η = t.sub fun k => (θ k).sub η
 | .var _ => rfl
 | .nat => rfl
 | .bin p a b => by simp only [sub, sub_sub θ η a, sub_sub θ η b]
theorem occ_size (θ : Nat → FT) (k : Nat) : ∀ t : FT, t.occ k → (θ k).size ≤ (t.sub θ).size
 | .var _, h => by cases h; exact Nat.le_refl _
 | .nat, h => h.elim
 | .bin _ a b, h => by
  simp only [sub, size]
  rcases h with h | h
  ·have := occ_size θ k a h; omega
  ·have := occ_size θ k b h; omega
def one (k : Nat) (s : FT) : Nat → FT := fun j => if j = k then s else .var j
end FT
inductive Nd where
 | unk (k : Nat)
 | nat
 | bin (p : Bool) (a b : Nat)
abbrev NT := Nat → Option Nd
abbrev Bd := List (Nat × Nat)
def look : Bd → Nat → Option Nat
 | [], _ => none
 | (j, i) :: r, k => if j = k then some i else look r k
theorem look_app (k r : Nat) : ∀ (es : Bd) (j : Nat), look es k = none → look (es ++ [(k, r)]) j = if j = k then some r else look es j
 | [], j, _ => by
  simp only [List.nil_append, look]
  by_cases h : k = j
  ·rw [if_pos h, if_pos h.symm]
  ·rw [if_neg h, if_neg fun e => h e.symm]
 | (x, i) :: es, j, h => by
  simp only [look] at h
  by_cases hx : x = k
  ·rw [if_pos hx] at h; cases h
  ·rw [if_neg hx] at h
   simp only [List.cons_append, look]
   by_cases hj : x = j
   ·rw [if_pos hj, if_neg fun e => hx (hj.trans e), if_pos hj]
   ·rw [if_neg hj, if_neg hj]
    exact look_app k r es j h
inductive Val (N : NT) (θ : Nat → FT) : Nat → FT → Prop where
 | unk {i k : Nat} : N i = some (.unk k) → Val N θ i (θ k)
 | nat {i : Nat} : N i = some .nat → Val N θ i .nat
 | bin {i : Nat} {p : Bool} {a b : Nat} {x y : FT} : N i = some (.bin p a b) → Val N θ a x → Val N θ b y → Val N θ i (.bin p x y)
inductive Res (N : NT) (es : Bd) : Nat → FT → Prop where
 | free {i k : Nat} : N i = some (.unk k) → look es k = none → Res N es i (.var k)
 | link {i k j : Nat} {x : FT} : N i = some (.unk k) → look es k = some j → Res N es j x → Res N es i x
 | nat {i : Nat} : N i = some .nat → Res N es i .nat
 | bin {i : Nat} {p : Bool} {a b : Nat} {x y : FT} : N i = some (.bin p a b) → Res N es a x → Res N es b y → Res N es i (.bin p x y)
inductive Find (N : NT) (es : Bd) : Nat → Nat → Prop where
 | free {i k : Nat} : N i = some (.unk k) → look es k = none → Find N es i i
 | link {i k j r : Nat} : N i = some (.unk k) → look es k = some j → Find N es j r → Find N es i r
 | nat {i : Nat} : N i = some .nat → Find N es i i
 | bin {i : Nat} {p : Bool} {a b : Nat} : N i = some (.bin p a b) → Find N es i i
def Sol (N : NT) (es : Bd) (θ : Nat → FT) : Prop := ∀ k j, look es k = some j → Val N θ j (θ k)
def Tot (N : NT) (es : Bd) : Prop := ∀ i nd, N i = some nd → ∃ x, Res N es i x
section
variable {N : NT} {es : Bd} {θ : Nat → FT}
theorem Val.det {i : Nat} {x : FT} (h : Val N θ i x) : ∀ {y : FT}, Val N θ i y → x = y := by
 induction h with
 | unk h =>
  intro y k
  cases k with
  | unk h' => rw [h] at h'; cases h'; rfl
  | nat h' => rw [h] at h'; cases h'
  | bin h' _ _ => rw [h] at h'; cases h'
 | nat h =>
  intro y k
  cases k with
  | unk h' => rw [h] at h'; cases h'
  | nat h' => rfl
  | bin h' _ _ => rw [h] at h'; cases h'
 | bin h _ _ ia ib =>
  intro y k
  cases k with
  | unk h' => rw [h] at h'; cases h'
  | nat h' => rw [h] at h'; cases h'
  | bin h' k1 k2 => rw [h] at h'; cases h'; rw [ia k1, ib k2]
theorem Res.det {i : Nat} {x : FT} (h : Res N es i x) : ∀ {y : FT}, Res N es i y → x = y := by
 induction h with
 | free h l =>
  intro y k
  cases k with
  | free h' _ => rw [h] at h'; cases h'; rfl
  | link h' l' _ => rw [h] at h'; cases h'; rw [l] at l'; cases l'
  | nat h' => rw [h] at h'; cases h'
  | bin h' _ _ => rw [h] at h'; cases h'
 | link h l _ ih =>
  intro y k
  cases k with
  | free h' l' => rw [h] at h'; cases h'; rw [l] at l'; cases l'
  | link h' l' k => rw [h] at h'; cases h'; rw [l] at l'; cases l'; exact ih k
  | nat h' => rw [h] at h'; cases h'
  | bin h' _ _ => rw [h] at h'; cases h'
 | nat h =>
  intro y k
  cases k with
  | free h' _ => rw [h] at h'; cases h'
  | link h' _ _ => rw [h] at h'; cases h'
  | nat h' => rfl
  | bin h' _ _ => rw [h] at h'; cases h'
 | bin h _ _ ia ib =>
  intro y k
  cases k with
  | free h' _ => rw [h] at h'; cases h'
  | link h' _ _ => rw [h] at h'; cases h'
  | nat h' => rw [h] at h'; cases h'
  | bin h' k1 k2 => rw [h] at h'; cases h'; rw [ia k1, ib k2]
theorem Res.find {i : Nat} {x : FT} (h : Res N es i x) : ∃ r, Find N es i r ∧ Res N es r x ∧ ((∃ k, N r = some (.unk k) ∧ look es k = none ∧ x = .var k) ∨ (N r = some .nat ∧ x = .nat) ∨
  ∃ p a b y z, N r = some (.bin p a b) ∧ Res N es a y ∧ Res N es b z ∧ x = .bin p y z) := by
 induction h with
 | free h l => exact ⟨_, .free h l, .free h l, .inl ⟨_, h, l, rfl⟩⟩
 | link h l _ ih =>
  obtain ⟨r, h1, h2⟩ := ih
  exact ⟨r, .link h l h1, h2⟩
 | nat h => exact ⟨_, .nat h, .nat h, .inr (.inl ⟨h, rfl⟩)⟩
 | bin h ha hb _ _ => exact ⟨_, .bin h, .bin h ha hb, .inr (.inr ⟨_, _, _, _, _, h, ha, hb, rfl⟩)⟩
theorem Find.det {i r : Nat} (h : Find N es i r) : ∀ {s : Nat}, Find N es i s → r = s := by
 induction h with
 | free h l =>
  intro s k
  cases k with
  | free _ _ => rfl
  | link h' l' _ => rw [h] at h'; cases h'; rw [l] at l'; cases l'
  | nat _ => rfl
  | bin _ => rfl
 | link h l _ ih =>
  intro s k
  cases k with
  | free h' l' => rw [h] at h'; cases h'; rw [l] at l'; cases l'
  | link h' l' k => rw [h] at h'; cases h'; rw [l] at l'; cases l'; exact ih k
  | nat h' => rw [h] at h'; cases h'
  | bin h' => rw [h] at h'; cases h'
 | nat h =>
  intro s k
  cases k with
  | link h' _ _ => rw [h] at h'; cases h'
  | _ => rfl
 | bin h =>
  intro s k
  cases k with
  | link h' _ _ => rw [h] at h'; cases h'
  | _ => rfl
theorem Res.val (sol : Sol N es θ) {i : Nat} {x : FT} (h : Res N es i x) : Val N θ i (x.sub θ) := by
 induction h with
 | free h l => exact .unk h
 | link h l _ ih =>
  have := sol _ _ l
  rw [ih.det this]
  exact .unk h
 | nat h => exact .nat h
 | bin h _ _ ia ib => exact .bin h ia ib
theorem Val.find (sol : Sol N es θ) {i r : Nat} (h : Find N es i r) {v : FT} : Val N θ i v ↔ Val N θ r v := by
 induction h with
 | link h l _ ih =>
  rw [← ih]
  constructor
  ·intro k
   cases k with
   | unk h' => rw [h] at h'; cases h'; exact sol _ _ l
   | nat h' => rw [h] at h'; cases h'
   | bin h' _ _ => rw [h] at h'; cases h'
  ·intro k
   rw [k.det (sol _ _ l)]
   exact .unk h
 | _ => exact Iff.rfl
theorem Res.keep {k r : Nat} (hk : look es k = none) {i : Nat} {x : FT} (h : Res N es i x) : ¬ x.occ k → Res N (es ++ [(k, r)]) i x := by
 induction h with
 | free h l => intro hn; exact .free h (by rw [look_app k r es _ hk, if_neg (show ¬ _ = k from hn)]; exact l)
 | @link i j j' x h l _ ih =>
  intro hn
  refine .link h ?_ (ih hn)
  rw [look_app k r es _ hk, if_neg fun e => by rw [e, hk] at l; cases l]
  exact l
 | nat h => intro _; exact .nat h
 | bin h _ _ ia ib => intro hn; exact .bin h (ia fun c => hn (.inl c)) (ib fun c => hn (.inr c))
theorem Res.binds {k r : Nat} {s : FT} (hk : look es k = none) (hr : Res N es r s) (hs : ¬ s.occ k) {i : Nat} {x : FT} (h : Res N es i x) : Res N (es ++ [(k, r)]) i (x.sub (FT.one k s)) := by
 induction h with
 | @free i j h l =>
  simp only [FT.sub, FT.one]
  by_cases e : j = k
  ·subst e
   rw [if_pos rfl]
   exact .link h (by rw [look_app j r es _ hk, if_pos rfl]) (hr.keep hk hs)
  ·rw [if_neg e]
   exact .free h (by rw [look_app k r es _ hk, if_neg e]; exact l)
 | @link i j j' x h l _ ih =>
  refine .link h ?_ ih
  rw [look_app k r es _ hk, if_neg fun e => by rw [e, hk] at l; cases l]
  exact l
 | nat h => exact .nat h
 | bin h _ _ ia ib => exact .bin h ia ib
theorem Tot.bind {k r : Nat} {s : FT} (ht : Tot N es) (hk : look es k = none) (hr : Res N es r s) (hs : ¬ s.occ k) : Tot N (es ++ [(k, r)]) := by
 intro i nd hi
 obtain ⟨x, hx⟩ := ht i nd hi
 exact ⟨_, Res.binds hk hr hs hx⟩
theorem Sol.bind {k r : Nat} (hk : look es k = none) : Sol N (es ++ [(k, r)]) θ ↔ Sol N es θ ∧ Val N θ r (θ k) := by
 constructor
 ·intro h
  refine ⟨fun j i hj => ?_, h k r (by rw [look_app k r es _ hk, if_pos rfl])⟩
  refine h j i ?_
  rw [look_app k r es _ hk, if_neg fun e => by rw [e, hk] at hj; cases hj]
  exact hj
 ·intro ⟨h1, h2⟩ j i hj
  rw [look_app k r es _ hk] at hj
  by_cases e : j = k
  ·rw [if_pos e] at hj; cases hj; rw [e]; exact h2
  ·rw [if_neg e] at hj; exact h1 j i hj
theorem occurs_no {k i : Nat} {x : FT} (sol : Sol N es θ) (hx : Res N es i x) (ho : x.occ k) (hne : x ≠ .var k) (h : Val N θ i (θ k)) : False := by
 have e := (hx.val sol).det h
 have : (θ k).size < (x.sub θ).size := by
  cases x with
  | var j => exact absurd (by rw [show j = k from ho]) hne
  | nat => exact ho.elim
  | bin p a b =>
   simp only [FT.sub, FT.size]
   rcases ho with ho | ho
   ·have := FT.occ_size θ k a ho; omega
   ·have := FT.occ_size θ k b ho; omega
 rw [e] at this
 omega
theorem Sol.of (ht : Tot N es) (hu : ∀ k j, look es k = some j → ∃ nd, N j = some nd) (hl : ∀ k j, look es k = some j → ∃ i, N i = some (.unk k)) (ρ : Nat → FT) :
  ∃ θ, Sol N es θ ∧ (∀ k, look es k = none → θ k = ρ k) ∧ ∀ i x, Res N es i x → Val N θ i (x.sub ρ) := by
 have key : ∀ k, ∃ v, (look es k = none → v = ρ k) ∧ ∀ j x, look es k = some j → Res N es j x → v = x.sub ρ := by
  intro k
  cases hk : look es k with
  | none => exact ⟨ρ k, fun _ => rfl, fun j x h => by cases h⟩
  | some j =>
   obtain ⟨nd, hn⟩ := hu k j hk
   obtain ⟨x, hx⟩ := ht j nd hn
   exact ⟨x.sub ρ, fun h => by (first | cases h | (rw [hk] at h; cases h)), fun j' y h hy => by cases h; rw [hx.det hy]⟩
 let θ : Nat → FT := fun k => (key k).choose
 have h1 : ∀ k, look es k = none → θ k = ρ k := fun k h => (key k).choose_spec.1 h
 have h2 : ∀ k j x, look es k = some j → Res N es j x → θ k = x.sub ρ := fun k j x h hx => (key k).choose_spec.2 j x h hx
 have h3 : ∀ i x, Res N es i x → Val N θ i (x.sub ρ) := by
  intro i x h
  induction h with
  | @free i k h l => rw [show FT.sub ρ (.var k) = θ k from (h1 k l).symm]; exact .unk h
  | @link i k j x h l hx ih => rw [← h2 k j x l hx]; exact .unk h
  | nat h => exact .nat h
  | bin h _ _ ia ib => exact .bin h ia ib
 refine ⟨θ, fun k j h => ?_, h1, h3⟩
 obtain ⟨nd, hn⟩ := hu k j h
 obtain ⟨x, hx⟩ := ht j nd hn
 rw [h2 k j x h hx]
 exact h3 j x hx
end
end Go.Proofs.Cw.Si
end

/-
  MOST GENERAL TYPES, the plain law 2: which types an erased term has; types by the names of their first places.
-/
section
namespace Go.Proofs.Cw.Si
inductive Has : List FT → Lam → FT → Prop where
 | var {Γ : List FT} {m : Int} {t : Ty} {a : FT} : 0 ≤ m → m < Γ.length → Γ[Γ.length - 1 - m.toNat]? = some a → Has Γ (.mk 1 m t []) a
 | lam {Γ : List FT} {m : Int} {t : Ty} {b : Lam} {a r : FT} : Has (Γ ++ [a]) b r → Has Γ (.mk 2 m t [b]) (.bin true a r)
 | app {Γ : List FT} {m : Int} {t : Ty} {f x : Lam} {a r : FT} : Has Γ f (.bin true a r) → Has Γ x a → Has Γ (.mk 3 m t [f, x]) r
 | num {Γ : List FT} {m : Int} {t : Ty} : Has Γ (.mk 4 m t []) .nat
 | suc {Γ : List FT} {m : Int} {t : Ty} {x : Lam} : Has Γ x .nat → Has Γ (.mk 5 m t [x]) .nat
 | iter {Γ : List FT} {m : Int} {t : Ty} {n s z : Lam} {r : FT} : Has Γ n .nat → Has Γ s (.bin true r r) → Has Γ z r → Has Γ (.mk 6 m t [n, s, z]) r
 | pair {Γ : List FT} {m : Int} {t : Ty} {x y : Lam} {a b : FT} : Has Γ x a → Has Γ y b → Has Γ (.mk 7 m t [x, y]) (.bin false a b)
 | fst {Γ : List FT} {m : Int} {t : Ty} {x : Lam} {a b : FT} : Has Γ x (.bin false a b) → Has Γ (.mk 8 m t [x]) a
 | snd {Γ : List FT} {m : Int} {t : Ty} {x : Lam} {a b : FT} : Has Γ x (.bin false a b) → Has Γ (.mk 9 m t [x]) b
def idx : List Nat → Nat → Option Nat
 | [], _ => none
 | x :: r, k => if x = k then some 0 else (idx r k).map (· + 1)
section
variable (nm : Nat → List UInt8)
def tell : FT → List Nat → Ty × List Nat
 | .var k, ns => match idx ns k with
  | some i => (.mk (63 :: nm i) [], ns)
  | none => (.mk (63 :: nm ns.length) [], ns ++ [k])
 | .nat, ns => (.mk sNat [], ns)
 | .bin p a b, ns => (.mk (if p then sTo else sPair) [(tell a ns).1, (tell b (tell a ns).2).1], (tell b (tell a ns).2).2)
theorem idx_map {f : Nat → Nat} {S : Nat → Prop} (inj : ∀ j k, S j → S k → f j = f k → j = k) : ∀ (ns : List Nat) (k : Nat), (∀ j, j ∈ ns → S j) → S k → idx (ns.map f) (f k) = idx ns k
 | [], _, _, _ => rfl
 | x :: r, k, h, hk => by
  simp only [List.map_cons, idx, idx_map inj r k (fun j hj => h j (by simp [hj])) hk]
  by_cases e : x = k
  ·rw [if_pos (by rw [e]), if_pos e]
  ·rw [if_neg fun c => e (inj x k (h x (by simp)) hk c), if_neg e]
theorem tell_map {f : Nat → Nat} {S : Nat → Prop} {ρ : Nat → FT} (inj : ∀ j k, S j → S k → f j = f k → j = k) : ∀ (t : FT) (ns : List Nat), (∀ k, t.occ k → S k ∧ ρ k = .var (f k)) → (∀ j, j ∈ ns → S j) →
  tell nm (t.sub ρ) (ns.map f) = ((tell nm t ns).1, (tell nm t ns).2.map f) ∧ ∀ j, j ∈ (tell nm t ns).2 → S j
 | .var k, ns, h, hs => by
  obtain ⟨h1, h2⟩ := h k rfl
  simp only [FT.sub, h2, tell, idx_map inj ns k hs h1, List.length_map]
  cases idx ns k with
  | some i => exact ⟨rfl, hs⟩
  | none => exact ⟨by simp, fun j hj => by
    rcases List.mem_append.1 hj with hj | hj
    ·exact hs j hj
    ·rw [List.mem_singleton.1 hj]; exact h1⟩
 | .nat, ns, _, hs => ⟨rfl, hs⟩
 | .bin p a b, ns, h, hs => by
  obtain ⟨e1, s1⟩ := tell_map inj a ns (fun k hk => h k (.inl hk)) hs
  obtain ⟨e2, s2⟩ := tell_map inj b (tell nm a ns).2 (fun k hk => h k (.inr hk)) s1
  simp only [FT.sub, tell, e1, e2]
  exact ⟨trivial, s2⟩
end
theorem sub_self {θ : Nat → FT} : ∀ {t : FT}, t.sub θ = t → ∀ k, t.occ k → θ k = .var k
 | .var j, h, k, hk => by cases hk; exact h
 | .bin p a b, h, k, hk => by
  simp only [FT.sub, FT.bin.injEq, true_and] at h
  rcases hk with hk | hk
  ·exact sub_self h.1 k hk
  ·exact sub_self h.2 k hk
theorem sub_size (ρ : Nat → FT) : ∀ t : FT, t.size ≤ (t.sub ρ).size
 | .var k => FT.size_pos _
 | .nat => Nat.le_refl _
 | .bin _ a b => by
  have := sub_size ρ a
  have := sub_size ρ b
  simp only [FT.sub, FT.size]; omega
theorem tell_same (nm : Nat → List UInt8) {P Q : FT} {ρ σ : Nat → FT} (h1 : P.sub ρ = Q) (h2 : Q.sub σ = P) : (tell nm P []).1 = (tell nm Q []).1 ∧ P.size = Q.size := by
 have hs : P.size = Q.size := by
  have a := sub_size ρ P
  have b := sub_size σ Q
  rw [h1] at a; rw [h2] at b
  omega
 refine ⟨?_, hs⟩
 have e : P.sub (fun k => (ρ k).sub σ) = P := by rw [← FT.sub_sub, h1, h2]
 have key := sub_self e
 let f : Nat → Nat := fun k => match ρ k with
  | .var j => j
  | _ => 0
 have hf : ∀ k, P.occ k → ρ k = .var (f k) := by
  intro k hk
  have := key k hk
  show ρ k = .var (match ρ k with | .var j => j | _ => 0)
  cases hr : ρ k with
  | var j => rfl
  | nat => rw [hr] at this; cases this
  | bin p a b => rw [hr] at this; cases this
 have inj : ∀ j k, P.occ j → P.occ k → f j = f k → j = k := by
  intro j k hj hk e
  have a := key j hj
  have b := key k hk
  rw [hf j hj] at a
  rw [hf k hk] at b
  simp only [FT.sub] at a b
  rw [e, b] at a
  cases a; rfl
 have := (tell_map nm (S := fun k => P.occ k) inj P [] (fun k hk => ⟨hk, hf k hk⟩) (fun j hj => by simp at hj)).1
 rw [h1] at this
 simp only [List.map_nil] at this
 rw [this]
end Go.Proofs.Cw.Si
end

/-
 THE RECKONED CODE, part 1: printed by program.
-/
section
set_option maxRecDepth 100000
namespace Go.Proofs.Cw.Si
open Go.Proofs
abbrev rQ (d : Nat) (o : IOp) : IOper := ⟨some d, none, o⟩
abbrev mQ (d k : Nat) : IOper := ⟨some d, none, .mov (.s k)⟩
abbrev gQ (d k : Nat) (b : Bool) (o : IOp) : IOper := ⟨some d, some (k, b), o⟩
abbrev nQ (o : IOp) : IOper := ⟨none, none, o⟩
abbrev cQ (x : Int) : Opd := .c (.t (.int .i64 x))
abbrev fQ : Opd := .c (.t (.bool false))
abbrev tQ : Opd := .c (.t (.bool true))
abbrev aQ : Sh := .agg [.int .i64, .int .i64, .str, .slc, .slc]
abbrev bQ : Sh := .agg [.str, .slc]
def ir4 : FInfo := ⟨45,
 (.seq (.reg [rQ 1 (.box aQ (.s 0)), rQ 2 (.mov fQ)])
 (.seq (.seq (.reg [rQ 10 (.ld aQ (.s 1)), rQ 11 (.bsl aQ (.agg [(.t (.int .i64 0)), (.t (.int .i64 0)), (.t (.str [])), .nilS, .nilS]) 1 [(0, (.s 10))]), rQ 12 (.call false 5 .bool [(.s 11)])])
 (.cond (.s 12)
 (.seq (.reg [rQ 2 (.mov tQ)])
 .ret)
 .skip))
 (.seq (.reg [rQ 14 (.ld aQ (.s 1)), rQ 15 (.call false 10 (.tup [bQ, (.int .i64)]) [(.c .nilS), (.s 14)]), mQ 13 15, rQ 16 (.ext 0 (.s 13)), rQ 17 (.ext 1 (.s 13)), rQ 3 (.new bQ (.agg [(.t (.str [])), .nilS])), nQ (.st bQ (.s 3) (.s 16)), mQ 4 17])
 (.seq (.seq (.reg [mQ 18 4, rQ 19 (.bin .neq (.s 18) (cQ 0))])
 (.cond (.s 19)
 (.seq (.reg [rQ 20 (.call false 9 .bool []), mQ 2 20])
 .ret)
 .skip))
 (.seq (.reg [rQ 22 (.ld aQ (.s 1)), rQ 23 (.call false 11 aQ [(.s 22)]), rQ 24 (.call false 6 (.tup [bQ, (.int .i64)]) [(.s 23)]), mQ 21 24, rQ 25 (.ext 0 (.s 21)), rQ 26 (.ext 1 (.s 21)), rQ 5 (.new bQ (.agg [(.t (.str [])), .nilS])), nQ (.st bQ (.s 5) (.s 25)), mQ 6 26])
 (.seq (.seq (.reg [mQ 27 6, rQ 28 (.bin .neq (.s 27) (cQ 0))])
 (.cond (.s 28)
 (.seq (.reg [mQ 29 6, rQ 30 (.bin .eql (.s 29) (cQ 2)), mQ 31 30, gQ 32 31 true (.call false 9 .bool []), rQ 33 (.pick (.s 31) (.s 32) fQ), mQ 2 33])
 .ret)
 .skip))
 (.seq (.reg [rQ 35 (.ld bQ (.s 5)), rQ 36 (.ld bQ (.s 3)), rQ 37 (.call false 12 (.tup [.slc, .slc, .bool]) [(.s 35), (.s 36)]), mQ 34 37, rQ 38 (.ext 0 (.s 34)), rQ 39 (.ext 1 (.s 34)), rQ 40 (.ext 2 (.s 34)), mQ 7 38, mQ 8 39, mQ 9 40])
 (.seq (.reg [mQ 41 9, mQ 42 41, gQ 43 42 true (.call false 9 .bool []), rQ 44 (.pick (.s 42) (.s 43) fQ), mQ 2 44])
 .ret)))))))),
 [.slot 2]⟩
theorem ok4 : compF Tryd.prog 4 [] (Cfg.mk [] [] [] [] []) = some ir4 := by kernel_rfl
def ir5 : FInfo := ⟨29,
 (.seq (.reg [rQ 2 (.mov fQ)])
 (.seq (.seq (.reg [rQ 3 (.mov (cQ 0))])
 (.block 0 (.loop [0, 3] (.seq (.seq (.reg [mQ 6 3, mQ 7 0, rQ 8 (.len (.s 7)), rQ 9 (.bin .lss (.s 6) (.s 8))])
 (.cond (.s 9)
 .skip
 (.exit 0)))
 (.seq (.block 1 (.seq (.seq (.reg [mQ 12 0, mQ 13 3, mQ 14 3, rQ 15 (.bin .add (.s 14) (cQ 1)), rQ 16 (.sub aQ (.s 12) (some (.s 13)) (some (.s 15)) none), rQ 17 (.call false 13 (.int .i64) [(.s 16), (cQ 720)]), rQ 18 (.bin .gtr (.s 17) (cQ 720))])
 (.cond (.s 18)
 (.seq (.reg [rQ 2 (.mov tQ)])
 .ret)
 .skip))
 (.seq (.reg [mQ 20 0, mQ 21 3, rQ 22 (.ia aQ (.s 20) (.s 21)), rQ 23 (.ld aQ (.s 22)), rQ 24 (.call false 14 (.tup [(.int .i64), (.int .i64)]) [(.s 23)]), mQ 19 24, rQ 25 (.ext 0 (.s 19)), rQ 26 (.ext 1 (.s 19)), mQ 4 25, mQ 5 26])
 (.seq (.reg [mQ 27 4, rQ 28 (.bin .gtr (.s 27) (cQ 120))])
 (.cond (.s 28)
 (.seq (.reg [rQ 2 (.mov tQ)])
 .ret)
 .skip)))))
 (.reg [mQ 10 3, rQ 11 (.bin .add (.s 10) (cQ 1)), mQ 3 11]))))))
 (.seq (.reg [rQ 2 (.mov fQ)])
 .ret))),
 [.slot 2]⟩
theorem ok5 : compF Tryd.prog 5 [[0, 3]] (Cfg.mk [] [] [] [] []) = some ir5 := by kernel_rfl
def ir6 : FInfo := ⟨48,
 (.seq (.reg [rQ 1 (.box aQ (.s 0)), rQ 2 (.new bQ (.agg [(.t (.str [])), .nilS])), rQ 3 (.mov (cQ 0))])
 (.seq (.seq (.reg [rQ 10 (.ld aQ (.s 1)), rQ 11 (.call false 15 .bool [(.s 10)]), rQ 12 (.un .not (.s 11)), mQ 13 12, gQ 14 13 false (.ld aQ (.s 1)), gQ 15 13 false (.call false 17 aQ [(.s 14)]), gQ 16 13 false (.call false 16 .bool [(.s 15)]), gQ 17 13 false (.un .not (.s 16)), rQ 18 (.pick (.s 13) tQ (.s 17)), mQ 19 18, gQ 20 19 false (.ld aQ (.s 1)), gQ 21 19 false (.call false 18 .bool [(.s 20), (cQ 0)]), gQ 22 19 false (.un .not (.s 21)), rQ 23 (.pick (.s 19) tQ (.s 22))])
 (.cond (.s 23)
 (.seq (.reg [rQ 24 (.build [(.t (.str [])), .nilS] []), nQ (.st bQ (.s 2) (.s 24)), rQ 3 (.mov (cQ 4))])
 .ret)
 .skip))
 (.seq (.reg [rQ 25 (.wmk), rQ 26 (.build [(.t (.int .i64 0)), (.t .nilm)] [(1, .any, (.s 25))]), rQ 27 (.wbox (.agg [(.int .i64), .any]) (.s 26)), mQ 4 27])
 (.seq (.reg [mQ 29 4, rQ 30 (.ld aQ (.s 1)), rQ 31 (.callw 19 (.tup [.any, .bool]) [(.s 29), (.c .nilS), (.s 30)]), mQ 28 31, rQ 32 (.ext 0 (.s 28)), rQ 33 (.ext 1 (.s 28)), mQ 5 32, mQ 6 33])
 (.seq (.seq (.reg [mQ 34 6, rQ 35 (.un .not (.s 34))])
 (.cond (.s 35)
 (.seq (.reg [rQ 36 (.build [(.t (.str [])), .nilS] []), nQ (.st bQ (.s 2) (.s 36)), rQ 3 (.mov (cQ 250))])
 .ret)
 .skip))
 (.seq (.reg [rQ 7 (.wnew (.int .i64) (.t (.int .i64 0))), nQ (.st (.int .i64) (.s 7) (cQ 200))])
 (.seq (.reg [mQ 38 4, mQ 39 5, rQ 40 (.wmk), rQ 41 (.callw 20 (.tup [bQ, .bool]) [(.s 38), (.s 39), (.s 40), (.s 7)]), mQ 37 41, rQ 42 (.ext 0 (.s 37)), rQ 43 (.ext 1 (.s 37)), rQ 8 (.new bQ (.agg [(.t (.str [])), .nilS])), nQ (.st bQ (.s 8) (.s 42)), mQ 9 43])
 (.seq (.seq (.reg [mQ 44 9, rQ 45 (.un .not (.s 44))])
 (.cond (.s 45)
 (.seq (.reg [rQ 46 (.build [(.t (.str [])), .nilS] []), nQ (.st bQ (.s 2) (.s 46)), rQ 3 (.mov (cQ 2))])
 .ret)
 .skip))
 (.seq (.reg [rQ 47 (.ld bQ (.s 8)), nQ (.st bQ (.s 2) (.s 47)), rQ 3 (.mov (cQ 0))])
 .ret))))))))),
 [.cell 2 bQ, .slot 3]⟩
theorem ok6 : compF Tryd.prog 6 [] (Cfg.mk [] [45, 47, 53, 85, 105, 114, 3] [31, 41] [] []) = some ir6 := by kernel_rfl
def ir9 : FInfo := ⟨27,
 (.seq (.reg [rQ 0 (.mov fQ)])
 (.seq (.reg [rQ 5 (.build [(.t (.int .i64 0)), (.t (.int .i64 0)), (.t (.str [])), .nilS, .nilS] [(0, (.int .i64), (cQ 1))]), rQ 1 (.new aQ (.agg [(.t (.int .i64 0)), (.t (.int .i64 0)), (.t (.str [])), .nilS, .nilS])), nQ (.st aQ (.s 1) (.s 5))])
 (.seq (.reg [rQ 6 (.build [(.t (.str [])), .nilS] [(0, .str, (.c (.t (.str [78, 97, 116]))))]), rQ 7 (.ld aQ (.s 1)), rQ 8 (.bsl aQ (.agg [(.t (.int .i64 0)), (.t (.int .i64 0)), (.t (.str [])), .nilS, .nilS]) 1 [(0, (.s 7))]), rQ 9 (.build [(.t (.int .i64 0)), (.t (.int .i64 0)), (.t (.str [])), .nilS, .nilS] [(0, (.int .i64), (cQ 5)), (4, .slc, (.s 8))]), rQ 10 (.bsl aQ (.agg [(.t (.int .i64 0)), (.t (.int .i64 0)), (.t (.str [])), .nilS, .nilS]) 1 [(0, (.s 9))]), rQ 11 (.build [(.t (.int .i64 0)), (.t (.int .i64 0)), (.t (.str [])), .nilS, .nilS] [(0, (.int .i64), (cQ 2)), (2, bQ, (.s 6)), (4, .slc, (.s 10))]), rQ 2 (.new aQ (.agg [(.t (.int .i64 0)), (.t (.int .i64 0)), (.t (.str [])), .nilS, .nilS])), nQ (.st aQ (.s 2) (.s 11))])
 (.seq (.reg [rQ 13 (.build [(.t (.int .i64 0)), (.t (.int .i64 0)), (.t (.str [])), .nilS, .nilS] [(0, (.int .i64), (cQ 4)), (1, (.int .i64), (cQ 3))]), rQ 14 (.ld aQ (.s 2)), rQ 15 (.build [(.t (.int .i64 0)), (.t (.int .i64 0)), (.t (.str [])), .nilS, .nilS] [(0, (.int .i64), (cQ 4)), (1, (.int .i64), (cQ 2))]), rQ 16 (.bsl aQ (.agg [(.t (.int .i64 0)), (.t (.int .i64 0)), (.t (.str [])), .nilS, .nilS]) 3 [(0, (.s 13)), (1, (.s 14)), (2, (.s 15))]), rQ 17 (.build [(.t (.int .i64 0)), (.t (.int .i64 0)), (.t (.str [])), .nilS, .nilS] [(0, (.int .i64), (cQ 6)), (4, .slc, (.s 16))]), rQ 18 (.call false 29 (.tup [(.int .i64), (.int .i64)]) [(.s 17), (cQ 100)]), mQ 12 18, rQ 19 (.ext 0 (.s 12)), rQ 20 (.ext 1 (.s 12)), mQ 3 19, mQ 4 20])
 (.seq (.reg [mQ 21 4, rQ 22 (.bin .eql (.s 21) (cQ 0)), mQ 23 22, gQ 24 23 true (.mov (.s 3)), gQ 25 23 true (.bin .eql (.s 24) (cQ 5)), rQ 26 (.pick (.s 23) (.s 25) fQ), mQ 0 26])
 .ret))))),
 [.slot 0]⟩
theorem ok9 : compF Tryd.prog 9 [] (Cfg.mk [] [] [] [] []) = some ir9 := by kernel_rfl
def ir10 : FInfo := ⟨26,
 (.seq (.reg [rQ 3 (.box aQ (.s 1)), rQ 4 (.new bQ (.agg [(.t (.str [])), .nilS])), rQ 5 (.mov (cQ 0))])
 (.seq (.seq (.reg [mQ 9 0, rQ 10 (.ld aQ (.s 3)), rQ 11 (.call false 30 .bool [(.s 9), (.s 10)]), rQ 12 (.un .not (.s 11))])
 (.cond (.s 12)
 (.seq (.reg [rQ 13 (.build [(.t (.str [])), .nilS] []), nQ (.st bQ (.s 4) (.s 13)), rQ 5 (.mov (cQ 4))])
 .ret)
 .skip))
 (.seq (.reg [mQ 15 0, rQ 16 (.ld aQ (.s 3)), rQ 17 (.call false 31 (.tup [bQ, .slc, .bool]) [(.s 15), (.s 16)]), mQ 14 17, rQ 18 (.ext 0 (.s 14)), rQ 19 (.ext 1 (.s 14)), rQ 20 (.ext 2 (.s 14)), rQ 6 (.new bQ (.agg [(.t (.str [])), .nilS])), nQ (.st bQ (.s 6) (.s 18)), mQ 7 19, mQ 8 20])
 (.seq (.seq (.reg [mQ 21 8, rQ 22 (.un .not (.s 21))])
 (.cond (.s 22)
 (.seq (.reg [rQ 23 (.build [(.t (.str [])), .nilS] []), nQ (.st bQ (.s 4) (.s 23)), rQ 5 (.mov (cQ 250))])
 .ret)
 .skip))
 (.seq (.reg [rQ 24 (.ld bQ (.s 6)), rQ 25 (.call false 32 bQ [(.s 24)]), nQ (.st bQ (.s 4) (.s 25)), rQ 5 (.mov (cQ 0))])
 .ret))))),
 [.cell 4 bQ, .slot 5]⟩
theorem ok10 : compF Tryd.prog 10 [] (Cfg.mk [] [] [] [] []) = some ir10 := by kernel_rfl
def ir11 : FInfo := ⟨28,
 (.seq (.reg [rQ 1 (.box aQ (.s 0)), rQ 2 (.new aQ (.agg [(.t (.int .i64 0)), (.t (.int .i64 0)), (.t (.str [])), .nilS, .nilS]))])
 (.seq (.reg [rQ 4 (.build [(.t (.str [])), .nilS] []), rQ 5 (.fa 2 (.s 1)), nQ (.st bQ (.s 5) (.s 4))])
 (.seq (.reg [rQ 6 (.fa 4 (.s 1)), rQ 7 (.ld .slc (.s 6)), rQ 8 (.clone aQ 80 (.s 7)), rQ 9 (.fa 4 (.s 1)), nQ (.st .slc (.s 9) (.s 8))])
 (.seq (.seq (.reg [rQ 10 (.fa 4 (.s 1)), rQ 11 (.ld .slc (.s 10)), rQ 12 (.len (.s 11)), rQ 13 (.mov (cQ 0))])
 (.block 0 (.loop [1, 2, 12, 13] (.seq (.reg [rQ 14 (.bin .lss (.s 13) (.s 12))])
 (.seq (.cond (.s 14)
 .skip
 (.exit 0))
 (.seq (.block 1 (.seq (.reg [mQ 15 13, mQ 3 15])
 (.dreg [rQ 16 (.fa 4 (.s 1)), rQ 17 (.ld .slc (.s 16)), mQ 18 3, rQ 19 (.fa 4 (.s 1)), rQ 20 (.ld .slc (.s 19)), mQ 21 3, rQ 22 (.ia aQ (.s 20) (.s 21)), rQ 23 (.ld aQ (.s 22)), rQ 24 (.call false 11 aQ [(.s 23)]), rQ 25 (.ia aQ (.s 17) (.s 18)), nQ (.st aQ (.s 25) (.s 24))] [0, 1, 0, 0, 8, 0, 56, 120, 248, 511, 1023])))
 (.reg [rQ 26 (.bin .add (.s 13) (cQ 1)), mQ 13 26])))))))
 (.seq (.reg [rQ 27 (.ld aQ (.s 1)), nQ (.st aQ (.s 2) (.s 27))])
 .ret))))),
 [.cell 2 aQ]⟩
theorem ok11 : compF Tryd.prog 11 [[1, 2, 12, 13]] (Cfg.mk [] [] [] [] []) = some ir11 := by kernel_rfl
def ir12 : FInfo := ⟨22,
 (.seq (.reg [rQ 2 (.box bQ (.s 0)), rQ 3 (.box bQ (.s 1)), rQ 4 (.mov (.c .nilS)), rQ 5 (.mov (.c .nilS)), rQ 6 (.mov fQ)])
 (.seq (.reg [rQ 10 (.ld bQ (.s 2)), rQ 11 (.ld bQ (.s 3)), rQ 12 (.build [.nilS, .nilS] []), rQ 13 (.callg (.two .str bQ) (.tup [(.agg [.slc, .slc]), .bool]) [true, true, false] 34 [(.s 10), (.s 11), (.s 12)]), mQ 9 13, rQ 14 (.ext 0 (.s 9)), rQ 15 (.ext 1 (.s 9)), rQ 7 (.new (.agg [.slc, .slc]) (.agg [.nilS, .nilS])), nQ (.st (.agg [.slc, .slc]) (.s 7) (.s 14)), mQ 8 15])
 (.seq (.seq (.reg [mQ 16 8, rQ 17 (.un .not (.s 16))])
 (.cond (.s 17)
 (.seq (.reg [rQ 4 (.mov (.c .nilS)), rQ 5 (.mov (.c .nilS)), rQ 6 (.mov fQ)])
 .ret)
 .skip))
 (.seq (.dreg [rQ 18 (.fa 0 (.s 7)), rQ 19 (.ld .slc (.s 18)), rQ 20 (.fa 1 (.s 7)), rQ 21 (.ld .slc (.s 20)), mQ 4 19, mQ 5 21, rQ 6 (.mov tQ)] [0, 1, 0, 4, 3, 31, 63])
 .ret)))),
 [.slot 4, .slot 5, .slot 6]⟩
theorem ok12 : compF Tryd.prog 12 [] (Cfg.mk [] [] [] [(13, [true, true, false])] [(13, (.two .str bQ))]) = some ir12 := by kernel_rfl
def ir13 : FInfo := ⟨50,
 (.seq (.reg [rQ 4 (.mov (cQ 0))])
 (.seq (.reg [rQ 5 (.mov (cQ 0))])
 (.seq (.seq (.reg [rQ 6 (.mov (cQ 0))])
 (.block 0 (.loop [0, 1, 5, 6] (.seq (.seq (.reg [mQ 7 6, mQ 8 0, rQ 9 (.len (.s 8)), rQ 10 (.bin .lss (.s 7) (.s 9)), mQ 11 10, gQ 12 11 true (.mov (.s 5)), gQ 13 11 true (.mov (.s 1)), gQ 14 11 true (.bin .leq (.s 12) (.s 13)), rQ 15 (.pick (.s 11) (.s 14) fQ)])
 (.cond (.s 15)
 .skip
 (.exit 0)))
 (.seq (.block 1 (.seq (.reg [mQ 18 5, rQ 19 (.bin .add (.s 18) (cQ 1)), mQ 20 0, mQ 21 6, rQ 22 (.ia aQ (.s 20) (.s 21)), rQ 23 (.fa 2 (.s 22)), rQ 24 (.ld bQ (.s 23)), rQ 25 (.bsl bQ (.agg [(.t (.str [])), .nilS]) 1 [(0, (.s 24))]), rQ 26 (.call false 35 (.int .i64) [(.s 25), (cQ 80)]), rQ 27 (.bin .add (.s 19) (.s 26)), mQ 5 27])
 (.seq (.seq (.reg [mQ 28 0, mQ 29 6, rQ 30 (.ia aQ (.s 28) (.s 29)), rQ 31 (.fa 2 (.s 30)), rQ 32 (.ld bQ (.s 31)), rQ 33 (.bsl bQ (.agg [(.t (.str [])), .nilS]) 1 [(0, (.s 32))]), rQ 34 (.call false 35 (.int .i64) [(.s 33), (cQ 80)]), rQ 35 (.bin .gtr (.s 34) (cQ 80))])
 (.cond (.s 35)
 (.seq (.reg [mQ 36 1, rQ 37 (.bin .add (.s 36) (cQ 1)), mQ 4 37])
 .ret)
 .skip))
 (.reg [mQ 38 5, mQ 39 0, mQ 40 6, rQ 41 (.ia aQ (.s 39) (.s 40)), rQ 42 (.fa 4 (.s 41)), rQ 43 (.ld .slc (.s 42)), mQ 44 1, mQ 45 5, rQ 46 (.bin .sub (.s 44) (.s 45)), rQ 47 (.call false 13 (.int .i64) [(.s 43), (.s 46)]), rQ 48 (.bin .add (.s 38) (.s 47)), mQ 5 48]))))
 (.reg [mQ 16 6, rQ 17 (.bin .add (.s 16) (cQ 1)), mQ 6 17]))))))
 (.seq (.reg [mQ 49 5, mQ 4 49])
 .ret)))),
 [.slot 4]⟩
theorem ok13 : compF Tryd.prog 13 [[0, 1, 5, 6]] (Cfg.mk [] [] [] [] []) = some ir13 := by kernel_rfl
def ir14 : FInfo := ⟨34,
 (.seq (.reg [rQ 1 (.box aQ (.s 0)), rQ 2 (.mov (cQ 0)), rQ 3 (.mov (cQ 0))])
 (.seq (.reg [rQ 4 (.mov (cQ 1)), rQ 5 (.mov (cQ 0))])
 (.seq (.seq (.reg [rQ 6 (.mov (cQ 0))])
 (.block 0 (.loop [1, 4, 5, 6] (.seq (.seq (.reg [mQ 9 6, rQ 10 (.fa 4 (.s 1)), rQ 11 (.ld .slc (.s 10)), rQ 12 (.len (.s 11)), rQ 13 (.bin .lss (.s 9) (.s 12))])
 (.cond (.s 13)
 .skip
 (.exit 0)))
 (.seq (.block 1 (.seq (.reg [rQ 17 (.fa 4 (.s 1)), rQ 18 (.ld .slc (.s 17)), mQ 19 6, rQ 20 (.ia aQ (.s 18) (.s 19)), rQ 21 (.ld aQ (.s 20)), rQ 22 (.call false 14 (.tup [(.int .i64), (.int .i64)]) [(.s 21)]), mQ 16 22, rQ 23 (.ext 0 (.s 16)), rQ 24 (.ext 1 (.s 16)), mQ 7 23, mQ 8 24])
 (.reg [mQ 25 4, mQ 26 7, rQ 27 (.bin .add (.s 25) (.s 26)), mQ 28 5, mQ 29 8, rQ 30 (.mx (.s 28) (.s 29)), mQ 4 27, mQ 5 30])))
 (.reg [mQ 14 6, rQ 15 (.bin .add (.s 14) (cQ 1)), mQ 6 15]))))))
 (.seq (.reg [mQ 31 4, mQ 32 5, rQ 33 (.bin .add (.s 32) (cQ 1)), mQ 2 31, mQ 3 33])
 .ret)))),
 [.slot 2, .slot 3]⟩
theorem ok14 : compF Tryd.prog 14 [[1, 4, 5, 6]] (Cfg.mk [] [] [] [] []) = some ir14 := by kernel_rfl
def ir15 : FInfo := ⟨12,
 (.seq (.reg [rQ 1 (.box aQ (.s 0)), rQ 2 (.mov fQ)])
 (.seq (.reg [rQ 3 (.fa 2 (.s 1)), rQ 4 (.ld bQ (.s 3)), rQ 5 (.call false 36 .bool [(.s 4)]), mQ 6 5, gQ 7 6 true (.fa 4 (.s 1)), gQ 8 6 true (.ld .slc (.s 7)), gQ 9 6 true (.call false 37 .bool [(.s 8), (.f 38)]), gQ 10 6 true (.un .not (.s 9)), rQ 11 (.pick (.s 6) (.s 10) fQ), mQ 2 11])
 .ret)),
 [.slot 2]⟩
theorem ok15 : compF Tryd.prog 15 [] (Cfg.mk [] [] [] [] []) = some ir15 := by kernel_rfl
def ir16 : FInfo := ⟨20,
 (.seq (.reg [rQ 1 (.box aQ (.s 0)), rQ 2 (.mov fQ)])
 (.seq (.reg [rQ 6 (.ld aQ (.s 1)), rQ 7 (.call false 39 (.tup [(.int .i64), (.int .i64)]) [(.s 6)]), mQ 5 7, rQ 8 (.ext 0 (.s 5)), rQ 9 (.ext 1 (.s 5)), mQ 3 8, mQ 4 9])
 (.seq (.reg [mQ 10 3, rQ 11 (.bin .leq (.s 10) (cQ 300)), mQ 12 11, gQ 13 12 true (.mov (.s 4)), gQ 14 12 true (.bin .leq (.s 13) (cQ 60)), rQ 15 (.pick (.s 12) (.s 14) fQ), mQ 16 15, gQ 17 16 true (.ld aQ (.s 1)), gQ 18 16 true (.call false 40 .bool [(.s 17)]), rQ 19 (.pick (.s 16) (.s 18) fQ), mQ 2 19])
 .ret))),
 [.slot 2]⟩
theorem ok16 : compF Tryd.prog 16 [] (Cfg.mk [] [] [] [] []) = some ir16 := by kernel_rfl
def ir17 : FInfo := ⟨31,
 (.seq (.reg [rQ 1 (.box aQ (.s 0)), rQ 2 (.new aQ (.agg [(.t (.int .i64 0)), (.t (.int .i64 0)), (.t (.str [])), .nilS, .nilS]))])
 (.seq (.seq (.reg [rQ 4 (.fa 0 (.s 1)), rQ 5 (.ld (.int .i64) (.s 4)), rQ 6 (.bin .eql (.s 5) (cQ 2))])
 (.cond (.s 6)
 (.reg [rQ 7 (.call false 41 bQ []), rQ 8 (.fa 2 (.s 1)), nQ (.st bQ (.s 8) (.s 7))])
 .skip))
 (.seq (.reg [rQ 9 (.fa 4 (.s 1)), rQ 10 (.ld .slc (.s 9)), rQ 11 (.clone aQ 80 (.s 10)), rQ 12 (.fa 4 (.s 1)), nQ (.st .slc (.s 12) (.s 11))])
 (.seq (.seq (.reg [rQ 13 (.fa 4 (.s 1)), rQ 14 (.ld .slc (.s 13)), rQ 15 (.len (.s 14)), rQ 16 (.mov (cQ 0))])
 (.block 0 (.loop [1, 2, 15, 16] (.seq (.reg [rQ 17 (.bin .lss (.s 16) (.s 15))])
 (.seq (.cond (.s 17)
 .skip
 (.exit 0))
 (.seq (.block 1 (.seq (.reg [mQ 18 16, mQ 3 18])
 (.dreg [rQ 19 (.fa 4 (.s 1)), rQ 20 (.ld .slc (.s 19)), mQ 21 3, rQ 22 (.fa 4 (.s 1)), rQ 23 (.ld .slc (.s 22)), mQ 24 3, rQ 25 (.ia aQ (.s 23) (.s 24)), rQ 26 (.ld aQ (.s 25)), rQ 27 (.call false 17 aQ [(.s 26)]), rQ 28 (.ia aQ (.s 20) (.s 21)), nQ (.st aQ (.s 28) (.s 27))] [0, 1, 0, 0, 8, 0, 56, 120, 248, 511, 1023])))
 (.reg [rQ 29 (.bin .add (.s 16) (cQ 1)), mQ 16 29])))))))
 (.seq (.reg [rQ 30 (.ld aQ (.s 1)), nQ (.st aQ (.s 2) (.s 30))])
 .ret))))),
 [.cell 2 aQ]⟩
theorem ok17 : compF Tryd.prog 17 [[1, 2, 15, 16]] (Cfg.mk [] [] [] [] []) = some ir17 := by kernel_rfl
def ir18 : FInfo := ⟨22,
 (.seq (.reg [rQ 2 (.box aQ (.s 0)), rQ 3 (.box (.int .i64) (.s 1)), rQ 4 (.mov fQ)])
 (.seq (.seq (.reg [rQ 5 (.fa 0 (.s 2)), rQ 6 (.ld (.int .i64) (.s 5)), rQ 7 (.bin .eql (.s 6) (cQ 1))])
 (.cond (.s 7)
 (.seq (.reg [rQ 8 (.fa 1 (.s 2)), rQ 9 (.ld (.int .i64) (.s 8)), rQ 10 (.ld (.int .i64) (.s 3)), rQ 11 (.bin .lss (.s 9) (.s 10)), mQ 4 11])
 .ret)
 .skip))
 (.seq (.seq (.reg [rQ 12 (.fa 0 (.s 2)), rQ 13 (.ld (.int .i64) (.s 12)), rQ 14 (.bin .eql (.s 13) (cQ 2))])
 (.cond (.s 14)
 (.reg [rQ 15 (.ld (.int .i64) (.s 3)), rQ 16 (.bin .add (.s 15) (cQ 1)), nQ (.st (.int .i64) (.s 3) (.s 16))])
 .skip))
 (.seq (.reg [rQ 17 (.fa 4 (.s 2)), rQ 18 (.ld .slc (.s 17)), rQ 19 (.mkf 42 [] [(.s 3)]), rQ 20 (.call false 37 .bool [(.s 18), (.s 19)]), rQ 21 (.un .not (.s 20)), mQ 4 21])
 .ret)))),
 [.slot 4]⟩
theorem ok18 : compF Tryd.prog 18 [] (Cfg.mk [] [] [] [] []) = some ir18 := by kernel_rfl
def ir19 : FInfo := ⟨160,
 (.seq (.reg [rQ 5 (.box aQ (.s 2)), rQ 6 (.mov (.c (.t .nilp))), rQ 7 (.mov fQ)])
 (.seq (.reg [mQ 17 1, mQ 8 17])
 (.seq (.seq (.reg [rQ 18 (.fa 0 (.s 5)), rQ 19 (.ld (.int .i64) (.s 18)), rQ 20 (.bin .eql (.s 19) (cQ 2))])
 (.cond (.s 20)
 (.reg [mQ 21 1, rQ 22 (.call true 43 .slc [(.s 21)]), mQ 23 0, rQ 24 (.callw 44 .wp [(.s 23)]), rQ 25 (.bsl .any (.t .nilp) 1 [(0, (.s 24))]), rQ 26 (.app .any 8 (.s 22) (.s 25)), mQ 8 26])
 .skip))
 (.seq (.reg [rQ 9 (.mov (.c .nilS))])
 (.seq (.seq (.reg [rQ 27 (.fa 4 (.s 5)), rQ 28 (.ld .slc (.s 27)), rQ 29 (.len (.s 28)), rQ 30 (.mov (cQ 0))])
 (.block 0 (.loop [0, 1, 5, 8, 9, 28, 29, 30] (.seq (.reg [rQ 31 (.bin .lss (.s 30) (.s 29))])
 (.seq (.cond (.s 31)
 .skip
 (.exit 0))
 (.seq (.block 1 (.seq (.reg [rQ 32 (.ia aQ (.s 28) (.s 30)), rQ 33 (.ld aQ (.s 32)), rQ 11 (.new aQ (.agg [(.t (.int .i64 0)), (.t (.int .i64 0)), (.t (.str [])), .nilS, .nilS])), nQ (.st aQ (.s 11) (.s 33))])
 (.seq (.reg [mQ 35 0, mQ 36 8, rQ 37 (.ld aQ (.s 11)), rQ 38 (.callw 19 (.tup [.any, .bool]) [(.s 35), (.s 36), (.s 37)]), mQ 34 38, rQ 39 (.ext 0 (.s 34)), rQ 40 (.ext 1 (.s 34)), mQ 12 39, mQ 13 40])
 (.seq (.seq (.reg [mQ 41 13, rQ 42 (.un .not (.s 41))])
 (.cond (.s 42)
 (.seq (.reg [rQ 6 (.mov (.c (.t .nilp))), rQ 7 (.mov fQ)])
 .ret)
 .skip))
 (.reg [mQ 43 9, mQ 44 12, rQ 45 (.bsl .any (.t .nilp) 1 [(0, (.s 44))]), rQ 46 (.app .any 8 (.s 43) (.s 45)), mQ 9 46])))))
 (.reg [rQ 47 (.bin .add (.s 30) (cQ 1)), mQ 30 47])))))))
 (.seq (.reg [rQ 48 (.build [(.t (.str [])), (.t (.int .i64 0)), .nilS] [(0, .str, (.c (.t (.str [78, 97, 116]))))]), rQ 49 (.wbox (.agg [.str, (.int .i64), .slc]) (.s 48)), mQ 14 49])
 (.seq (.seq (.reg [rQ 50 (.fa 0 (.s 5)), rQ 51 (.ld (.int .i64) (.s 50))])
 (.block 2 (.seq (.reg [rQ 53 (.bin .eql (.s 51) (cQ 1)), mQ 52 53])
 (.cond (.s 52)
 (.seq (.reg [mQ 54 1, mQ 55 1, rQ 56 (.len (.s 55)), rQ 57 (.bin .sub (.s 56) (cQ 1)), rQ 58 (.fa 1 (.s 5)), rQ 59 (.ld (.int .i64) (.s 58)), rQ 60 (.bin .sub (.s 57) (.s 59)), rQ 61 (.ia .wp (.s 54) (.s 60)), rQ 62 (.ld .wp (.s 61)), mQ 6 62, rQ 7 (.mov tQ)])
 .ret)
 (.seq (.reg [rQ 64 (.bin .eql (.s 51) (cQ 2)), mQ 63 64])
 (.cond (.s 63)
 (.seq (.dreg [mQ 65 8, mQ 66 8, rQ 67 (.len (.s 66)), rQ 68 (.bin .sub (.s 67) (cQ 1)), rQ 69 (.ia .wp (.s 65) (.s 68)), rQ 70 (.ld .wp (.s 69)), mQ 71 9, rQ 72 (.ia .wp (.s 71) (cQ 0)), rQ 73 (.ld .wp (.s 72)), rQ 74 (.callw 45 .wp [(.c (.t (.str [84, 111]))), (.s 70), (.s 73)]), mQ 6 74, rQ 7 (.mov tQ)] [0, 0, 2, 6, 15, 31, 0, 64, 192, 511, 1023, 2047])
 .ret)
 (.seq (.reg [rQ 76 (.bin .eql (.s 51) (cQ 3)), mQ 75 76])
 (.cond (.s 75)
 (.seq (.reg [mQ 77 0, rQ 78 (.callw 44 .wp [(.s 77)]), mQ 15 78])
 (.seq (.dreg [mQ 79 15, mQ 80 0, mQ 81 9, rQ 82 (.ia .wp (.s 81) (cQ 0)), rQ 83 (.ld .wp (.s 82)), mQ 84 9, rQ 85 (.ia .wp (.s 84) (cQ 1)), rQ 86 (.ld .wp (.s 85)), mQ 87 15, rQ 88 (.callw 45 .wp [(.c (.t (.str [84, 111]))), (.s 86), (.s 87)]), rQ 89 (.callw 46 .bool [(.s 80), (.s 83), (.s 88)]), mQ 6 79, mQ 7 89] [0, 0, 0, 4, 12, 0, 32, 96, 0, 480, 1022, 2047, 4095])
 .ret))
 (.seq (.reg [rQ 91 (.bin .eql (.s 51) (cQ 5)), mQ 90 91])
 (.cond (.s 90)
 (.seq (.reg [mQ 92 14, mQ 93 0, mQ 94 9, rQ 95 (.ia .wp (.s 94) (cQ 0)), rQ 96 (.ld .wp (.s 95)), mQ 97 14, rQ 98 (.callw 46 .bool [(.s 93), (.s 96), (.s 97)]), mQ 6 92, mQ 7 98])
 .ret)
 (.seq (.reg [rQ 100 (.bin .eql (.s 51) (cQ 6)), mQ 99 100])
 (.cond (.s 99)
 (.seq (.dreg [mQ 101 9, rQ 102 (.ia .wp (.s 101) (cQ 2)), rQ 103 (.ld .wp (.s 102)), mQ 104 0, mQ 105 9, rQ 106 (.ia .wp (.s 105) (cQ 0)), rQ 107 (.ld .wp (.s 106)), mQ 108 14, rQ 109 (.callw 46 .bool [(.s 104), (.s 107), (.s 108)]), mQ 110 109, gQ 111 110 true (.mov (.s 0)), gQ 112 110 true (.mov (.s 9)), gQ 113 110 true (.ia .wp (.s 112) (cQ 1)), gQ 114 110 true (.ld .wp (.s 113)), gQ 115 110 true (.mov (.s 9)), gQ 116 110 true (.ia .wp (.s 115) (cQ 2)), gQ 117 110 true (.ld .wp (.s 116)), gQ 118 110 true (.mov (.s 9)), gQ 119 110 true (.ia .wp (.s 118) (cQ 2)), gQ 120 110 true (.ld .wp (.s 119)), gQ 121 110 true (.callw 45 .wp [(.c (.t (.str [84, 111]))), (.s 117), (.s 120)]), gQ 122 110 true (.callw 46 .bool [(.s 111), (.s 114), (.s 121)]), rQ 123 (.pick (.s 110) (.s 122) fQ), mQ 6 103, mQ 7 123] [0, 1, 3, 0, 0, 16, 48, 0, 248, 504, 1016, 1016, 3064, 7160, 1016, 17400, 50168, 1016, 132088, 394232, 1033208, 2097144, 4194296, 4194303, 16777215])
 .ret)
 (.seq (.reg [rQ 125 (.bin .eql (.s 51) (cQ 7)), mQ 124 125])
 (.cond (.s 124)
 (.seq (.dreg [mQ 126 9, rQ 127 (.ia .wp (.s 126) (cQ 0)), rQ 128 (.ld .wp (.s 127)), mQ 129 9, rQ 130 (.ia .wp (.s 129) (cQ 1)), rQ 131 (.ld .wp (.s 130)), rQ 132 (.callw 45 .wp [(.c (.t (.str [80, 97, 105, 114]))), (.s 128), (.s 131)]), mQ 6 132, rQ 7 (.mov tQ)] [0, 1, 3, 0, 8, 24, 63, 127, 255])
 .ret)
 (.seq (.seq (.reg [rQ 134 (.bin .eql (.s 51) (cQ 8)), mQ 133 134])
 (.cond (.s 133)
 .skip
 (.reg [rQ 135 (.bin .eql (.s 51) (cQ 9)), mQ 133 135])))
 (.cond (.s 133)
 (.seq (.reg [mQ 136 0, rQ 137 (.callw 44 .wp [(.s 136)]), mQ 138 0, rQ 139 (.callw 44 .wp [(.s 138)]), rQ 140 (.bsl .any (.t .nilp) 2 [(0, (.s 137)), (1, (.s 139))]), mQ 16 140])
 (.seq (.dreg [mQ 141 16, rQ 142 (.fa 0 (.s 5)), rQ 143 (.ld (.int .i64) (.s 142)), rQ 144 (.bin .sub (.s 143) (cQ 8)), rQ 145 (.ia .wp (.s 141) (.s 144)), rQ 146 (.ld .wp (.s 145)), mQ 147 0, mQ 148 9, rQ 149 (.ia .wp (.s 148) (cQ 0)), rQ 150 (.ld .wp (.s 149)), mQ 151 16, rQ 152 (.ia .wp (.s 151) (cQ 0)), rQ 153 (.ld .wp (.s 152)), mQ 154 16, rQ 155 (.ia .wp (.s 154) (cQ 1)), rQ 156 (.ld .wp (.s 155)), rQ 157 (.callw 45 .wp [(.c (.t (.str [80, 97, 105, 114]))), (.s 153), (.s 156)]), rQ 158 (.callw 46 .bool [(.s 147), (.s 150), (.s 157)]), mQ 6 146, mQ 7 158] [0, 0, 2, 6, 15, 31, 0, 0, 128, 384, 0, 1024, 3072, 0, 8192, 24576, 64512, 131008, 262143, 524287])
 .ret))
 .skip))))))))))))))))
 (.seq (.reg [mQ 159 14, mQ 6 159, rQ 7 (.mov tQ)])
 .ret)))))))),
 [.slot 6, .slot 7]⟩
theorem ok19 : compF Tryd.prog 19 [[0, 1, 5, 8, 9, 28, 29, 30]] (Cfg.mk [22] [45, 47, 53, 85, 105, 114] [24, 38, 74, 78, 88, 89, 98, 109, 121, 122, 132, 137, 139, 157, 158] [] []) = some ir19 := by kernel_rfl
def ir20 : FInfo := ⟨95,
 (.seq (.reg [rQ 8 (.new bQ (.agg [(.t (.str [])), .nilS])), rQ 9 (.mov fQ)])
 (.seq (.reg [mQ 17 0, mQ 18 1, rQ 19 (.callw 47 .wp [(.s 17), (.s 18)]), mQ 1 19])
 (.seq (.seq (.reg [mQ 20 3, rQ 21 (.nonnil (.s 20)), rQ 22 (.ld (.int .i64) (.s 21)), rQ 23 (.bin .sub (.s 22) (cQ 1)), rQ 24 (.nonnil (.s 20)), nQ (.st (.int .i64) (.s 24) (.s 23))])
 (.seq (.reg [mQ 25 3, rQ 26 (.nonnil (.s 25)), rQ 27 (.ld (.int .i64) (.s 26)), rQ 28 (.bin .lss (.s 27) (cQ 0))])
 (.cond (.s 28)
 (.seq (.reg [rQ 29 (.build [(.t (.str [])), .nilS] []), nQ (.st bQ (.s 8) (.s 29)), rQ 9 (.mov fQ)])
 .ret)
 .skip)))
 (.seq (.seq (.reg [mQ 30 1, rQ 31 (.nonnil (.s 30)), rQ 32 (.fa 0 (.s 31)), rQ 33 (.ld .str (.s 32)), rQ 34 (.bin .eql (.s 33) (.c (.t (.str []))))])
 (.cond (.s 34)
 (.seq (.seq (.reg [mQ 36 2, mQ 37 1, rQ 38 (.nonnil (.s 37)), rQ 39 (.fa 1 (.s 38)), rQ 40 (.ld (.int .i64) (.s 39)), rQ 41 (.wget .int true .str (.t (.str [])) (.s 36) (.s 40)), mQ 35 41, rQ 42 (.ext 0 (.s 35)), rQ 43 (.ext 1 (.s 35)), mQ 10 42, mQ 11 43])
 (.seq (.reg [mQ 44 11, rQ 45 (.un .not (.s 44))])
 (.cond (.s 45)
 (.dreg [mQ 46 2, mQ 47 1, rQ 48 (.nonnil (.s 47)), rQ 49 (.fa 1 (.s 48)), rQ 50 (.ld (.int .i64) (.s 49)), mQ 51 2, rQ 52 (.wlen (.s 51)), rQ 53 (.call false 48 .str [(.s 52)]), rQ 54 (.bin .add (.c (.t (.str [63]))) (.s 53)), nQ (.wput .int (.s 46) (.s 50) (.s 54))] [0, 0, 2, 6, 14, 0, 32, 96, 224, 511])
 .skip)))
 (.seq (.reg [mQ 55 2, mQ 56 1, rQ 57 (.nonnil (.s 56)), rQ 58 (.fa 1 (.s 57)), rQ 59 (.ld (.int .i64) (.s 58)), rQ 60 (.wget .int false .str (.t (.str [])) (.s 55) (.s 59)), rQ 61 (.build [(.t (.str [])), .nilS] [(0, .str, (.s 60))]), nQ (.st bQ (.s 8) (.s 61)), rQ 9 (.mov tQ)])
 .ret))
 .skip))
 (.seq (.reg [mQ 62 1, rQ 63 (.nonnil (.s 62)), rQ 64 (.fa 0 (.s 63)), rQ 65 (.ld .str (.s 64)), rQ 66 (.build [(.t (.str [])), .nilS] [(0, .str, (.s 65))]), rQ 12 (.new bQ (.agg [(.t (.str [])), .nilS])), nQ (.st bQ (.s 12) (.s 66))])
 (.seq (.seq (.reg [mQ 67 1, rQ 68 (.nonnil (.s 67)), rQ 69 (.fa 2 (.s 68)), rQ 70 (.ld .slc (.s 69)), rQ 71 (.len (.s 70)), rQ 72 (.mov (cQ 0))])
 (.block 0 (.loop [0, 2, 3, 8, 12, 70, 71, 72] (.seq (.reg [rQ 73 (.bin .lss (.s 72) (.s 71))])
 (.seq (.cond (.s 73)
 .skip
 (.exit 0))
 (.seq (.block 1 (.seq (.reg [rQ 74 (.ia .wp (.s 70) (.s 72)), rQ 75 (.ld .wp (.s 74)), mQ 14 75])
 (.seq (.reg [mQ 77 0, mQ 78 14, mQ 79 2, mQ 80 3, rQ 81 (.callw 20 (.tup [bQ, .bool]) [(.s 77), (.s 78), (.s 79), (.s 80)]), mQ 76 81, rQ 82 (.ext 0 (.s 76)), rQ 83 (.ext 1 (.s 76)), rQ 15 (.new bQ (.agg [(.t (.str [])), .nilS])), nQ (.st bQ (.s 15) (.s 82)), mQ 16 83])
 (.seq (.seq (.reg [mQ 84 16, rQ 85 (.un .not (.s 84))])
 (.cond (.s 85)
 (.seq (.reg [rQ 86 (.build [(.t (.str [])), .nilS] []), nQ (.st bQ (.s 8) (.s 86)), rQ 9 (.mov fQ)])
 .ret)
 .skip))
 (.reg [rQ 87 (.fa 1 (.s 12)), rQ 88 (.ld .slc (.s 87)), rQ 89 (.ld bQ (.s 15)), rQ 90 (.bsl bQ (.agg [(.t (.str [])), .nilS]) 1 [(0, (.s 89))]), rQ 91 (.app bQ 40 (.s 88) (.s 90)), rQ 92 (.fa 1 (.s 12)), nQ (.st .slc (.s 92) (.s 91))])))))
 (.reg [rQ 93 (.bin .add (.s 72) (cQ 1)), mQ 72 93])))))))
 (.seq (.reg [rQ 94 (.ld bQ (.s 12)), nQ (.st bQ (.s 8) (.s 94)), rQ 9 (.mov tQ)])
 .ret))))))),
 [.cell 8 bQ, .slot 9]⟩
theorem ok20 : compF Tryd.prog 20 [[0, 2, 3, 8, 12, 70, 71, 72]] (Cfg.mk [] [45, 47, 53, 85, 105, 114] [19, 81] [] []) = some ir20 := by kernel_rfl
def ir29 : FInfo := ⟨40,
 (.seq (.reg [rQ 2 (.box aQ (.s 0)), rQ 4 (.mov (cQ 0)), rQ 5 (.mov (cQ 0))])
 (.seq (.reg [rQ 11 (.ld aQ (.s 2)), rQ 12 (.call false 10 (.tup [bQ, (.int .i64)]) [(.c .nilS), (.s 11)]), mQ 10 12, rQ 13 (.ext 0 (.s 10)), rQ 14 (.ext 1 (.s 10)), rQ 6 (.new bQ (.agg [(.t (.str [])), .nilS])), nQ (.st bQ (.s 6) (.s 13)), mQ 7 14])
 (.seq (.block 0 (.seq (.reg [mQ 16 7, rQ 17 (.bin .neq (.s 16) (cQ 0)), mQ 15 17])
 (.cond (.s 15)
 (.seq (.reg [mQ 18 7, rQ 4 (.mov (cQ 0)), mQ 5 18])
 .ret)
 (.seq (.reg [rQ 20 (.fa 0 (.s 6)), rQ 21 (.ld .str (.s 20)), rQ 22 (.bin .neq (.s 21) (.c (.t (.str [78, 97, 116])))), mQ 19 22])
 (.cond (.s 19)
 (.seq (.reg [rQ 4 (.mov (cQ 0)), rQ 5 (.mov (cQ 250))])
 .ret)
 .skip)))))
 (.seq (.reg [rQ 24 (.ld aQ (.s 2)), mQ 25 1, rQ 26 (.call false 55 (.tup [aQ, (.int .i64), (.int .i64)]) [(.s 24), (.s 25)]), mQ 23 26, rQ 27 (.ext 0 (.s 23)), rQ 28 (.ext 1 (.s 23)), rQ 29 (.ext 2 (.s 23)), rQ 8 (.new aQ (.agg [(.t (.int .i64 0)), (.t (.int .i64 0)), (.t (.str [])), .nilS, .nilS])), nQ (.st aQ (.s 8) (.s 27)), mQ 9 28, mQ 7 29])
 (.seq (.block 1 (.seq (.reg [mQ 31 7, rQ 32 (.bin .neq (.s 31) (cQ 0)), mQ 30 32])
 (.cond (.s 30)
 (.seq (.reg [mQ 33 7, rQ 4 (.mov (cQ 0)), mQ 5 33])
 .ret)
 (.seq (.reg [rQ 35 (.fa 1 (.s 8)), rQ 36 (.ld (.int .i64) (.s 35)), rQ 37 (.bin .gtr (.s 36) (cQ 1000000)), mQ 34 37])
 (.cond (.s 34)
 (.seq (.reg [rQ 4 (.mov (cQ 0)), rQ 5 (.mov (cQ 2))])
 .ret)
 .skip)))))
 (.seq (.reg [rQ 38 (.fa 1 (.s 8)), rQ 39 (.ld (.int .i64) (.s 38)), mQ 4 39, rQ 5 (.mov (cQ 0))])
 .ret)))))),
 [.slot 4, .slot 5]⟩
theorem ok29 : compF Tryd.prog 29 [] (Cfg.mk [] [] [] [] []) = some ir29 := by kernel_rfl
def ir30 : FInfo := ⟨17,
 (.seq (.reg [rQ 3 (.box aQ (.s 1)), rQ 4 (.mov fQ)])
 (.seq (.reg [mQ 5 0, rQ 6 (.len (.s 5)), rQ 7 (.bin .leq (.s 6) (cQ 100)), mQ 8 7, gQ 9 8 true (.mov (.s 0)), gQ 10 8 true (.call false 56 .bool [(.s 9), (.f 57)]), gQ 11 8 true (.un .not (.s 10)), rQ 12 (.pick (.s 8) (.s 11) fQ), mQ 13 12, gQ 14 13 true (.ld aQ (.s 3)), gQ 15 13 true (.call false 16 .bool [(.s 14)]), rQ 16 (.pick (.s 13) (.s 15) fQ), mQ 4 16])
 .ret)),
 [.slot 4]⟩
theorem ok30 : compF Tryd.prog 30 [] (Cfg.mk [] [] [] [] []) = some ir30 := by kernel_rfl
def ir31 : FInfo := ⟨62,
 (.seq (.reg [rQ 3 (.box aQ (.s 1)), rQ 4 (.new bQ (.agg [(.t (.str [])), .nilS])), rQ 5 (.mov (.c .nilS)), rQ 6 (.mov fQ)])
 (.seq (.reg [mQ 16 0, mQ 7 16])
 (.seq (.seq (.reg [rQ 17 (.fa 0 (.s 3)), rQ 18 (.ld (.int .i64) (.s 17)), rQ 19 (.bin .eql (.s 18) (cQ 2))])
 (.cond (.s 19)
 (.dreg [mQ 20 0, rQ 21 (.call true 59 .slc [(.s 20)]), rQ 22 (.fa 2 (.s 3)), rQ 23 (.ld bQ (.s 22)), rQ 24 (.bsl bQ (.agg [(.t (.str [])), .nilS]) 1 [(0, (.s 23))]), rQ 25 (.app bQ 40 (.s 21) (.s 24)), mQ 7 25] [0, 1, 0, 4, 12, 31, 63])
 .skip))
 (.seq (.reg [rQ 8 (.mov (.c .nilS))])
 (.seq (.seq (.reg [rQ 26 (.fa 4 (.s 3)), rQ 27 (.ld .slc (.s 26)), rQ 28 (.len (.s 27)), rQ 29 (.mov (cQ 0))])
 (.block 0 (.loop [0, 3, 4, 7, 8, 27, 28, 29] (.seq (.reg [rQ 30 (.bin .lss (.s 29) (.s 28))])
 (.seq (.cond (.s 30)
 .skip
 (.exit 0))
 (.seq (.block 1 (.seq (.reg [mQ 31 29, rQ 32 (.ia aQ (.s 27) (.s 29)), rQ 33 (.ld aQ (.s 32)), rQ 10 (.new aQ (.agg [(.t (.int .i64 0)), (.t (.int .i64 0)), (.t (.str [])), .nilS, .nilS])), mQ 9 31, nQ (.st aQ (.s 10) (.s 33))])
 (.seq (.reg [mQ 35 7, rQ 36 (.ld aQ (.s 10)), rQ 37 (.call false 31 (.tup [bQ, .slc, .bool]) [(.s 35), (.s 36)]), mQ 34 37, rQ 38 (.ext 0 (.s 34)), rQ 39 (.ext 1 (.s 34)), rQ 40 (.ext 2 (.s 34)), rQ 11 (.new bQ (.agg [(.t (.str [])), .nilS])), nQ (.st bQ (.s 11) (.s 38)), mQ 12 39, mQ 13 40])
 (.seq (.seq (.reg [mQ 41 13, rQ 42 (.un .not (.s 41))])
 (.cond (.s 42)
 (.seq (.reg [rQ 43 (.build [(.t (.str [])), .nilS] []), mQ 44 9, rQ 45 (.bsl (.int .i64) (.t (.int .i64 0)) 1 [(0, (.s 44))]), mQ 46 12, rQ 47 (.app (.int .i64) 8 (.s 45) (.s 46)), nQ (.st bQ (.s 4) (.s 43)), mQ 5 47, rQ 6 (.mov fQ)])
 .ret)
 .skip))
 (.reg [mQ 48 8, rQ 49 (.ld bQ (.s 11)), rQ 50 (.bsl bQ (.agg [(.t (.str [])), .nilS]) 1 [(0, (.s 49))]), rQ 51 (.app bQ 40 (.s 48) (.s 50)), mQ 8 51])))))
 (.reg [rQ 52 (.bin .add (.s 29) (cQ 1)), mQ 29 52])))))))
 (.seq (.reg [mQ 54 0, rQ 55 (.ld aQ (.s 3)), mQ 56 8, rQ 57 (.call false 60 (.tup [bQ, .bool]) [(.s 54), (.s 55), (.s 56)]), mQ 53 57, rQ 58 (.ext 0 (.s 53)), rQ 59 (.ext 1 (.s 53)), rQ 14 (.new bQ (.agg [(.t (.str [])), .nilS])), nQ (.st bQ (.s 14) (.s 58)), mQ 15 59])
 (.seq (.reg [rQ 60 (.ld bQ (.s 14)), mQ 61 15, nQ (.st bQ (.s 4) (.s 60)), rQ 5 (.mov (.c .nilS)), mQ 6 61])
 .ret))))))),
 [.cell 4 bQ, .slot 5, .slot 6]⟩
theorem ok31 : compF Tryd.prog 31 [[0, 3, 4, 7, 8, 27, 28, 29]] (Cfg.mk [21] [] [] [] []) = some ir31 := by kernel_rfl
def ir32 : FInfo := ⟨26,
 (.seq (.reg [rQ 1 (.box bQ (.s 0)), rQ 2 (.new bQ (.agg [(.t (.str [])), .nilS]))])
 (.seq (.reg [rQ 4 (.fa 1 (.s 1)), rQ 5 (.ld .slc (.s 4)), rQ 6 (.clone bQ 40 (.s 5)), rQ 7 (.fa 1 (.s 1)), nQ (.st .slc (.s 7) (.s 6))])
 (.seq (.seq (.reg [rQ 8 (.fa 1 (.s 1)), rQ 9 (.ld .slc (.s 8)), rQ 10 (.len (.s 9)), rQ 11 (.mov (cQ 0))])
 (.block 0 (.loop [1, 2, 10, 11] (.seq (.reg [rQ 12 (.bin .lss (.s 11) (.s 10))])
 (.seq (.cond (.s 12)
 .skip
 (.exit 0))
 (.seq (.block 1 (.seq (.reg [mQ 13 11, mQ 3 13])
 (.dreg [rQ 14 (.fa 1 (.s 1)), rQ 15 (.ld .slc (.s 14)), mQ 16 3, rQ 17 (.fa 1 (.s 1)), rQ 18 (.ld .slc (.s 17)), mQ 19 3, rQ 20 (.ia bQ (.s 18) (.s 19)), rQ 21 (.ld bQ (.s 20)), rQ 22 (.call false 32 bQ [(.s 21)]), rQ 23 (.ia bQ (.s 15) (.s 16)), nQ (.st bQ (.s 23) (.s 22))] [0, 1, 0, 0, 8, 0, 56, 120, 248, 511, 1023])))
 (.reg [rQ 24 (.bin .add (.s 11) (cQ 1)), mQ 11 24])))))))
 (.seq (.reg [rQ 25 (.ld bQ (.s 1)), nQ (.st bQ (.s 2) (.s 25))])
 .ret)))),
 [.cell 2 bQ]⟩
theorem ok32 : compF Tryd.prog 32 [[1, 2, 10, 11]] (Cfg.mk [] [] [] [] []) = some ir32 := by kernel_rfl
def ir34 : FInfo := ⟨82,
 (.seq (.reg [rQ 3 (.box bQ (.s 0)), rQ 4 (.box bQ (.s 1)), rQ 5 (.box (.agg [.slc, .slc]) (.s 2)), rQ 6 (.new (.agg [.slc, .slc]) (.agg [.nilS, .nilS])), rQ 7 (.mov fQ)])
 (.seq (.seq (.reg [rQ 11 (.ld bQ (.s 3)), rQ 12 (.call false 62 .bool [(.s 11)])])
 (.cond (.s 12)
 (.seq (.reg [rQ 13 (.fa 0 (.s 5)), rQ 14 (.ld .slc (.s 13)), rQ 15 (.fa 0 (.s 3)), rQ 16 (.ld .str (.s 15)), rQ 17 (.call false 63 (.int .i64) [(.s 14), (.s 16)]), mQ 8 17])
 (.seq (.seq (.reg [mQ 18 8, rQ 19 (.bin .geq (.s 18) (cQ 0))])
 (.cond (.s 19)
 (.seq (.dreg [rQ 20 (.ld (.agg [.slc, .slc]) (.s 5)), rQ 21 (.fa 1 (.s 5)), rQ 22 (.ld .slc (.s 21)), mQ 23 8, rQ 24 (.ia bQ (.s 22) (.s 23)), rQ 25 (.ld bQ (.s 24)), rQ 26 (.ld bQ (.s 4)), rQ 27 (.call false 64 .bool [(.s 25), (.s 26)]), nQ (.st (.agg [.slc, .slc]) (.s 6) (.s 20)), mQ 7 27] [0, 0, 2, 0, 14, 30, 0, 126, 255, 511])
 .ret)
 .skip))
 (.seq (.dreg [rQ 28 (.fa 0 (.s 5)), rQ 29 (.ld .slc (.s 28)), rQ 30 (.fa 0 (.s 3)), rQ 31 (.ld .str (.s 30)), rQ 32 (.bsl .str (.t (.str [])) 1 [(0, (.s 31))]), rQ 33 (.app .str 16 (.s 29) (.s 32)), rQ 34 (.fa 1 (.s 5)), rQ 35 (.ld .slc (.s 34)), rQ 36 (.ld bQ (.s 4)), rQ 37 (.bsl bQ (.agg [(.t (.str [])), .nilS]) 1 [(0, (.s 36))]), rQ 38 (.app bQ 40 (.s 35) (.s 37)), rQ 39 (.build [.nilS, .nilS] [(0, .slc, (.s 33)), (1, .slc, (.s 38))]), nQ (.st (.agg [.slc, .slc]) (.s 6) (.s 39)), rQ 7 (.mov tQ)] [0, 1, 0, 4, 12, 31, 0, 64, 0, 256, 1023, 2047, 4095, 8191])
 .ret)))
 .skip))
 (.seq (.seq (.reg [rQ 40 (.fa 0 (.s 3)), rQ 41 (.ld .str (.s 40)), rQ 42 (.fa 0 (.s 4)), rQ 43 (.ld .str (.s 42)), rQ 44 (.bin .neq (.s 41) (.s 43)), mQ 45 44, gQ 46 45 false (.fa 1 (.s 3)), gQ 47 45 false (.ld .slc (.s 46)), gQ 48 45 false (.len (.s 47)), gQ 49 45 false (.fa 1 (.s 4)), gQ 50 45 false (.ld .slc (.s 49)), gQ 51 45 false (.len (.s 50)), gQ 52 45 false (.bin .neq (.s 48) (.s 51)), rQ 53 (.pick (.s 45) tQ (.s 52))])
 (.cond (.s 53)
 (.seq (.reg [rQ 54 (.ld (.agg [.slc, .slc]) (.s 5)), nQ (.st (.agg [.slc, .slc]) (.s 6) (.s 54)), rQ 7 (.mov fQ)])
 .ret)
 .skip))
 (.seq (.reg [rQ 9 (.mov tQ)])
 (.seq (.seq (.reg [rQ 10 (.mov (cQ 0))])
 (.block 0 (.loop [3, 4, 5, 6, 9, 10] (.seq (.seq (.reg [mQ 55 10, rQ 56 (.fa 1 (.s 3)), rQ 57 (.ld .slc (.s 56)), rQ 58 (.len (.s 57)), rQ 59 (.bin .lss (.s 55) (.s 58)), mQ 60 59, gQ 61 60 true (.mov (.s 9)), rQ 62 (.pick (.s 60) (.s 61) fQ)])
 (.cond (.s 62)
 .skip
 (.exit 0)))
 (.seq (.block 1 (.dreg [rQ 66 (.fa 1 (.s 3)), rQ 67 (.ld .slc (.s 66)), mQ 68 10, rQ 69 (.ia bQ (.s 67) (.s 68)), rQ 70 (.ld bQ (.s 69)), rQ 71 (.fa 1 (.s 4)), rQ 72 (.ld .slc (.s 71)), mQ 73 10, rQ 74 (.ia bQ (.s 72) (.s 73)), rQ 75 (.ld bQ (.s 74)), rQ 76 (.ld (.agg [.slc, .slc]) (.s 5)), rQ 77 (.callg (.two .str bQ) (.tup [(.agg [.slc, .slc]), .bool]) [true, true, false] 34 [(.s 70), (.s 75), (.s 76)]), mQ 65 77, rQ 78 (.ext 0 (.s 65)), rQ 79 (.ext 1 (.s 65)), nQ (.st (.agg [.slc, .slc]) (.s 5) (.s 78)), mQ 9 79] [0, 1, 0, 7, 15, 0, 32, 0, 224, 480, 0, 2047, 4095, 8191, 8191, 16383, 65535]))
 (.reg [mQ 63 10, rQ 64 (.bin .add (.s 63) (cQ 1)), mQ 10 64]))))))
 (.seq (.reg [rQ 80 (.ld (.agg [.slc, .slc]) (.s 5)), mQ 81 9, nQ (.st (.agg [.slc, .slc]) (.s 6) (.s 80)), mQ 7 81])
 .ret)))))),
 [.cell 6 (.agg [.slc, .slc]), .slot 7]⟩
theorem ok34 : compF Tryd.prog 34 [[3, 4, 5, 6, 9, 10]] (Cfg.mk [] [] [] [(77, [true, true, false])] [(77, (.two .str bQ))]) = some ir34 := by kernel_rfl
def ir35 : FInfo := ⟨40,
 (.seq (.reg [rQ 4 (.mov (cQ 0))])
 (.seq (.reg [rQ 5 (.mov (cQ 0))])
 (.seq (.seq (.reg [rQ 6 (.mov (cQ 0))])
 (.block 0 (.loop [0, 1, 5, 6] (.seq (.seq (.reg [mQ 7 6, mQ 8 0, rQ 9 (.len (.s 8)), rQ 10 (.bin .lss (.s 7) (.s 9)), mQ 11 10, gQ 12 11 true (.mov (.s 5)), gQ 13 11 true (.mov (.s 1)), gQ 14 11 true (.bin .leq (.s 12) (.s 13)), rQ 15 (.pick (.s 11) (.s 14) fQ)])
 (.cond (.s 15)
 .skip
 (.exit 0)))
 (.seq (.block 1 (.seq (.seq (.reg [mQ 18 0, mQ 19 6, rQ 20 (.ia bQ (.s 18) (.s 19)), rQ 21 (.fa 0 (.s 20)), rQ 22 (.ld .str (.s 21)), rQ 23 (.lens (.s 22)), rQ 24 (.bin .gtr (.s 23) (cQ 100))])
 (.cond (.s 24)
 (.seq (.reg [mQ 25 1, rQ 26 (.bin .add (.s 25) (cQ 1)), mQ 4 26])
 .ret)
 .skip))
 (.reg [mQ 27 5, rQ 28 (.bin .add (.s 27) (cQ 1)), mQ 29 0, mQ 30 6, rQ 31 (.ia bQ (.s 29) (.s 30)), rQ 32 (.fa 1 (.s 31)), rQ 33 (.ld .slc (.s 32)), mQ 34 1, mQ 35 5, rQ 36 (.bin .sub (.s 34) (.s 35)), rQ 37 (.call false 35 (.int .i64) [(.s 33), (.s 36)]), rQ 38 (.bin .add (.s 28) (.s 37)), mQ 5 38])))
 (.reg [mQ 16 6, rQ 17 (.bin .add (.s 16) (cQ 1)), mQ 6 17]))))))
 (.seq (.reg [mQ 39 5, mQ 4 39])
 .ret)))),
 [.slot 4]⟩
theorem ok35 : compF Tryd.prog 35 [[0, 1, 5, 6]] (Cfg.mk [] [] [] [] []) = some ir35 := by kernel_rfl
def ir36 : FInfo := ⟨12,
 (.seq (.reg [rQ 1 (.box bQ (.s 0)), rQ 2 (.mov fQ)])
 (.seq (.reg [rQ 3 (.fa 0 (.s 1)), rQ 4 (.ld .str (.s 3)), rQ 5 (.bin .eql (.s 4) (.c (.t (.str [])))), mQ 6 5, gQ 7 6 true (.fa 1 (.s 1)), gQ 8 6 true (.ld .slc (.s 7)), gQ 9 6 true (.len (.s 8)), gQ 10 6 true (.bin .eql (.s 9) (cQ 0)), rQ 11 (.pick (.s 6) (.s 10) fQ), mQ 2 11])
 .ret)),
 [.slot 2]⟩
theorem ok36 : compF Tryd.prog 36 [] (Cfg.mk [] [] [] [] []) = some ir36 := by kernel_rfl
def ir37 : FInfo := ⟨9,
 (.seq (.reg [rQ 4 (.mov fQ)])
 (.seq (.reg [mQ 5 0, mQ 6 1, rQ 7 (.call false 65 (.int .i64) [(.s 5), (.s 6)]), rQ 8 (.bin .geq (.s 7) (cQ 0)), mQ 4 8])
 .ret)),
 [.slot 4]⟩
theorem ok37 : compF Tryd.prog 37 [] (Cfg.mk [] [] [] [] []) = some ir37 := by kernel_rfl
def ir38 : FInfo := ⟨6,
 (.seq (.reg [rQ 1 (.box aQ (.s 0)), rQ 2 (.mov fQ)])
 (.seq (.reg [rQ 3 (.ld aQ (.s 1)), rQ 4 (.call false 15 .bool [(.s 3)]), rQ 5 (.un .not (.s 4)), mQ 2 5])
 .ret)),
 [.slot 2]⟩
theorem ok38 : compF Tryd.prog 38 [] (Cfg.mk [] [] [] [] []) = some ir38 := by kernel_rfl
def ir39 : FInfo := ⟨31,
 (.seq (.reg [rQ 1 (.box aQ (.s 0)), rQ 2 (.mov (cQ 0)), rQ 3 (.mov (cQ 0))])
 (.seq (.seq (.reg [rQ 8 (.fa 4 (.s 1)), rQ 9 (.ld .slc (.s 8)), rQ 10 (.len (.s 9)), rQ 11 (.mov (cQ 0))])
 (.block 0 (.loop [2, 3, 9, 10, 11] (.seq (.reg [rQ 12 (.bin .lss (.s 11) (.s 10))])
 (.seq (.cond (.s 12)
 .skip
 (.exit 0))
 (.seq (.block 1 (.seq (.reg [rQ 13 (.ia aQ (.s 9) (.s 11)), rQ 14 (.ld aQ (.s 13)), rQ 5 (.new aQ (.agg [(.t (.int .i64 0)), (.t (.int .i64 0)), (.t (.str [])), .nilS, .nilS])), nQ (.st aQ (.s 5) (.s 14))])
 (.seq (.reg [rQ 16 (.ld aQ (.s 5)), rQ 17 (.call false 39 (.tup [(.int .i64), (.int .i64)]) [(.s 16)]), mQ 15 17, rQ 18 (.ext 0 (.s 15)), rQ 19 (.ext 1 (.s 15)), mQ 6 18, mQ 7 19])
 (.reg [mQ 20 2, mQ 21 6, rQ 22 (.bin .add (.s 20) (.s 21)), mQ 23 3, mQ 24 7, rQ 25 (.mx (.s 23) (.s 24)), mQ 2 22, mQ 3 25]))))
 (.reg [rQ 26 (.bin .add (.s 11) (cQ 1)), mQ 11 26])))))))
 (.seq (.reg [mQ 27 2, rQ 28 (.bin .add (.s 27) (cQ 1)), mQ 29 3, rQ 30 (.bin .add (.s 29) (cQ 1)), mQ 2 28, mQ 3 30])
 .ret))),
 [.slot 2, .slot 3]⟩
theorem ok39 : compF Tryd.prog 39 [[2, 3, 9, 10, 11]] (Cfg.mk [] [] [] [] []) = some ir39 := by kernel_rfl
def ir40 : FInfo := ⟨54,
 (.seq (.reg [rQ 1 (.box aQ (.s 0)), rQ 2 (.mov fQ)])
 (.seq (.reg [rQ 3 (.mov (cQ 0))])
 (.seq (.seq (.reg [rQ 4 (.fa 0 (.s 1)), rQ 5 (.ld (.int .i64) (.s 4))])
 (.block 0 (.seq (.reg [rQ 7 (.bin .eql (.s 5) (cQ 1)), mQ 6 7])
 (.cond (.s 6)
 (.reg [rQ 3 (.mov (cQ 200))])
 (.seq (.reg [rQ 9 (.bin .eql (.s 5) (cQ 4)), mQ 8 9])
 (.cond (.s 8)
 (.reg [rQ 3 (.mov (cQ 1000))])
 .skip))))))
 (.seq (.seq (.dreg [rQ 10 (.fa 4 (.s 1)), rQ 11 (.ld .slc (.s 10)), rQ 12 (.len (.s 11)), rQ 13 (.fa 0 (.s 1)), rQ 14 (.ld (.int .i64) (.s 13)), rQ 15 (.call false 66 (.int .i64) [(.s 14)]), rQ 16 (.bin .neq (.s 12) (.s 15)), mQ 17 16, gQ 18 17 false (.fa 1 (.s 1)), gQ 19 17 false (.ld (.int .i64) (.s 18)), gQ 20 17 false (.bin .lss (.s 19) (cQ 0)), rQ 21 (.pick (.s 17) tQ (.s 20)), mQ 22 21, gQ 23 22 false (.fa 1 (.s 1)), gQ 24 22 false (.ld (.int .i64) (.s 23)), gQ 25 22 false (.mov (.s 3)), gQ 26 22 false (.bin .gtr (.s 24) (.s 25)), rQ 27 (.pick (.s 22) tQ (.s 26)), mQ 28 27, gQ 29 28 false (.fa 0 (.s 1)), gQ 30 28 false (.ld (.int .i64) (.s 29)), gQ 31 28 false (.bin .eql (.s 30) (cQ 2)), gQ 32 28 false (.mov (.s 31)), gQ 33 32 true (.fa 2 (.s 1)), gQ 34 32 true (.ld bQ (.s 33)), gQ 35 32 true (.call false 58 .bool [(.s 34)]), gQ 36 32 true (.un .not (.s 35)), gQ 37 28 false (.pick (.s 32) (.s 36) fQ), rQ 38 (.pick (.s 28) tQ (.s 37)), mQ 39 38, gQ 40 39 false (.fa 0 (.s 1)), gQ 41 39 false (.ld (.int .i64) (.s 40)), gQ 42 39 false (.bin .neq (.s 41) (cQ 2)), gQ 43 39 false (.mov (.s 42)), gQ 44 43 true (.fa 2 (.s 1)), gQ 45 43 true (.ld bQ (.s 44)), gQ 46 43 true (.call false 36 .bool [(.s 45)]), gQ 47 43 true (.un .not (.s 46)), gQ 48 39 false (.pick (.s 43) (.s 47) fQ), rQ 49 (.pick (.s 39) tQ (.s 48))] [0, 1, 3, 0, 8, 24, 63, 127, 255, 511, 1023, 2047, 4095, 8191, 16383, 8191, 65535, 131071, 262143, 524287, 1048575, 2097151, 4194303, 8388607, 16777215, 33554431, 67108863, 134217727, 268435455, 536870911, 1073741823, 2147483647, 4294967295, 8589934591, 17179869183, 34359738367, 68719476735, 137438953471, 274877906943, 549755813887])
 (.cond (.s 49)
 (.seq (.reg [rQ 2 (.mov fQ)])
 .ret)
 .skip))
 (.seq (.reg [rQ 50 (.fa 4 (.s 1)), rQ 51 (.ld .slc (.s 50)), rQ 52 (.call false 37 .bool [(.s 51), (.f 67)]), rQ 53 (.un .not (.s 52)), mQ 2 53])
 .ret))))),
 [.slot 2]⟩
theorem ok40 : compF Tryd.prog 40 [] (Cfg.mk [] [] [] [] []) = some ir40 := by kernel_rfl
def ir41 : FInfo := ⟨2,
 (.seq (.reg [rQ 0 (.new bQ (.agg [(.t (.str [])), .nilS]))])
 (.seq (.reg [rQ 1 (.build [(.t (.str [])), .nilS] [(0, .str, (.c (.t (.str [78, 97, 116]))))]), nQ (.st bQ (.s 0) (.s 1))])
 .ret)),
 [.cell 0 bQ]⟩
theorem ok41 : compF Tryd.prog 41 [] (Cfg.mk [] [] [] [] []) = some ir41 := by kernel_rfl
def ir42 : FInfo := ⟨8,
 (.seq (.reg [rQ 2 (.box aQ (.s 0)), rQ 3 (.mov fQ)])
 (.seq (.reg [rQ 4 (.ld aQ (.s 2)), rQ 5 (.ld (.int .i64) (.s 1)), rQ 6 (.call false 18 .bool [(.s 4), (.s 5)]), rQ 7 (.un .not (.s 6)), mQ 3 7])
 .ret)),
 [.slot 3]⟩
theorem ok42 : compF Tryd.prog 42 [] (Cfg.mk [] [] [] [] []) = some ir42 := by kernel_rfl
def ir43 : FInfo := ⟨9,
 (.seq (.reg [rQ 2 (.mov (.c .nilS))])
 (.seq (.reg [mQ 3 0, mQ 4 0, rQ 5 (.len (.s 4)), mQ 6 0, rQ 7 (.len (.s 6)), rQ 8 (.sub .any (.s 3) none (some (.s 5)) (some (.s 7))), mQ 2 8])
 .ret)),
 [.slot 2]⟩
theorem ok43 : compF Tryd.prog 43 [] (Cfg.mk [] [] [] [] []) = some ir43 := by kernel_rfl
def ir44 : FInfo := ⟨16,
 (.seq (.reg [rQ 2 (.mov (.c (.t .nilp)))])
 (.seq (.reg [mQ 3 0, rQ 4 (.nonnil (.s 3)), rQ 5 (.fa 0 (.s 4)), rQ 6 (.ld (.int .i64) (.s 5)), rQ 7 (.bin .add (.s 6) (cQ 1)), rQ 8 (.nonnil (.s 3)), rQ 9 (.fa 0 (.s 8)), nQ (.st (.int .i64) (.s 9) (.s 7))])
 (.seq (.reg [mQ 10 0, rQ 11 (.nonnil (.s 10)), rQ 12 (.fa 0 (.s 11)), rQ 13 (.ld (.int .i64) (.s 12)), rQ 14 (.build [(.t (.str [])), (.t (.int .i64 0)), .nilS] [(1, (.int .i64), (.s 13))]), rQ 15 (.wbox (.agg [.str, (.int .i64), .slc]) (.s 14)), mQ 2 15])
 .ret))),
 [.slot 2]⟩
theorem ok44 : compF Tryd.prog 44 [] (Cfg.mk [] [45, 47, 53, 85, 105, 114] [] [] []) = some ir44 := by kernel_rfl
def ir45 : FInfo := ⟨13,
 (.seq (.reg [rQ 6 (.mov (.c (.t .nilp)))])
 (.seq (.reg [mQ 7 0, mQ 8 1, mQ 9 2, rQ 10 (.bsl .any (.t .nilp) 2 [(0, (.s 8)), (1, (.s 9))]), rQ 11 (.build [(.t (.str [])), (.t (.int .i64 0)), .nilS] [(0, .str, (.s 7)), (2, .slc, (.s 10))]), rQ 12 (.wbox (.agg [.str, (.int .i64), .slc]) (.s 11)), mQ 6 12])
 .ret)),
 [.slot 6]⟩
theorem ok45 : compF Tryd.prog 45 [] (Cfg.mk [] [45, 47, 53, 85, 105, 114] [] [] []) = some ir45 := by kernel_rfl
def ir46 : FInfo := ⟨12,
 (.seq (.reg [rQ 6 (.mov fQ)])
 (.seq (.reg [mQ 7 0, mQ 8 1, mQ 9 2, rQ 10 (.wmk), rQ 11 (.callw 68 .bool [(.s 7), (.s 8), (.s 9), (.s 10)]), mQ 6 11])
 .ret)),
 [.slot 6]⟩
theorem ok46 : compF Tryd.prog 46 [] (Cfg.mk [] [45, 47, 53, 85, 105, 114] [11] [] []) = some ir46 := by kernel_rfl
def ir47 : FInfo := ⟨28,
 (.seq (.reg [rQ 4 (.mov (.c (.t .nilp)))])
 (.seq (.block 0 (.loop [0, 1] (.seq (.seq (.reg [mQ 7 1, rQ 8 (.nonnil (.s 7)), rQ 9 (.fa 0 (.s 8)), rQ 10 (.ld .str (.s 9)), rQ 11 (.bin .eql (.s 10) (.c (.t (.str []))))])
 (.cond (.s 11)
 .skip
 (.exit 0)))
 (.block 1 (.seq (.dreg [mQ 13 0, rQ 14 (.nonnil (.s 13)), rQ 15 (.fa 1 (.s 14)), rQ 16 (.ld .wm (.s 15)), mQ 17 1, rQ 18 (.nonnil (.s 17)), rQ 19 (.fa 1 (.s 18)), rQ 20 (.ld (.int .i64) (.s 19)), rQ 21 (.wget .int true .wp (.t .nilp) (.s 16) (.s 20)), mQ 12 21, rQ 22 (.ext 0 (.s 12)), rQ 23 (.ext 1 (.s 12)), mQ 5 22, mQ 6 23] [0, 1, 3, 7, 0, 16, 48, 112, 255, 511, 1023, 1023, 2047, 8191])
 (.seq (.seq (.reg [mQ 24 6, rQ 25 (.un .not (.s 24))])
 (.cond (.s 25)
 (.exit 0)
 .skip))
 (.reg [mQ 26 5, mQ 1 26])))))))
 (.seq (.reg [mQ 27 1, mQ 4 27])
 .ret))),
 [.slot 4]⟩
theorem ok47 : compF Tryd.prog 47 [[0, 1]] (Cfg.mk [] [45, 47, 53, 85, 105, 114] [] [] []) = some ir47 := by kernel_rfl
def ir48 : FInfo := ⟨5,
 (.seq (.reg [rQ 2 (.mov (.c (.t (.str []))))])
 (.seq (.reg [mQ 3 0, rQ 4 (.call false 69 .str [(.s 3)]), mQ 2 4])
 .ret)),
 [.slot 2]⟩
theorem ok48 : compF Tryd.prog 48 [] (Cfg.mk [] [] [] [] []) = some ir48 := by kernel_rfl
def ir55 : FInfo := ⟨43,
 (.seq (.reg [rQ 2 (.box aQ (.s 0)), rQ 4 (.new aQ (.agg [(.t (.int .i64 0)), (.t (.int .i64 0)), (.t (.str [])), .nilS, .nilS])), rQ 5 (.mov (cQ 0)), rQ 6 (.mov (cQ 0))])
 (.seq (.reg [mQ 13 1, rQ 14 (.mx (.s 13) (cQ 0)), rQ 15 (.mn (.s 14) (cQ 20000)), mQ 1 15])
 (.seq (.reg [rQ 7 (.mov (cQ 0))])
 (.block 0 (.loop [1, 2, 4, 7] (.seq (.block 1 (.seq (.reg [rQ 19 (.ld aQ (.s 2)), rQ 20 (.call false 73 (.tup [aQ, .slc, .bool]) [(.s 19)]), mQ 18 20, rQ 21 (.ext 0 (.s 18)), rQ 22 (.ext 1 (.s 18)), rQ 23 (.ext 2 (.s 18)), rQ 8 (.new aQ (.agg [(.t (.int .i64 0)), (.t (.int .i64 0)), (.t (.str [])), .nilS, .nilS])), nQ (.st aQ (.s 8) (.s 21)), mQ 9 22, mQ 10 23])
 (.seq (.seq (.reg [mQ 24 10, rQ 25 (.un .not (.s 24))])
 (.cond (.s 25)
 (.seq (.reg [rQ 26 (.ld aQ (.s 2)), rQ 27 (.call false 74 aQ [(.s 26)]), mQ 28 7, nQ (.st aQ (.s 4) (.s 27)), mQ 5 28, rQ 6 (.mov (cQ 0))])
 .ret)
 .skip))
 (.seq (.seq (.reg [rQ 30 (.ld aQ (.s 8)), rQ 31 (.call false 39 (.tup [(.int .i64), (.int .i64)]) [(.s 30)]), mQ 29 31, rQ 32 (.ext 0 (.s 29)), rQ 33 (.ext 1 (.s 29)), mQ 11 32, mQ 12 33])
 (.seq (.reg [mQ 34 7, mQ 35 1, rQ 36 (.bin .eql (.s 34) (.s 35)), mQ 37 36, gQ 38 37 false (.mov (.s 11)), gQ 39 37 false (.bin .gtr (.s 38) (cQ 20000)), rQ 40 (.pick (.s 37) tQ (.s 39))])
 (.cond (.s 40)
 (.seq (.reg [rQ 41 (.build [(.t (.int .i64 0)), (.t (.int .i64 0)), (.t (.str [])), .nilS, .nilS] []), nQ (.st aQ (.s 4) (.s 41)), rQ 5 (.mov (cQ 0)), rQ 6 (.mov (cQ 5))])
 .ret)
 .skip)))
 (.reg [rQ 42 (.ld aQ (.s 8)), nQ (.st aQ (.s 2) (.s 42))])))))
 (.reg [mQ 16 7, rQ 17 (.bin .add (.s 16) (cQ 1)), mQ 7 17]))))))),
 [.cell 4 aQ, .slot 5, .slot 6]⟩
theorem ok55 : compF Tryd.prog 55 [[1, 2, 4, 7]] (Cfg.mk [] [] [] [] []) = some ir55 := by kernel_rfl
def ir56 : FInfo := ⟨9,
 (.seq (.reg [rQ 4 (.mov fQ)])
 (.seq (.reg [mQ 5 0, mQ 6 1, rQ 7 (.call false 75 (.int .i64) [(.s 5), (.s 6)]), rQ 8 (.bin .geq (.s 7) (cQ 0)), mQ 4 8])
 .ret)),
 [.slot 4]⟩
theorem ok56 : compF Tryd.prog 56 [] (Cfg.mk [] [] [] [] []) = some ir56 := by kernel_rfl
def ir57 : FInfo := ⟨6,
 (.seq (.reg [rQ 1 (.box bQ (.s 0)), rQ 2 (.mov fQ)])
 (.seq (.reg [rQ 3 (.ld bQ (.s 1)), rQ 4 (.call false 58 .bool [(.s 3)]), rQ 5 (.un .not (.s 4)), mQ 2 5])
 .ret)),
 [.slot 2]⟩
theorem ok57 : compF Tryd.prog 57 [] (Cfg.mk [] [] [] [] []) = some ir57 := by kernel_rfl
def ir58 : FInfo := ⟨20,
 (.seq (.reg [rQ 1 (.box bQ (.s 0)), rQ 2 (.mov fQ)])
 (.seq (.reg [rQ 6 (.ld bQ (.s 1)), rQ 7 (.call false 76 (.tup [(.int .i64), (.int .i64)]) [(.s 6)]), mQ 5 7, rQ 8 (.ext 0 (.s 5)), rQ 9 (.ext 1 (.s 5)), mQ 3 8, mQ 4 9])
 (.seq (.reg [mQ 10 3, rQ 11 (.bin .leq (.s 10) (cQ 60)), mQ 12 11, gQ 13 12 true (.mov (.s 4)), gQ 14 12 true (.bin .leq (.s 13) (cQ 12)), rQ 15 (.pick (.s 12) (.s 14) fQ), mQ 16 15, gQ 17 16 true (.ld bQ (.s 1)), gQ 18 16 true (.call false 77 .bool [(.s 17)]), rQ 19 (.pick (.s 16) (.s 18) fQ), mQ 2 19])
 .ret))),
 [.slot 2]⟩
theorem ok58 : compF Tryd.prog 58 [] (Cfg.mk [] [] [] [] []) = some ir58 := by kernel_rfl
def ir59 : FInfo := ⟨9,
 (.seq (.reg [rQ 2 (.mov (.c .nilS))])
 (.seq (.reg [mQ 3 0, mQ 4 0, rQ 5 (.len (.s 4)), mQ 6 0, rQ 7 (.len (.s 6)), rQ 8 (.sub bQ (.s 3) none (some (.s 5)) (some (.s 7))), mQ 2 8])
 .ret)),
 [.slot 2]⟩
theorem ok59 : compF Tryd.prog 59 [] (Cfg.mk [] [] [] [] []) = some ir59 := by kernel_rfl
def ir60 : FInfo := ⟨115,
 (.seq (.reg [rQ 4 (.box aQ (.s 1)), rQ 6 (.new bQ (.agg [(.t (.str [])), .nilS])), rQ 7 (.mov fQ)])
 (.seq (.seq (.reg [rQ 8 (.fa 0 (.s 4)), rQ 9 (.ld (.int .i64) (.s 8))])
 (.block 0 (.seq (.reg [rQ 11 (.bin .eql (.s 9) (cQ 1)), mQ 10 11])
 (.cond (.s 10)
 (.seq (.reg [rQ 12 (.fa 1 (.s 4)), rQ 13 (.ld (.int .i64) (.s 12)), mQ 14 0, rQ 15 (.len (.s 14)), rQ 16 (.bin .lss (.s 13) (.s 15))])
 (.cond (.s 16)
 (.seq (.reg [mQ 17 0, mQ 18 0, rQ 19 (.len (.s 18)), rQ 20 (.bin .sub (.s 19) (cQ 1)), rQ 21 (.fa 1 (.s 4)), rQ 22 (.ld (.int .i64) (.s 21)), rQ 23 (.bin .sub (.s 20) (.s 22)), rQ 24 (.ia bQ (.s 17) (.s 23)), rQ 25 (.ld bQ (.s 24)), nQ (.st bQ (.s 6) (.s 25)), rQ 7 (.mov tQ)])
 .ret)
 .skip))
 (.seq (.reg [rQ 27 (.bin .eql (.s 9) (cQ 2)), mQ 26 27])
 (.cond (.s 26)
 (.seq (.dreg [rQ 28 (.fa 2 (.s 4)), rQ 29 (.ld bQ (.s 28)), mQ 30 2, rQ 31 (.ia bQ (.s 30) (cQ 0)), rQ 32 (.ld bQ (.s 31)), rQ 33 (.call false 78 bQ [(.s 29), (.s 32)]), nQ (.st bQ (.s 6) (.s 33)), rQ 7 (.mov tQ)] [0, 1, 0, 4, 12, 31, 63, 127])
 .ret)
 (.seq (.reg [rQ 35 (.bin .eql (.s 9) (cQ 3)), mQ 34 35])
 (.cond (.s 34)
 (.seq (.dreg [mQ 36 2, rQ 37 (.ia bQ (.s 36) (cQ 0)), rQ 38 (.fa 0 (.s 37)), rQ 39 (.ld .str (.s 38)), rQ 40 (.bin .eql (.s 39) (.c (.t (.str [84, 111])))), mQ 41 40, gQ 42 41 true (.mov (.s 2)), gQ 43 41 true (.ia bQ (.s 42) (cQ 0)), gQ 44 41 true (.fa 1 (.s 43)), gQ 45 41 true (.ld .slc (.s 44)), gQ 46 41 true (.ia bQ (.s 45) (cQ 0)), gQ 47 41 true (.ld bQ (.s 46)), gQ 48 41 true (.mov (.s 2)), gQ 49 41 true (.ia bQ (.s 48) (cQ 1)), gQ 50 41 true (.ld bQ (.s 49)), gQ 51 41 true (.call false 79 .bool [(.s 47), (.s 50)]), rQ 52 (.pick (.s 41) (.s 51) fQ)] [0, 1, 3, 7, 15, 31, 63, 127, 255, 511, 1023, 2047, 63, 4159, 12351, 32767, 65535])
 (.cond (.s 52)
 (.seq (.reg [mQ 53 2, rQ 54 (.ia bQ (.s 53) (cQ 0)), rQ 55 (.fa 1 (.s 54)), rQ 56 (.ld .slc (.s 55)), rQ 57 (.ia bQ (.s 56) (cQ 1)), rQ 58 (.ld bQ (.s 57)), nQ (.st bQ (.s 6) (.s 58)), rQ 7 (.mov tQ)])
 .ret)
 .skip))
 (.seq (.reg [rQ 60 (.bin .eql (.s 9) (cQ 4)), mQ 59 60])
 (.cond (.s 59)
 (.seq (.reg [rQ 61 (.call false 41 bQ []), nQ (.st bQ (.s 6) (.s 61)), rQ 7 (.mov tQ)])
 .ret)
 (.seq (.reg [rQ 63 (.bin .eql (.s 9) (cQ 5)), mQ 62 63])
 (.cond (.s 62)
 (.seq (.dreg [rQ 64 (.call false 41 bQ []), mQ 65 2, rQ 66 (.ia bQ (.s 65) (cQ 0)), rQ 67 (.fa 0 (.s 66)), rQ 68 (.ld .str (.s 67)), rQ 69 (.bin .eql (.s 68) (.c (.t (.str [78, 97, 116])))), nQ (.st bQ (.s 6) (.s 64)), mQ 7 69] [0, 0, 2, 6, 14, 30, 1, 127])
 .ret)
 (.seq (.reg [rQ 71 (.bin .eql (.s 9) (cQ 6)), mQ 70 71])
 (.cond (.s 70)
 (.seq (.dreg [mQ 72 2, rQ 73 (.ia bQ (.s 72) (cQ 2)), rQ 74 (.ld bQ (.s 73)), mQ 75 2, rQ 76 (.ia bQ (.s 75) (cQ 0)), rQ 77 (.fa 0 (.s 76)), rQ 78 (.ld .str (.s 77)), rQ 79 (.bin .eql (.s 78) (.c (.t (.str [78, 97, 116])))), mQ 80 79, gQ 81 80 true (.mov (.s 2)), gQ 82 80 true (.ia bQ (.s 81) (cQ 1)), gQ 83 80 true (.ld bQ (.s 82)), gQ 84 80 true (.mov (.s 2)), gQ 85 80 true (.ia bQ (.s 84) (cQ 2)), gQ 86 80 true (.ld bQ (.s 85)), gQ 87 80 true (.mov (.s 2)), gQ 88 80 true (.ia bQ (.s 87) (cQ 2)), gQ 89 80 true (.ld bQ (.s 88)), gQ 90 80 true (.call false 78 bQ [(.s 86), (.s 89)]), gQ 91 80 true (.call false 79 .bool [(.s 83), (.s 90)]), rQ 92 (.pick (.s 80) (.s 91) fQ), nQ (.st bQ (.s 6) (.s 74)), mQ 7 92] [0, 1, 3, 0, 8, 24, 56, 120, 248, 504, 1016, 2040, 504, 4600, 12792, 504, 33272, 98808, 258552, 524280, 1048568, 1048575, 4194303])
 .ret)
 (.seq (.reg [rQ 94 (.bin .eql (.s 9) (cQ 7)), mQ 93 94])
 (.cond (.s 93)
 (.seq (.reg [mQ 95 2, rQ 96 (.build [(.t (.str [])), .nilS] [(0, .str, (.c (.t (.str [80, 97, 105, 114])))), (1, .slc, (.s 95))]), nQ (.st bQ (.s 6) (.s 96)), rQ 7 (.mov tQ)])
 .ret)
 (.seq (.seq (.reg [rQ 98 (.bin .eql (.s 9) (cQ 8)), mQ 97 98])
 (.cond (.s 97)
 .skip
 (.reg [rQ 99 (.bin .eql (.s 9) (cQ 9)), mQ 97 99])))
 (.cond (.s 97)
 (.seq (.reg [mQ 100 2, rQ 101 (.ia bQ (.s 100) (cQ 0)), rQ 102 (.fa 0 (.s 101)), rQ 103 (.ld .str (.s 102)), rQ 104 (.bin .eql (.s 103) (.c (.t (.str [80, 97, 105, 114]))))])
 (.cond (.s 104)
 (.seq (.dreg [mQ 105 2, rQ 106 (.ia bQ (.s 105) (cQ 0)), rQ 107 (.fa 1 (.s 106)), rQ 108 (.ld .slc (.s 107)), rQ 109 (.fa 0 (.s 4)), rQ 110 (.ld (.int .i64) (.s 109)), rQ 111 (.bin .sub (.s 110) (cQ 8)), rQ 112 (.ia bQ (.s 108) (.s 111)), rQ 113 (.ld bQ (.s 112)), nQ (.st bQ (.s 6) (.s 113)), rQ 7 (.mov tQ)] [0, 1, 3, 7, 0, 16, 48, 127, 255, 511, 1023])
 .ret)
 .skip))
 .skip))))))))))))))))))
 (.seq (.reg [rQ 114 (.build [(.t (.str [])), .nilS] []), nQ (.st bQ (.s 6) (.s 114)), rQ 7 (.mov fQ)])
 .ret))),
 [.cell 6 bQ, .slot 7]⟩
theorem ok60 : compF Tryd.prog 60 [] (Cfg.mk [] [] [] [] []) = some ir60 := by kernel_rfl
def ir62 : FInfo := ⟨19,
 (.seq (.reg [rQ 1 (.box bQ (.s 0)), rQ 2 (.mov fQ)])
 (.seq (.reg [rQ 3 (.fa 1 (.s 1)), rQ 4 (.ld .slc (.s 3)), rQ 5 (.len (.s 4)), rQ 6 (.bin .eql (.s 5) (cQ 0)), mQ 7 6, gQ 8 7 true (.fa 0 (.s 1)), gQ 9 7 true (.ld .str (.s 8)), gQ 10 7 true (.lens (.s 9)), gQ 11 7 true (.bin .gtr (.s 10) (cQ 0)), rQ 12 (.pick (.s 7) (.s 11) fQ), mQ 13 12, gQ 14 13 true (.fa 0 (.s 1)), gQ 15 13 true (.ld .str (.s 14)), gQ 16 13 true (.ixs (.s 15) (cQ 0)), gQ 17 13 true (.bin .eql (.s 16) (.c (.t (.int .u8 63)))), rQ 18 (.pick (.s 13) (.s 17) fQ), mQ 2 18])
 .ret)),
 [.slot 2]⟩
theorem ok62 : compF Tryd.prog 62 [] (Cfg.mk [] [] [] [] []) = some ir62 := by kernel_rfl
def ir63 : FInfo := ⟨19,
 (.seq (.reg [rQ 4 (.mov (cQ 0))])
 (.seq (.seq (.reg [rQ 5 (.mov (cQ 0))])
 (.block 0 (.loop [0, 1, 5] (.seq (.seq (.reg [mQ 6 5, mQ 7 0, rQ 8 (.len (.s 7)), rQ 9 (.bin .lss (.s 6) (.s 8))])
 (.cond (.s 9)
 .skip
 (.exit 0)))
 (.seq (.block 1 (.seq (.reg [mQ 12 0, mQ 13 5, rQ 14 (.ia .str (.s 12) (.s 13)), rQ 15 (.ld .str (.s 14)), mQ 16 1, rQ 17 (.bin .eql (.s 15) (.s 16))])
 (.cond (.s 17)
 (.seq (.reg [mQ 18 5, mQ 4 18])
 .ret)
 .skip)))
 (.reg [mQ 10 5, rQ 11 (.bin .add (.s 10) (cQ 1)), mQ 5 11]))))))
 (.seq (.reg [rQ 4 (.mov (cQ (-1)))])
 .ret))),
 [.slot 4]⟩
theorem ok63 : compF Tryd.prog 63 [[0, 1, 5]] (Cfg.mk [] [] [] [] []) = some ir63 := by kernel_rfl
def ir64 : FInfo := ⟨9,
 (.seq (.reg [rQ 2 (.box bQ (.s 0)), rQ 3 (.box bQ (.s 1)), rQ 4 (.mov fQ)])
 (.seq (.reg [rQ 5 (.ld bQ (.s 2)), rQ 6 (.ld bQ (.s 3)), rQ 7 (.call false 80 (.int .i64) [(.s 5), (.s 6)]), rQ 8 (.bin .eql (.s 7) (cQ 0)), mQ 4 8])
 .ret)),
 [.slot 4]⟩
theorem ok64 : compF Tryd.prog 64 [] (Cfg.mk [] [] [] [] []) = some ir64 := by kernel_rfl
def ir65 : FInfo := ⟨19,
 (.seq (.reg [rQ 4 (.mov (cQ 0))])
 (.seq (.seq (.reg [mQ 6 0, rQ 7 (.len (.s 6)), rQ 8 (.mov (cQ 0))])
 (.block 0 (.loop [0, 1, 7, 8] (.seq (.reg [rQ 9 (.bin .lss (.s 8) (.s 7))])
 (.seq (.cond (.s 9)
 .skip
 (.exit 0))
 (.seq (.block 1 (.seq (.reg [mQ 10 8, mQ 5 10])
 (.seq (.reg [mQ 11 1, mQ 12 0, mQ 13 5, rQ 14 (.ia aQ (.s 12) (.s 13)), rQ 15 (.ld aQ (.s 14)), rQ 16 (.callv (.s 11) .bool [(.s 15)])])
 (.cond (.s 16)
 (.seq (.reg [mQ 17 5, mQ 4 17])
 .ret)
 .skip))))
 (.reg [rQ 18 (.bin .add (.s 8) (cQ 1)), mQ 8 18])))))))
 (.seq (.reg [rQ 4 (.mov (cQ (-1)))])
 .ret))),
 [.slot 4]⟩
theorem ok65 : compF Tryd.prog 65 [[0, 1, 7, 8]] (Cfg.mk [] [] [] [] []) = some ir65 := by kernel_rfl
def ir66 : FInfo := ⟨17,
 (.seq (.reg [rQ 2 (.mov (cQ 0))])
 (.seq (.seq (.reg [mQ 3 0])
 (.block 0 (.seq (.seq (.reg [rQ 5 (.bin .eql (.s 3) (cQ 1)), mQ 4 5])
 (.cond (.s 4)
 .skip
 (.reg [rQ 6 (.bin .eql (.s 3) (cQ 4)), mQ 4 6])))
 (.cond (.s 4)
 (.seq (.reg [rQ 2 (.mov (cQ 0))])
 .ret)
 (.seq (.seq (.reg [rQ 8 (.bin .eql (.s 3) (cQ 2)), mQ 7 8])
 (.cond (.s 7)
 .skip
 (.seq (.reg [rQ 9 (.bin .eql (.s 3) (cQ 5)), mQ 7 9])
 (.cond (.s 7)
 .skip
 (.seq (.reg [rQ 10 (.bin .eql (.s 3) (cQ 8)), mQ 7 10])
 (.cond (.s 7)
 .skip
 (.reg [rQ 11 (.bin .eql (.s 3) (cQ 9)), mQ 7 11])))))))
 (.cond (.s 7)
 (.seq (.reg [rQ 2 (.mov (cQ 1))])
 .ret)
 (.seq (.seq (.reg [rQ 13 (.bin .eql (.s 3) (cQ 3)), mQ 12 13])
 (.cond (.s 12)
 .skip
 (.reg [rQ 14 (.bin .eql (.s 3) (cQ 7)), mQ 12 14])))
 (.cond (.s 12)
 (.seq (.reg [rQ 2 (.mov (cQ 2))])
 .ret)
 (.seq (.reg [rQ 16 (.bin .eql (.s 3) (cQ 6)), mQ 15 16])
 (.cond (.s 15)
 (.seq (.reg [rQ 2 (.mov (cQ 3))])
 .ret)
 .skip))))))))))
 (.seq (.reg [rQ 2 (.mov (cQ (-1)))])
 .ret))),
 [.slot 2]⟩
theorem ok66 : compF Tryd.prog 66 [] (Cfg.mk [] [] [] [] []) = some ir66 := by kernel_rfl
def ir67 : FInfo := ⟨6,
 (.seq (.reg [rQ 1 (.box aQ (.s 0)), rQ 2 (.mov fQ)])
 (.seq (.reg [rQ 3 (.ld aQ (.s 1)), rQ 4 (.call false 40 .bool [(.s 3)]), rQ 5 (.un .not (.s 4)), mQ 2 5])
 .ret)),
 [.slot 2]⟩
theorem ok67 : compF Tryd.prog 67 [] (Cfg.mk [] [] [] [] []) = some ir67 := by kernel_rfl
def ir68 : FInfo := ⟨118,
 (.seq (.reg [rQ 8 (.mov fQ)])
 (.seq (.reg [mQ 10 0, mQ 11 1, rQ 12 (.callw 47 .wp [(.s 10), (.s 11)]), mQ 13 0, mQ 14 2, rQ 15 (.callw 47 .wp [(.s 13), (.s 14)]), mQ 1 12, mQ 2 15])
 (.seq (.seq (.reg [mQ 16 1, mQ 17 2, rQ 18 (.eqs false .wptr (.s 16) (.s 17)), mQ 19 18, gQ 20 19 false (.mov (.s 3)), gQ 21 19 false (.mov (.s 1)), gQ 22 19 false (.mov (.s 2)), gQ 23 19 false (.build [(.t .nilp), (.t .nilp)] [(0, .any, (.s 21)), (1, .any, (.s 22))]), gQ 24 19 false (.wget (.arr 2) false .bool (.t (.bool false)) (.s 20) (.s 23)), rQ 25 (.pick (.s 19) tQ (.s 24))])
 (.cond (.s 25)
 (.seq (.reg [rQ 8 (.mov tQ)])
 .ret)
 .skip))
 (.seq (.seq (.reg [mQ 26 1, rQ 27 (.nonnil (.s 26)), rQ 28 (.fa 0 (.s 27)), rQ 29 (.ld .str (.s 28)), rQ 30 (.bin .neq (.s 29) (.c (.t (.str [])))), mQ 31 30, gQ 32 31 true (.mov (.s 2)), gQ 33 31 true (.nonnil (.s 32)), gQ 34 31 true (.fa 0 (.s 33)), gQ 35 31 true (.ld .str (.s 34)), gQ 36 31 true (.bin .eql (.s 35) (.c (.t (.str [])))), rQ 37 (.pick (.s 31) (.s 36) fQ)])
 (.cond (.s 37)
 (.reg [mQ 38 2, mQ 39 1, mQ 1 38, mQ 2 39])
 .skip))
 (.seq (.seq (.reg [mQ 40 1, rQ 41 (.nonnil (.s 40)), rQ 42 (.fa 0 (.s 41)), rQ 43 (.ld .str (.s 42)), rQ 44 (.bin .eql (.s 43) (.c (.t (.str []))))])
 (.cond (.s 44)
 (.seq (.seq (.dreg [mQ 45 2, rQ 46 (.nonnil (.s 45)), rQ 47 (.fa 0 (.s 46)), rQ 48 (.ld .str (.s 47)), rQ 49 (.bin .eql (.s 48) (.c (.t (.str [])))), mQ 50 49, gQ 51 50 true (.mov (.s 1)), gQ 52 50 true (.nonnil (.s 51)), gQ 53 50 true (.fa 1 (.s 52)), gQ 54 50 true (.ld (.int .i64) (.s 53)), gQ 55 50 true (.mov (.s 2)), gQ 56 50 true (.nonnil (.s 55)), gQ 57 50 true (.fa 1 (.s 56)), gQ 58 50 true (.ld (.int .i64) (.s 57)), gQ 59 50 true (.bin .eql (.s 54) (.s 58)), rQ 60 (.pick (.s 50) (.s 59) fQ)] [0, 1, 3, 7, 15, 31, 63, 127, 255, 511, 63, 1087, 3135, 7231, 16383, 32767])
 (.cond (.s 60)
 (.seq (.reg [rQ 8 (.mov tQ)])
 .ret)
 .skip))
 (.seq (.seq (.reg [mQ 61 0, mQ 62 1, rQ 63 (.nonnil (.s 62)), rQ 64 (.fa 1 (.s 63)), rQ 65 (.ld (.int .i64) (.s 64)), mQ 66 2, rQ 67 (.wmk), rQ 68 (.callw 81 .bool [(.s 61), (.s 65), (.s 66), (.s 67)])])
 (.cond (.s 68)
 (.seq (.reg [rQ 8 (.mov fQ)])
 .ret)
 .skip))
 (.seq (.dreg [mQ 69 0, rQ 70 (.nonnil (.s 69)), rQ 71 (.fa 1 (.s 70)), rQ 72 (.ld .wm (.s 71)), mQ 73 1, rQ 74 (.nonnil (.s 73)), rQ 75 (.fa 1 (.s 74)), rQ 76 (.ld (.int .i64) (.s 75)), mQ 77 2, nQ (.wput .int (.s 72) (.s 76) (.s 77))] [0, 1, 3, 7, 0, 16, 48, 112, 0, 511])
 (.seq (.reg [rQ 8 (.mov tQ)])
 .ret))))
 .skip))
 (.seq (.seq (.dreg [mQ 78 1, rQ 79 (.nonnil (.s 78)), rQ 80 (.fa 0 (.s 79)), rQ 81 (.ld .str (.s 80)), mQ 82 2, rQ 83 (.nonnil (.s 82)), rQ 84 (.fa 0 (.s 83)), rQ 85 (.ld .str (.s 84)), rQ 86 (.bin .neq (.s 81) (.s 85))] [0, 1, 3, 7, 0, 16, 48, 112, 255])
 (.cond (.s 86)
 (.seq (.reg [rQ 8 (.mov fQ)])
 .ret)
 .skip))
 (.seq (.seq (.reg [mQ 87 1, rQ 88 (.nonnil (.s 87)), rQ 89 (.fa 2 (.s 88)), rQ 90 (.ld .slc (.s 89)), rQ 91 (.len (.s 90)), rQ 92 (.mov (cQ 0))])
 (.block 0 (.loop [0, 1, 2, 3, 91, 92] (.seq (.reg [rQ 93 (.bin .lss (.s 92) (.s 91))])
 (.seq (.cond (.s 93)
 .skip
 (.exit 0))
 (.seq (.block 1 (.seq (.reg [mQ 94 92, mQ 9 94])
 (.seq (.dreg [mQ 95 0, mQ 96 1, rQ 97 (.nonnil (.s 96)), rQ 98 (.fa 2 (.s 97)), rQ 99 (.ld .slc (.s 98)), mQ 100 9, rQ 101 (.ia .wp (.s 99) (.s 100)), rQ 102 (.ld .wp (.s 101)), mQ 103 2, rQ 104 (.nonnil (.s 103)), rQ 105 (.fa 2 (.s 104)), rQ 106 (.ld .slc (.s 105)), mQ 107 9, rQ 108 (.ia .wp (.s 106) (.s 107)), rQ 109 (.ld .wp (.s 108)), mQ 110 3, rQ 111 (.callw 68 .bool [(.s 95), (.s 102), (.s 109), (.s 110)]), rQ 112 (.un .not (.s 111))] [0, 0, 2, 6, 14, 0, 62, 126, 0, 256, 768, 1792, 0, 7936, 16128, 0, 65535, 131071])
 (.cond (.s 112)
 (.seq (.reg [rQ 8 (.mov fQ)])
 .ret)
 .skip))))
 (.reg [rQ 113 (.bin .add (.s 92) (cQ 1)), mQ 92 113])))))))
 (.seq (.reg [mQ 114 3, mQ 115 1, mQ 116 2, rQ 117 (.build [(.t .nilp), (.t .nilp)] [(0, .any, (.s 115)), (1, .any, (.s 116))]), nQ (.wput (.arr 2) (.s 114) (.s 117) tQ)])
 (.seq (.reg [rQ 8 (.mov tQ)])
 .ret))))))))),
 [.slot 8]⟩
theorem ok68 : compF Tryd.prog 68 [[0, 1, 2, 3, 91, 92]] (Cfg.mk [] [45, 47, 53, 85, 105, 114] [12, 15, 68, 111] [] []) = some ir68 := by kernel_rfl
end Go.Proofs.Cw.Si
end

/-
 THE RECKONED CODE, part 2: printed by program.
-/
section
set_option maxRecDepth 100000
namespace Go.Proofs.Cw.Si
open Go.Proofs
def ir69 : FInfo := ⟨5,
 (.seq (.reg [rQ 2 (.mov (.c (.t (.str []))))])
 (.seq (.reg [mQ 3 0, rQ 4 (.call false 82 .str [(.s 3), (cQ 10)]), mQ 2 4])
 .ret)),
 [.slot 2]⟩
theorem ok69 : compF Tryd.prog 69 [] (Cfg.mk [] [] [] [] []) = some ir69 := by kernel_rfl
def ir73 : FInfo := ⟨50,
 (.seq (.reg [rQ 1 (.box aQ (.s 0)), rQ 2 (.new aQ (.agg [(.t (.int .i64 0)), (.t (.int .i64 0)), (.t (.str [])), .nilS, .nilS])), rQ 3 (.mov (.c .nilS)), rQ 4 (.mov fQ)])
 (.seq (.seq (.reg [rQ 13 (.ld aQ (.s 1)), rQ 14 (.call false 85 (.tup [aQ, .bool]) [(.s 13)]), mQ 12 14, rQ 15 (.ext 0 (.s 12)), rQ 16 (.ext 1 (.s 12)), rQ 5 (.new aQ (.agg [(.t (.int .i64 0)), (.t (.int .i64 0)), (.t (.str [])), .nilS, .nilS])), nQ (.st aQ (.s 5) (.s 15)), mQ 6 16])
 (.seq (.reg [mQ 17 6])
 (.cond (.s 17)
 (.seq (.reg [rQ 18 (.ld aQ (.s 5)), nQ (.st aQ (.s 2) (.s 18)), rQ 3 (.mov (.c .nilS)), rQ 4 (.mov tQ)])
 .ret)
 .skip)))
 (.seq (.seq (.reg [rQ 19 (.fa 4 (.s 1)), rQ 20 (.ld .slc (.s 19)), rQ 21 (.len (.s 20)), rQ 22 (.mov (cQ 0))])
 (.block 0 (.loop [1, 2, 20, 21, 22] (.seq (.reg [rQ 23 (.bin .lss (.s 22) (.s 21))])
 (.seq (.cond (.s 23)
 .skip
 (.exit 0))
 (.seq (.block 1 (.seq (.reg [mQ 24 22, rQ 25 (.ia aQ (.s 20) (.s 22)), rQ 26 (.ld aQ (.s 25)), rQ 8 (.new aQ (.agg [(.t (.int .i64 0)), (.t (.int .i64 0)), (.t (.str [])), .nilS, .nilS])), mQ 7 24, nQ (.st aQ (.s 8) (.s 26))])
 (.seq (.reg [rQ 28 (.ld aQ (.s 8)), rQ 29 (.call false 73 (.tup [aQ, .slc, .bool]) [(.s 28)]), mQ 27 29, rQ 30 (.ext 0 (.s 27)), rQ 31 (.ext 1 (.s 27)), rQ 32 (.ext 2 (.s 27)), rQ 9 (.new aQ (.agg [(.t (.int .i64 0)), (.t (.int .i64 0)), (.t (.str [])), .nilS, .nilS])), nQ (.st aQ (.s 9) (.s 30)), mQ 10 31, mQ 11 32])
 (.seq (.reg [mQ 33 11])
 (.cond (.s 33)
 (.seq (.reg [rQ 34 (.fa 4 (.s 1)), rQ 35 (.ld .slc (.s 34)), rQ 36 (.clone aQ 80 (.s 35)), rQ 37 (.fa 4 (.s 1)), nQ (.st .slc (.s 37) (.s 36))])
 (.seq (.reg [rQ 38 (.fa 4 (.s 1)), rQ 39 (.ld .slc (.s 38)), mQ 40 7, rQ 41 (.ld aQ (.s 9)), rQ 42 (.ia aQ (.s 39) (.s 40)), nQ (.st aQ (.s 42) (.s 41))])
 (.seq (.dreg [rQ 43 (.ld aQ (.s 1)), mQ 44 7, rQ 45 (.bsl (.int .i64) (.t (.int .i64 0)) 1 [(0, (.s 44))]), mQ 46 10, rQ 47 (.app (.int .i64) 8 (.s 45) (.s 46)), nQ (.st aQ (.s 2) (.s 43)), mQ 3 47, rQ 4 (.mov tQ)] [0, 0, 2, 0, 14, 31, 63, 127])
 .ret)))
 .skip)))))
 (.reg [rQ 48 (.bin .add (.s 22) (cQ 1)), mQ 22 48])))))))
 (.seq (.reg [rQ 49 (.build [(.t (.int .i64 0)), (.t (.int .i64 0)), (.t (.str [])), .nilS, .nilS] []), nQ (.st aQ (.s 2) (.s 49)), rQ 3 (.mov (.c .nilS)), rQ 4 (.mov fQ)])
 .ret)))),
 [.cell 2 aQ, .slot 3, .slot 4]⟩
theorem ok73 : compF Tryd.prog 73 [[1, 2, 20, 21, 22]] (Cfg.mk [] [] [] [] []) = some ir73 := by kernel_rfl
def ir74 : FInfo := ⟨30,
 (.seq (.reg [rQ 1 (.box aQ (.s 0)), rQ 2 (.new aQ (.agg [(.t (.int .i64 0)), (.t (.int .i64 0)), (.t (.str [])), .nilS, .nilS]))])
 (.seq (.reg [rQ 4 (.fa 2 (.s 1)), rQ 5 (.ld bQ (.s 4)), rQ 6 (.call false 32 bQ [(.s 5)]), rQ 7 (.fa 2 (.s 1)), nQ (.st bQ (.s 7) (.s 6))])
 (.seq (.reg [rQ 8 (.fa 4 (.s 1)), rQ 9 (.ld .slc (.s 8)), rQ 10 (.clone aQ 80 (.s 9)), rQ 11 (.fa 4 (.s 1)), nQ (.st .slc (.s 11) (.s 10))])
 (.seq (.seq (.reg [rQ 12 (.fa 4 (.s 1)), rQ 13 (.ld .slc (.s 12)), rQ 14 (.len (.s 13)), rQ 15 (.mov (cQ 0))])
 (.block 0 (.loop [1, 2, 14, 15] (.seq (.reg [rQ 16 (.bin .lss (.s 15) (.s 14))])
 (.seq (.cond (.s 16)
 .skip
 (.exit 0))
 (.seq (.block 1 (.seq (.reg [mQ 17 15, mQ 3 17])
 (.dreg [rQ 18 (.fa 4 (.s 1)), rQ 19 (.ld .slc (.s 18)), mQ 20 3, rQ 21 (.fa 4 (.s 1)), rQ 22 (.ld .slc (.s 21)), mQ 23 3, rQ 24 (.ia aQ (.s 22) (.s 23)), rQ 25 (.ld aQ (.s 24)), rQ 26 (.call false 74 aQ [(.s 25)]), rQ 27 (.ia aQ (.s 19) (.s 20)), nQ (.st aQ (.s 27) (.s 26))] [0, 1, 0, 0, 8, 0, 56, 120, 248, 511, 1023])))
 (.reg [rQ 28 (.bin .add (.s 15) (cQ 1)), mQ 15 28])))))))
 (.seq (.reg [rQ 29 (.ld aQ (.s 1)), nQ (.st aQ (.s 2) (.s 29))])
 .ret))))),
 [.cell 2 aQ]⟩
theorem ok74 : compF Tryd.prog 74 [[1, 2, 14, 15]] (Cfg.mk [] [] [] [] []) = some ir74 := by kernel_rfl
def ir75 : FInfo := ⟨19,
 (.seq (.reg [rQ 4 (.mov (cQ 0))])
 (.seq (.seq (.reg [mQ 6 0, rQ 7 (.len (.s 6)), rQ 8 (.mov (cQ 0))])
 (.block 0 (.loop [0, 1, 7, 8] (.seq (.reg [rQ 9 (.bin .lss (.s 8) (.s 7))])
 (.seq (.cond (.s 9)
 .skip
 (.exit 0))
 (.seq (.block 1 (.seq (.reg [mQ 10 8, mQ 5 10])
 (.seq (.reg [mQ 11 1, mQ 12 0, mQ 13 5, rQ 14 (.ia bQ (.s 12) (.s 13)), rQ 15 (.ld bQ (.s 14)), rQ 16 (.callv (.s 11) .bool [(.s 15)])])
 (.cond (.s 16)
 (.seq (.reg [mQ 17 5, mQ 4 17])
 .ret)
 .skip))))
 (.reg [rQ 18 (.bin .add (.s 8) (cQ 1)), mQ 8 18])))))))
 (.seq (.reg [rQ 4 (.mov (cQ (-1)))])
 .ret))),
 [.slot 4]⟩
theorem ok75 : compF Tryd.prog 75 [[0, 1, 7, 8]] (Cfg.mk [] [] [] [] []) = some ir75 := by kernel_rfl
def ir76 : FInfo := ⟨31,
 (.seq (.reg [rQ 1 (.box bQ (.s 0)), rQ 2 (.mov (cQ 0)), rQ 3 (.mov (cQ 0))])
 (.seq (.seq (.reg [rQ 8 (.fa 1 (.s 1)), rQ 9 (.ld .slc (.s 8)), rQ 10 (.len (.s 9)), rQ 11 (.mov (cQ 0))])
 (.block 0 (.loop [2, 3, 9, 10, 11] (.seq (.reg [rQ 12 (.bin .lss (.s 11) (.s 10))])
 (.seq (.cond (.s 12)
 .skip
 (.exit 0))
 (.seq (.block 1 (.seq (.reg [rQ 13 (.ia bQ (.s 9) (.s 11)), rQ 14 (.ld bQ (.s 13)), rQ 5 (.new bQ (.agg [(.t (.str [])), .nilS])), nQ (.st bQ (.s 5) (.s 14))])
 (.seq (.reg [rQ 16 (.ld bQ (.s 5)), rQ 17 (.call false 76 (.tup [(.int .i64), (.int .i64)]) [(.s 16)]), mQ 15 17, rQ 18 (.ext 0 (.s 15)), rQ 19 (.ext 1 (.s 15)), mQ 6 18, mQ 7 19])
 (.reg [mQ 20 2, mQ 21 6, rQ 22 (.bin .add (.s 20) (.s 21)), mQ 23 3, mQ 24 7, rQ 25 (.mx (.s 23) (.s 24)), mQ 2 22, mQ 3 25]))))
 (.reg [rQ 26 (.bin .add (.s 11) (cQ 1)), mQ 11 26])))))))
 (.seq (.reg [mQ 27 2, rQ 28 (.bin .add (.s 27) (cQ 1)), mQ 29 3, rQ 30 (.bin .add (.s 29) (cQ 1)), mQ 2 28, mQ 3 30])
 .ret))),
 [.slot 2, .slot 3]⟩
theorem ok76 : compF Tryd.prog 76 [[2, 3, 9, 10, 11]] (Cfg.mk [] [] [] [] []) = some ir76 := by kernel_rfl
def ir77 : FInfo := ⟨32,
 (.seq (.reg [rQ 1 (.box bQ (.s 0)), rQ 2 (.mov fQ)])
 (.seq (.seq (.reg [rQ 3 (.fa 0 (.s 1)), rQ 4 (.ld .str (.s 3))])
 (.block 0 (.seq (.reg [rQ 6 (.bin .eql (.s 4) (.c (.t (.str [78, 97, 116])))), mQ 5 6])
 (.cond (.s 5)
 (.seq (.reg [rQ 7 (.fa 1 (.s 1)), rQ 8 (.ld .slc (.s 7)), rQ 9 (.len (.s 8)), rQ 10 (.bin .eql (.s 9) (cQ 0)), mQ 2 10])
 .ret)
 (.seq (.seq (.reg [rQ 12 (.bin .eql (.s 4) (.c (.t (.str [84, 111])))), mQ 11 12])
 (.cond (.s 11)
 .skip
 (.reg [rQ 13 (.bin .eql (.s 4) (.c (.t (.str [80, 97, 105, 114])))), mQ 11 13])))
 (.cond (.s 11)
 (.seq (.reg [rQ 14 (.fa 1 (.s 1)), rQ 15 (.ld .slc (.s 14)), rQ 16 (.len (.s 15)), rQ 17 (.bin .eql (.s 16) (cQ 2)), mQ 18 17, gQ 19 18 true (.fa 1 (.s 1)), gQ 20 18 true (.ld .slc (.s 19)), gQ 21 18 true (.ia bQ (.s 20) (cQ 0)), gQ 22 18 true (.ld bQ (.s 21)), gQ 23 18 true (.call false 77 .bool [(.s 22)]), rQ 24 (.pick (.s 18) (.s 23) fQ), mQ 25 24, gQ 26 25 true (.fa 1 (.s 1)), gQ 27 25 true (.ld .slc (.s 26)), gQ 28 25 true (.ia bQ (.s 27) (cQ 1)), gQ 29 25 true (.ld bQ (.s 28)), gQ 30 25 true (.call false 77 .bool [(.s 29)]), rQ 31 (.pick (.s 25) (.s 30) fQ), mQ 2 31])
 .ret)
 .skip))))))
 (.seq (.reg [rQ 2 (.mov fQ)])
 .ret))),
 [.slot 2]⟩
theorem ok77 : compF Tryd.prog 77 [] (Cfg.mk [] [] [] [] []) = some ir77 := by kernel_rfl
def ir78 : FInfo := ⟨9,
 (.seq (.reg [rQ 2 (.box bQ (.s 0)), rQ 3 (.box bQ (.s 1)), rQ 4 (.new bQ (.agg [(.t (.str [])), .nilS]))])
 (.seq (.reg [rQ 5 (.ld bQ (.s 2)), rQ 6 (.ld bQ (.s 3)), rQ 7 (.bsl bQ (.agg [(.t (.str [])), .nilS]) 2 [(0, (.s 5)), (1, (.s 6))]), rQ 8 (.build [(.t (.str [])), .nilS] [(0, .str, (.c (.t (.str [84, 111])))), (1, .slc, (.s 7))]), nQ (.st bQ (.s 4) (.s 8))])
 .ret)),
 [.cell 4 bQ]⟩
theorem ok78 : compF Tryd.prog 78 [] (Cfg.mk [] [] [] [] []) = some ir78 := by kernel_rfl
def ir79 : FInfo := ⟨17,
 (.seq (.reg [rQ 2 (.box bQ (.s 0)), rQ 3 (.box bQ (.s 1)), rQ 4 (.mov fQ)])
 (.seq (.reg [rQ 5 (.fa 0 (.s 2)), rQ 6 (.ld .str (.s 5)), rQ 7 (.fa 0 (.s 3)), rQ 8 (.ld .str (.s 7)), rQ 9 (.bin .eql (.s 6) (.s 8)), mQ 10 9, gQ 11 10 true (.fa 1 (.s 2)), gQ 12 10 true (.ld .slc (.s 11)), gQ 13 10 true (.fa 1 (.s 3)), gQ 14 10 true (.ld .slc (.s 13)), gQ 15 10 true (.call false 86 .bool [(.s 12), (.s 14), (.f 79)]), rQ 16 (.pick (.s 10) (.s 15) fQ), mQ 4 16])
 .ret)),
 [.slot 4]⟩
theorem ok79 : compF Tryd.prog 79 [] (Cfg.mk [] [] [] [] []) = some ir79 := by kernel_rfl
def ir80 : FInfo := ⟨51,
 (.seq (.reg [rQ 2 (.box bQ (.s 0)), rQ 3 (.box bQ (.s 1)), rQ 4 (.mov (cQ 0))])
 (.seq (.seq (.reg [rQ 8 (.fa 0 (.s 2)), rQ 9 (.ld .str (.s 8)), rQ 10 (.fa 0 (.s 3)), rQ 11 (.ld .str (.s 10)), rQ 12 (.call false 87 (.int .i64) [(.s 9), (.s 11)]), mQ 5 12])
 (.seq (.reg [mQ 13 5, rQ 14 (.bin .neq (.s 13) (cQ 0))])
 (.cond (.s 14)
 (.seq (.reg [mQ 15 5, mQ 4 15])
 .ret)
 .skip)))
 (.seq (.seq (.reg [rQ 16 (.fa 1 (.s 2)), rQ 17 (.ld .slc (.s 16)), rQ 18 (.len (.s 17)), rQ 19 (.fa 1 (.s 3)), rQ 20 (.ld .slc (.s 19)), rQ 21 (.len (.s 20)), rQ 22 (.bin .neq (.s 18) (.s 21))])
 (.cond (.s 22)
 (.seq (.seq (.reg [rQ 23 (.fa 1 (.s 2)), rQ 24 (.ld .slc (.s 23)), rQ 25 (.len (.s 24)), rQ 26 (.fa 1 (.s 3)), rQ 27 (.ld .slc (.s 26)), rQ 28 (.len (.s 27)), rQ 29 (.bin .lss (.s 25) (.s 28))])
 (.cond (.s 29)
 (.seq (.reg [rQ 4 (.mov (cQ (-1)))])
 .ret)
 .skip))
 (.seq (.reg [rQ 4 (.mov (cQ 1))])
 .ret))
 .skip))
 (.seq (.seq (.reg [rQ 6 (.mov (cQ 0))])
 (.block 0 (.loop [2, 3, 6] (.seq (.seq (.reg [mQ 30 6, rQ 31 (.fa 1 (.s 2)), rQ 32 (.ld .slc (.s 31)), rQ 33 (.len (.s 32)), rQ 34 (.bin .lss (.s 30) (.s 33))])
 (.cond (.s 34)
 .skip
 (.exit 0)))
 (.seq (.block 1 (.seq (.dreg [rQ 37 (.fa 1 (.s 2)), rQ 38 (.ld .slc (.s 37)), mQ 39 6, rQ 40 (.ia bQ (.s 38) (.s 39)), rQ 41 (.ld bQ (.s 40)), rQ 42 (.fa 1 (.s 3)), rQ 43 (.ld .slc (.s 42)), mQ 44 6, rQ 45 (.ia bQ (.s 43) (.s 44)), rQ 46 (.ld bQ (.s 45)), rQ 47 (.call false 80 (.int .i64) [(.s 41), (.s 46)]), mQ 7 47] [0, 1, 0, 7, 15, 0, 32, 0, 224, 480, 1023, 2047])
 (.seq (.reg [mQ 48 7, rQ 49 (.bin .neq (.s 48) (cQ 0))])
 (.cond (.s 49)
 (.seq (.reg [mQ 50 7, mQ 4 50])
 .ret)
 .skip))))
 (.reg [mQ 35 6, rQ 36 (.bin .add (.s 35) (cQ 1)), mQ 6 36]))))))
 (.seq (.reg [rQ 4 (.mov (cQ 0))])
 .ret))))),
 [.slot 4]⟩
theorem ok80 : compF Tryd.prog 80 [[2, 3, 6]] (Cfg.mk [] [] [] [] []) = some ir80 := by kernel_rfl
def ir81 : FInfo := ⟨34,
 (.seq (.reg [rQ 4 (.box .any (.s 0)), rQ 5 (.box (.int .i64) (.s 1)), rQ 7 (.box .any (.s 3)), rQ 8 (.mov fQ)])
 (.seq (.reg [rQ 9 (.ld .wp (.s 4)), mQ 10 2, rQ 11 (.callw 47 .wp [(.s 9), (.s 10)]), mQ 2 11])
 (.seq (.seq (.reg [mQ 12 2, rQ 13 (.nonnil (.s 12)), rQ 14 (.fa 0 (.s 13)), rQ 15 (.ld .str (.s 14)), rQ 16 (.bin .eql (.s 15) (.c (.t (.str []))))])
 (.cond (.s 16)
 (.seq (.dreg [mQ 17 2, rQ 18 (.nonnil (.s 17)), rQ 19 (.fa 1 (.s 18)), rQ 20 (.ld (.int .i64) (.s 19)), rQ 21 (.ld (.int .i64) (.s 5)), rQ 22 (.bin .eql (.s 20) (.s 21)), mQ 8 22] [0, 1, 3, 7, 0, 31, 63])
 .ret)
 .skip))
 (.seq (.seq (.reg [rQ 23 (.ld .wm (.s 7)), mQ 24 2, rQ 25 (.wget .ptr false .bool (.t (.bool false)) (.s 23) (.s 24))])
 (.cond (.s 25)
 (.seq (.reg [rQ 8 (.mov fQ)])
 .ret)
 .skip))
 (.seq (.reg [rQ 26 (.ld .wm (.s 7)), mQ 27 2, nQ (.wput .ptr (.s 26) (.s 27) tQ)])
 (.seq (.reg [mQ 28 2, rQ 29 (.nonnil (.s 28)), rQ 30 (.fa 2 (.s 29)), rQ 31 (.ld .slc (.s 30)), rQ 32 (.mkf 89 [] [(.s 4), (.s 5), (.s 7)]), rQ 33 (.callw 88 .bool [(.s 31), (.s 32)]), mQ 8 33])
 .ret)))))),
 [.slot 8]⟩
theorem ok81 : compF Tryd.prog 81 [] (Cfg.mk [] [45, 47, 53, 85, 105, 114] [11, 33] [] []) = some ir81 := by kernel_rfl
def ir82 : FInfo := ⟨54,
 (.seq (.reg [rQ 4 (.mov (.c (.t (.str []))))])
 (.seq (.seq (.reg [mQ 10 1, rQ 11 (.bin .eql (.s 10) (cQ 10))])
 (.cond (.s 11)
 (.seq (.seq (.reg [mQ 12 0, rQ 13 (.bin .leq (cQ 0) (.s 12)), mQ 14 13, gQ 15 14 true (.mov (.s 0)), gQ 16 14 true (.bin .lss (.s 15) (cQ 100)), rQ 17 (.pick (.s 14) (.s 16) fQ)])
 (.cond (.s 17)
 (.seq (.reg [mQ 18 0, rQ 19 (.call false 90 .str [(.s 18)]), mQ 4 19])
 .ret)
 .skip))
 (.seq (.reg [rQ 5 (.new (.agg [(.int .u8), (.int .u8), (.int .u8), (.int .u8), (.int .u8), (.int .u8), (.int .u8), (.int .u8), (.int .u8), (.int .u8), (.int .u8), (.int .u8), (.int .u8), (.int .u8), (.int .u8), (.int .u8), (.int .u8), (.int .u8), (.int .u8), (.int .u8), (.int .u8), (.int .u8), (.int .u8), (.int .u8)]) (.t (.agg [(.int .u8 0), (.int .u8 0), (.int .u8 0), (.int .u8 0), (.int .u8 0), (.int .u8 0), (.int .u8 0), (.int .u8 0), (.int .u8 0), (.int .u8 0), (.int .u8 0), (.int .u8 0), (.int .u8 0), (.int .u8 0), (.int .u8 0), (.int .u8 0), (.int .u8 0), (.int .u8 0), (.int .u8 0), (.int .u8 0), (.int .u8 0), (.int .u8 0), (.int .u8 0), (.int .u8 0)])))])
 (.seq (.reg [mQ 20 0, rQ 21 (.conv .u64 (.s 20)), mQ 6 21])
 (.seq (.seq (.reg [mQ 22 0, rQ 23 (.bin .lss (.s 22) (cQ 0))])
 (.cond (.s 23)
 (.reg [mQ 24 6, rQ 25 (.un .neg (.s 24)), mQ 6 25])
 .skip))
 (.seq (.reg [mQ 26 6, rQ 27 (.call false 91 (.int .i64) [(.s 26)]), mQ 7 27])
 (.seq (.reg [mQ 28 7, rQ 29 (.bin .add (cQ 1) (.s 28)), rQ 30 (.fail), mQ 31 6, rQ 32 (.call false 92 (.tup []) [(.s 30), (.s 31)])])
 (.seq (.seq (.reg [mQ 33 0, rQ 34 (.bin .lss (.s 33) (cQ 0))])
 (.cond (.s 34)
 (.seq (.reg [rQ 35 (.iaa (.int .u8) 24 (.s 5) (cQ 0)), nQ (.st (.int .u8) (.s 35) (.c (.t (.int .u8 45))))])
 (.seq (.reg [mQ 36 7, rQ 37 (.bin .add (cQ 1) (.s 36)), rQ 38 (.fail), rQ 39 (.fail), mQ 4 39])
 .ret))
 .skip))
 (.seq (.reg [mQ 40 7, rQ 41 (.bin .add (cQ 1) (.s 40)), rQ 42 (.fail), rQ 43 (.fail), mQ 4 43])
 .ret))))))))
 .skip))
 (.seq (.reg [mQ 45 0, rQ 46 (.conv .u64 (.s 45)), mQ 47 1, mQ 48 0, rQ 49 (.bin .lss (.s 48) (cQ 0)), rQ 50 (.call false 93 (.tup [.slc, .str]) [(.c .nilS), (.s 46), (.s 47), (.s 49), fQ]), mQ 44 50, rQ 51 (.ext 0 (.s 44)), rQ 52 (.ext 1 (.s 44)), mQ 8 51, mQ 9 52])
 (.seq (.reg [mQ 53 9, mQ 4 53])
 .ret)))),
 [.slot 4]⟩
theorem ok82 : compF Tryd.prog 82 [] (Cfg.mk [] [] [] [] []) = some ir82 := by kernel_rfl
def ir85 : FInfo := ⟨112,
 (.seq (.reg [rQ 1 (.box aQ (.s 0)), rQ 2 (.new aQ (.agg [(.t (.int .i64 0)), (.t (.int .i64 0)), (.t (.str [])), .nilS, .nilS])), rQ 3 (.mov fQ)])
 (.seq (.seq (.dreg [rQ 11 (.fa 4 (.s 1)), rQ 12 (.ld .slc (.s 11)), rQ 13 (.len (.s 12)), rQ 14 (.fa 0 (.s 1)), rQ 15 (.ld (.int .i64) (.s 14)), rQ 16 (.call false 66 (.int .i64) [(.s 15)]), rQ 17 (.bin .neq (.s 13) (.s 16))] [0, 1, 3, 0, 8, 24, 63])
 (.cond (.s 17)
 (.seq (.reg [rQ 18 (.build [(.t (.int .i64 0)), (.t (.int .i64 0)), (.t (.str [])), .nilS, .nilS] []), nQ (.st aQ (.s 2) (.s 18)), rQ 3 (.mov fQ)])
 .ret)
 .skip))
 (.seq (.seq (.reg [rQ 19 (.fa 0 (.s 1)), rQ 20 (.ld (.int .i64) (.s 19))])
 (.block 0 (.seq (.reg [rQ 22 (.bin .eql (.s 20) (cQ 3)), mQ 21 22])
 (.cond (.s 21)
 (.seq (.reg [rQ 23 (.fa 4 (.s 1)), rQ 24 (.ld .slc (.s 23)), rQ 25 (.ia aQ (.s 24) (cQ 0)), rQ 26 (.ld aQ (.s 25)), rQ 4 (.new aQ (.agg [(.t (.int .i64 0)), (.t (.int .i64 0)), (.t (.str [])), .nilS, .nilS])), nQ (.st aQ (.s 4) (.s 26))])
 (.seq (.reg [rQ 27 (.ld aQ (.s 4)), rQ 28 (.call false 94 .bool [(.s 27), (cQ 2)])])
 (.cond (.s 28)
 (.seq (.dreg [rQ 29 (.fa 4 (.s 4)), rQ 30 (.ld .slc (.s 29)), rQ 31 (.ia aQ (.s 30) (cQ 0)), rQ 32 (.ld aQ (.s 31)), rQ 33 (.fa 4 (.s 1)), rQ 34 (.ld .slc (.s 33)), rQ 35 (.ia aQ (.s 34) (cQ 1)), rQ 36 (.ld aQ (.s 35)), rQ 37 (.call false 95 aQ [(.s 32), (cQ 0), (.s 36)]), nQ (.st aQ (.s 2) (.s 37)), rQ 3 (.mov tQ)] [0, 1, 3, 7, 0, 16, 48, 112, 255, 511, 1023])
 .ret)
 .skip)))
 (.seq (.reg [rQ 39 (.bin .eql (.s 20) (cQ 5)), mQ 38 39])
 (.cond (.s 38)
 (.seq (.reg [rQ 40 (.fa 4 (.s 1)), rQ 41 (.ld .slc (.s 40)), rQ 42 (.ia aQ (.s 41) (cQ 0)), rQ 43 (.ld aQ (.s 42)), rQ 5 (.new aQ (.agg [(.t (.int .i64 0)), (.t (.int .i64 0)), (.t (.str [])), .nilS, .nilS])), nQ (.st aQ (.s 5) (.s 43))])
 (.seq (.reg [rQ 44 (.ld aQ (.s 5)), rQ 45 (.call false 94 .bool [(.s 44), (cQ 4)]), mQ 46 45, gQ 47 46 true (.fa 1 (.s 5)), gQ 48 46 true (.ld (.int .i64) (.s 47)), gQ 49 46 true (.bin .geq (.s 48) (cQ 0)), rQ 50 (.pick (.s 46) (.s 49) fQ), mQ 51 50, gQ 52 51 true (.fa 1 (.s 5)), gQ 53 51 true (.ld (.int .i64) (.s 52)), gQ 54 51 true (.bin .leq (.s 53) (cQ 1099511627776)), rQ 55 (.pick (.s 51) (.s 54) fQ)])
 (.cond (.s 55)
 (.seq (.reg [rQ 56 (.fa 1 (.s 5)), rQ 57 (.ld (.int .i64) (.s 56)), rQ 58 (.bin .add (.s 57) (cQ 1)), rQ 59 (.build [(.t (.int .i64 0)), (.t (.int .i64 0)), (.t (.str [])), .nilS, .nilS] [(0, (.int .i64), (cQ 4)), (1, (.int .i64), (.s 58))]), nQ (.st aQ (.s 2) (.s 59)), rQ 3 (.mov tQ)])
 .ret)
 .skip)))
 (.seq (.reg [rQ 61 (.bin .eql (.s 20) (cQ 6)), mQ 60 61])
 (.cond (.s 60)
 (.seq (.dreg [rQ 62 (.fa 4 (.s 1)), rQ 63 (.ld .slc (.s 62)), rQ 64 (.ia aQ (.s 63) (cQ 0)), rQ 65 (.ld aQ (.s 64)), rQ 66 (.fa 4 (.s 1)), rQ 67 (.ld .slc (.s 66)), rQ 68 (.ia aQ (.s 67) (cQ 1)), rQ 69 (.ld aQ (.s 68)), rQ 70 (.fa 4 (.s 1)), rQ 71 (.ld .slc (.s 70)), rQ 72 (.ia aQ (.s 71) (cQ 2)), rQ 73 (.ld aQ (.s 72)), rQ 6 (.new aQ (.agg [(.t (.int .i64 0)), (.t (.int .i64 0)), (.t (.str [])), .nilS, .nilS])), rQ 7 (.new aQ (.agg [(.t (.int .i64 0)), (.t (.int .i64 0)), (.t (.str [])), .nilS, .nilS])), rQ 8 (.new aQ (.agg [(.t (.int .i64 0)), (.t (.int .i64 0)), (.t (.str [])), .nilS, .nilS])), nQ (.st aQ (.s 6) (.s 65)), nQ (.st aQ (.s 7) (.s 69)), nQ (.st aQ (.s 8) (.s 73))] [0, 1, 3, 7, 0, 16, 48, 112, 0, 256, 768, 1792, 0, 0, 0, 28687, 61695, 131071])
 (.block 1 (.seq (.reg [rQ 87 (.ld aQ (.s 6)), rQ 88 (.call false 94 .bool [(.s 87), (cQ 4)]), rQ 89 (.un .not (.s 88)), mQ 86 89])
 (.cond (.s 86)
 .skip
 (.seq (.reg [rQ 91 (.fa 1 (.s 6)), rQ 92 (.ld (.int .i64) (.s 91)), rQ 93 (.bin .leq (.s 92) (cQ 0)), mQ 90 93])
 (.cond (.s 90)
 (.seq (.reg [rQ 94 (.ld aQ (.s 8)), nQ (.st aQ (.s 2) (.s 94)), rQ 3 (.mov tQ)])
 .ret)
 (.seq (.reg [rQ 74 (.fa 1 (.s 6)), rQ 75 (.ld (.int .i64) (.s 74)), rQ 76 (.bin .sub (.s 75) (cQ 1)), rQ 77 (.build [(.t (.int .i64 0)), (.t (.int .i64 0)), (.t (.str [])), .nilS, .nilS] [(0, (.int .i64), (cQ 4)), (1, (.int .i64), (.s 76))]), rQ 78 (.ld aQ (.s 7)), rQ 79 (.ld aQ (.s 8)), rQ 80 (.bsl aQ (.agg [(.t (.int .i64 0)), (.t (.int .i64 0)), (.t (.str [])), .nilS, .nilS]) 3 [(0, (.s 77)), (1, (.s 78)), (2, (.s 79))]), rQ 81 (.build [(.t (.int .i64 0)), (.t (.int .i64 0)), (.t (.str [])), .nilS, .nilS] [(0, (.int .i64), (cQ 6)), (4, .slc, (.s 80))]), rQ 9 (.new aQ (.agg [(.t (.int .i64 0)), (.t (.int .i64 0)), (.t (.str [])), .nilS, .nilS])), nQ (.st aQ (.s 9) (.s 81))])
 (.seq (.reg [rQ 82 (.ld aQ (.s 7)), rQ 83 (.ld aQ (.s 9)), rQ 84 (.bsl aQ (.agg [(.t (.int .i64 0)), (.t (.int .i64 0)), (.t (.str [])), .nilS, .nilS]) 2 [(0, (.s 82)), (1, (.s 83))]), rQ 85 (.build [(.t (.int .i64 0)), (.t (.int .i64 0)), (.t (.str [])), .nilS, .nilS] [(0, (.int .i64), (cQ 3)), (4, .slc, (.s 84))]), nQ (.st aQ (.s 2) (.s 85)), rQ 3 (.mov tQ)])
 .ret))))))))
 (.seq (.seq (.reg [rQ 96 (.bin .eql (.s 20) (cQ 8)), mQ 95 96])
 (.cond (.s 95)
 .skip
 (.reg [rQ 97 (.bin .eql (.s 20) (cQ 9)), mQ 95 97])))
 (.cond (.s 95)
 (.seq (.reg [rQ 98 (.fa 4 (.s 1)), rQ 99 (.ld .slc (.s 98)), rQ 100 (.ia aQ (.s 99) (cQ 0)), rQ 101 (.ld aQ (.s 100)), rQ 10 (.new aQ (.agg [(.t (.int .i64 0)), (.t (.int .i64 0)), (.t (.str [])), .nilS, .nilS])), nQ (.st aQ (.s 10) (.s 101))])
 (.seq (.reg [rQ 102 (.ld aQ (.s 10)), rQ 103 (.call false 94 .bool [(.s 102), (cQ 7)])])
 (.cond (.s 103)
 (.seq (.reg [rQ 104 (.fa 4 (.s 10)), rQ 105 (.ld .slc (.s 104)), rQ 106 (.fa 0 (.s 1)), rQ 107 (.ld (.int .i64) (.s 106)), rQ 108 (.bin .sub (.s 107) (cQ 8)), rQ 109 (.ia aQ (.s 105) (.s 108)), rQ 110 (.ld aQ (.s 109)), nQ (.st aQ (.s 2) (.s 110)), rQ 3 (.mov tQ)])
 .ret)
 .skip)))
 .skip))))))))))
 (.seq (.reg [rQ 111 (.build [(.t (.int .i64 0)), (.t (.int .i64 0)), (.t (.str [])), .nilS, .nilS] []), nQ (.st aQ (.s 2) (.s 111)), rQ 3 (.mov fQ)])
 .ret)))),
 [.cell 2 aQ, .slot 3]⟩
theorem ok85 : compF Tryd.prog 85 [] (Cfg.mk [] [] [] [] []) = some ir85 := by kernel_rfl
def ir86 : FInfo := ⟨32,
 (.seq (.reg [rQ 6 (.mov fQ)])
 (.seq (.seq (.reg [mQ 10 0, rQ 11 (.len (.s 10)), mQ 12 1, rQ 13 (.len (.s 12)), rQ 14 (.bin .neq (.s 11) (.s 13))])
 (.cond (.s 14)
 (.seq (.reg [rQ 6 (.mov fQ)])
 .ret)
 .skip))
 (.seq (.seq (.reg [mQ 15 0, rQ 16 (.len (.s 15)), rQ 17 (.mov (cQ 0))])
 (.block 0 (.loop [1, 2, 15, 16, 17] (.seq (.reg [rQ 18 (.bin .lss (.s 17) (.s 16))])
 (.seq (.cond (.s 18)
 .skip
 (.exit 0))
 (.seq (.block 1 (.seq (.reg [mQ 19 17, rQ 20 (.ia bQ (.s 15) (.s 17)), rQ 21 (.ld bQ (.s 20)), rQ 8 (.new bQ (.agg [(.t (.str [])), .nilS])), mQ 7 19, nQ (.st bQ (.s 8) (.s 21))])
 (.seq (.reg [mQ 22 1, mQ 23 7, rQ 24 (.ia bQ (.s 22) (.s 23)), rQ 25 (.ld bQ (.s 24)), rQ 9 (.new bQ (.agg [(.t (.str [])), .nilS])), nQ (.st bQ (.s 9) (.s 25))])
 (.seq (.reg [mQ 26 2, rQ 27 (.ld bQ (.s 8)), rQ 28 (.ld bQ (.s 9)), rQ 29 (.callv (.s 26) .bool [(.s 27), (.s 28)]), rQ 30 (.un .not (.s 29))])
 (.cond (.s 30)
 (.seq (.reg [rQ 6 (.mov fQ)])
 .ret)
 .skip)))))
 (.reg [rQ 31 (.bin .add (.s 17) (cQ 1)), mQ 17 31])))))))
 (.seq (.reg [rQ 6 (.mov tQ)])
 .ret)))),
 [.slot 6]⟩
theorem ok86 : compF Tryd.prog 86 [[1, 2, 15, 16, 17]] (Cfg.mk [] [] [] [] []) = some ir86 := by kernel_rfl
def ir87 : FInfo := ⟨11,
 (.seq (.reg [rQ 4 (.mov (cQ 0))])
 (.seq (.seq (.reg [mQ 5 0, mQ 6 1, rQ 7 (.bin .lss (.s 5) (.s 6))])
 (.cond (.s 7)
 (.seq (.reg [rQ 4 (.mov (cQ (-1)))])
 .ret)
 .skip))
 (.seq (.seq (.reg [mQ 8 0, mQ 9 1, rQ 10 (.bin .gtr (.s 8) (.s 9))])
 (.cond (.s 10)
 (.seq (.reg [rQ 4 (.mov (cQ 1))])
 .ret)
 .skip))
 (.seq (.reg [rQ 4 (.mov (cQ 0))])
 .ret)))),
 [.slot 4]⟩
theorem ok87 : compF Tryd.prog 87 [] (Cfg.mk [] [] [] [] []) = some ir87 := by kernel_rfl
def ir88 : FInfo := ⟨9,
 (.seq (.reg [rQ 4 (.mov fQ)])
 (.seq (.reg [mQ 5 0, mQ 6 1, rQ 7 (.callw 96 (.int .i64) [(.s 5), (.s 6)]), rQ 8 (.bin .geq (.s 7) (cQ 0)), mQ 4 8])
 .ret)),
 [.slot 4]⟩
theorem ok88 : compF Tryd.prog 88 [] (Cfg.mk [] [45, 47, 53, 85, 105, 114] [7] [] []) = some ir88 := by kernel_rfl
def ir89 : FInfo := ⟨11,
 (.seq (.reg [rQ 5 (.mov fQ)])
 (.seq (.reg [rQ 6 (.ld .wp (.s 1)), rQ 7 (.ld (.int .i64) (.s 2)), mQ 8 0, rQ 9 (.ld .wm (.s 3)), rQ 10 (.callw 81 .bool [(.s 6), (.s 7), (.s 8), (.s 9)]), mQ 5 10])
 .ret)),
 [.slot 5]⟩
theorem ok89 : compF Tryd.prog 89 [] (Cfg.mk [] [45, 47, 53, 85, 105, 114] [10] [] []) = some ir89 := by kernel_rfl
def ir90 : FInfo := ⟨15,
 (.seq (.reg [rQ 2 (.mov (.c (.t (.str []))))])
 (.seq (.seq (.reg [mQ 3 0, rQ 4 (.bin .lss (.s 3) (cQ 10))])
 (.cond (.s 4)
 (.seq (.reg [mQ 5 0, mQ 6 0, rQ 7 (.bin .add (.s 6) (cQ 1)), rQ 8 (.subs (.c (.t (.str [48, 49, 50, 51, 52, 53, 54, 55, 56, 57, 97, 98, 99, 100, 101, 102, 103, 104, 105, 106, 107, 108, 109, 110, 111, 112, 113, 114, 115, 116, 117, 118, 119, 120, 121, 122]))) (some (.s 5)) (some (.s 7))), mQ 2 8])
 .ret)
 .skip))
 (.seq (.reg [mQ 9 0, rQ 10 (.bin .mul (.s 9) (cQ 2)), mQ 11 0, rQ 12 (.bin .mul (.s 11) (cQ 2)), rQ 13 (.bin .add (.s 12) (cQ 2)), rQ 14 (.subs (.c (.t (.str [48, 48, 48, 49, 48, 50, 48, 51, 48, 52, 48, 53, 48, 54, 48, 55, 48, 56, 48, 57, 49, 48, 49, 49, 49, 50, 49, 51, 49, 52, 49, 53, 49, 54, 49, 55, 49, 56, 49, 57, 50, 48, 50, 49, 50, 50, 50, 51, 50, 52, 50, 53, 50, 54, 50, 55, 50, 56, 50, 57, 51, 48, 51, 49, 51, 50, 51, 51, 51, 52, 51, 53, 51, 54, 51, 55, 51, 56, 51, 57, 52, 48, 52, 49, 52, 50, 52, 51, 52, 52, 52, 53, 52, 54, 52, 55, 52, 56, 52, 57, 53, 48, 53, 49, 53, 50, 53, 51, 53, 52, 53, 53, 53, 54, 53, 55, 53, 56, 53, 57, 54, 48, 54, 49, 54, 50, 54, 51, 54, 52, 54, 53, 54, 54, 54, 55, 54, 56, 54, 57, 55, 48, 55, 49, 55, 50, 55, 51, 55, 52, 55, 53, 55, 54, 55, 55, 55, 56, 55, 57, 56, 48, 56, 49, 56, 50, 56, 51, 56, 52, 56, 53, 56, 54, 56, 55, 56, 56, 56, 57, 57, 48, 57, 49, 57, 50, 57, 51, 57, 52, 57, 53, 57, 54, 57, 55, 57, 56, 57, 57]))) (some (.s 10)) (some (.s 13))), mQ 2 14])
 .ret))),
 [.slot 2]⟩
theorem ok90 : compF Tryd.prog 90 [] (Cfg.mk [] [] [] [] []) = some ir90 := by kernel_rfl
def ir94 : FInfo := ⟨17,
 (.seq (.reg [rQ 2 (.box aQ (.s 0)), rQ 4 (.mov fQ)])
 (.seq (.dreg [rQ 5 (.fa 0 (.s 2)), rQ 6 (.ld (.int .i64) (.s 5)), mQ 7 1, rQ 8 (.bin .eql (.s 6) (.s 7)), mQ 9 8, gQ 10 9 true (.fa 4 (.s 2)), gQ 11 9 true (.ld .slc (.s 10)), gQ 12 9 true (.len (.s 11)), gQ 13 9 true (.mov (.s 1)), gQ 14 9 true (.call false 66 (.int .i64) [(.s 13)]), gQ 15 9 true (.bin .eql (.s 12) (.s 14)), rQ 16 (.pick (.s 9) (.s 15) fQ), mQ 4 16] [0, 1, 0, 7, 15, 31, 63, 127, 31, 287, 1023, 2047, 4095])
 .ret)),
 [.slot 4]⟩
theorem ok94 : compF Tryd.prog 94 [] (Cfg.mk [] [] [] [] []) = some ir94 := by kernel_rfl
def ir95 : FInfo := ⟨18,
 (.seq (.reg [rQ 3 (.box aQ (.s 0)), rQ 4 (.box (.int .i64) (.s 1)), rQ 5 (.box aQ (.s 2)), rQ 6 (.new aQ (.agg [(.t (.int .i64 0)), (.t (.int .i64 0)), (.t (.str [])), .nilS, .nilS]))])
 (.seq (.seq (.reg [rQ 7 (.ld (.int .i64) (.s 4)), rQ 8 (.bin .lss (.s 7) (cQ 0)), mQ 9 8, gQ 10 9 false (.ld (.int .i64) (.s 4)), gQ 11 9 false (.bin .gtr (.s 10) (cQ 2147483648)), rQ 12 (.pick (.s 9) tQ (.s 11))])
 (.cond (.s 12)
 (.seq (.reg [rQ 13 (.ld aQ (.s 3)), rQ 14 (.call false 74 aQ [(.s 13)]), nQ (.st aQ (.s 6) (.s 14))])
 .ret)
 .skip))
 (.seq (.reg [rQ 15 (.ld aQ (.s 3)), rQ 16 (.mkf 103 [] [(.s 4), (.s 5)]), rQ 17 (.call false 102 aQ [(.s 15), (cQ 0), (.s 16)]), nQ (.st aQ (.s 6) (.s 17))])
 .ret))),
 [.cell 6 aQ]⟩
theorem ok95 : compF Tryd.prog 95 [] (Cfg.mk [] [] [] [] []) = some ir95 := by kernel_rfl
def ir96 : FInfo := ⟨19,
 (.seq (.reg [rQ 4 (.mov (cQ 0))])
 (.seq (.seq (.reg [mQ 6 0, rQ 7 (.len (.s 6)), rQ 8 (.mov (cQ 0))])
 (.block 0 (.loop [0, 1, 7, 8] (.seq (.reg [rQ 9 (.bin .lss (.s 8) (.s 7))])
 (.seq (.cond (.s 9)
 .skip
 (.exit 0))
 (.seq (.block 1 (.seq (.reg [mQ 10 8, mQ 5 10])
 (.seq (.reg [mQ 11 1, mQ 12 0, mQ 13 5, rQ 14 (.ia .wp (.s 12) (.s 13)), rQ 15 (.ld .wp (.s 14)), rQ 16 (.callvw (.s 11) .bool [(.s 15)])])
 (.cond (.s 16)
 (.seq (.reg [mQ 17 5, mQ 4 17])
 .ret)
 .skip))))
 (.reg [rQ 18 (.bin .add (.s 8) (cQ 1)), mQ 8 18])))))))
 (.seq (.reg [rQ 4 (.mov (cQ (-1)))])
 .ret))),
 [.slot 4]⟩
theorem ok96 : compF Tryd.prog 96 [[0, 1, 7, 8]] (Cfg.mk [] [45, 47, 53, 85, 105, 114] [16] [] []) = some ir96 := by kernel_rfl
def ir102 : FInfo := ⟨59,
 (.seq (.reg [rQ 3 (.box aQ (.s 0)), rQ 6 (.new aQ (.agg [(.t (.int .i64 0)), (.t (.int .i64 0)), (.t (.str [])), .nilS, .nilS]))])
 (.seq (.reg [rQ 9 (.fa 2 (.s 3)), rQ 10 (.ld bQ (.s 9)), rQ 11 (.call false 32 bQ [(.s 10)]), rQ 12 (.fa 2 (.s 3)), nQ (.st bQ (.s 12) (.s 11))])
 (.seq (.reg [rQ 13 (.fa 4 (.s 3)), rQ 14 (.ld .slc (.s 13)), rQ 15 (.clone aQ 80 (.s 14)), rQ 16 (.fa 4 (.s 3)), nQ (.st .slc (.s 16) (.s 15))])
 (.seq (.reg [mQ 17 1, mQ 7 17])
 (.seq (.seq (.reg [rQ 18 (.ld aQ (.s 3)), rQ 19 (.call false 94 .bool [(.s 18), (cQ 2)])])
 (.cond (.s 19)
 (.reg [mQ 20 7, rQ 21 (.bin .add (.s 20) (cQ 1)), mQ 7 21])
 .skip))
 (.seq (.seq (.reg [rQ 22 (.fa 4 (.s 3)), rQ 23 (.ld .slc (.s 22)), rQ 24 (.len (.s 23)), rQ 25 (.mov (cQ 0))])
 (.block 0 (.loop [1, 2, 3, 6, 7, 24, 25] (.seq (.reg [rQ 26 (.bin .lss (.s 25) (.s 24))])
 (.seq (.cond (.s 26)
 .skip
 (.exit 0))
 (.seq (.block 1 (.seq (.reg [mQ 27 25, mQ 8 27])
 (.dreg [rQ 28 (.fa 4 (.s 3)), rQ 29 (.ld .slc (.s 28)), mQ 30 8, rQ 31 (.fa 4 (.s 3)), rQ 32 (.ld .slc (.s 31)), mQ 33 8, rQ 34 (.ia aQ (.s 32) (.s 33)), rQ 35 (.ld aQ (.s 34)), mQ 36 7, mQ 37 2, rQ 38 (.call false 102 aQ [(.s 35), (.s 36), (.s 37)]), rQ 39 (.ia aQ (.s 29) (.s 30)), nQ (.st aQ (.s 39) (.s 38))] [0, 1, 0, 0, 8, 0, 56, 120, 0, 0, 1016, 2047, 4095])))
 (.reg [rQ 40 (.bin .add (.s 25) (cQ 1)), mQ 25 40])))))))
 (.seq (.seq (.reg [rQ 41 (.fa 0 (.s 3)), rQ 42 (.ld (.int .i64) (.s 41)), rQ 43 (.bin .eql (.s 42) (cQ 1)), mQ 44 43, gQ 45 44 true (.fa 1 (.s 3)), gQ 46 44 true (.ld (.int .i64) (.s 45)), gQ 47 44 true (.bin .geq (.s 46) (cQ 0)), rQ 48 (.pick (.s 44) (.s 47) fQ), mQ 49 48, gQ 50 49 true (.fa 1 (.s 3)), gQ 51 49 true (.ld (.int .i64) (.s 50)), gQ 52 49 true (.bin .leq (.s 51) (cQ 2147483648)), rQ 53 (.pick (.s 49) (.s 52) fQ)])
 (.cond (.s 53)
 (.seq (.reg [mQ 54 2, rQ 55 (.ld aQ (.s 3)), mQ 56 1, rQ 57 (.callv (.s 54) aQ [(.s 55), (.s 56)]), nQ (.st aQ (.s 6) (.s 57))])
 .ret)
 .skip))
 (.seq (.reg [rQ 58 (.ld aQ (.s 3)), nQ (.st aQ (.s 6) (.s 58))])
 .ret)))))))),
 [.cell 6 aQ]⟩
theorem ok102 : compF Tryd.prog 102 [[1, 2, 3, 6, 7, 24, 25]] (Cfg.mk [] [] [] [] []) = some ir102 := by kernel_rfl
def ir103 : FInfo := ⟨29,
 (.seq (.reg [rQ 4 (.box aQ (.s 0)), rQ 6 (.new aQ (.agg [(.t (.int .i64 0)), (.t (.int .i64 0)), (.t (.str [])), .nilS, .nilS]))])
 (.seq (.seq (.reg [rQ 8 (.fa 1 (.s 4)), rQ 9 (.ld (.int .i64) (.s 8)), mQ 10 1, rQ 11 (.bin .sub (.s 9) (.s 10)), mQ 7 11])
 (.block 0 (.seq (.reg [mQ 13 7, rQ 14 (.ld (.int .i64) (.s 2)), rQ 15 (.bin .eql (.s 13) (.s 14)), mQ 12 15])
 (.cond (.s 12)
 (.seq (.reg [rQ 16 (.ld aQ (.s 3)), mQ 17 1, rQ 18 (.call false 104 aQ [(.s 16), (.s 17), (cQ 0)]), nQ (.st aQ (.s 6) (.s 18))])
 .ret)
 (.seq (.reg [mQ 20 7, rQ 21 (.ld (.int .i64) (.s 2)), rQ 22 (.bin .gtr (.s 20) (.s 21)), mQ 19 22])
 (.cond (.s 19)
 (.reg [rQ 23 (.fa 1 (.s 4)), rQ 24 (.ld (.int .i64) (.s 23)), rQ 25 (.bin .sub (.s 24) (cQ 1)), rQ 26 (.fa 1 (.s 4)), nQ (.st (.int .i64) (.s 26) (.s 25))])
 .skip))))))
 (.seq (.reg [rQ 27 (.ld aQ (.s 4)), rQ 28 (.call false 74 aQ [(.s 27)]), nQ (.st aQ (.s 6) (.s 28))])
 .ret))),
 [.cell 6 aQ]⟩
theorem ok103 : compF Tryd.prog 103 [] (Cfg.mk [] [] [] [] []) = some ir103 := by kernel_rfl
def ir104 : FInfo := ⟨24,
 (.seq (.reg [rQ 3 (.box aQ (.s 0)), rQ 4 (.box (.int .i64) (.s 1)), rQ 5 (.box (.int .i64) (.s 2)), rQ 6 (.new aQ (.agg [(.t (.int .i64 0)), (.t (.int .i64 0)), (.t (.str [])), .nilS, .nilS]))])
 (.seq (.seq (.reg [rQ 7 (.ld (.int .i64) (.s 5)), rQ 8 (.bin .gtr (.s 7) (cQ 2147483648)), mQ 9 8, gQ 10 9 false (.ld (.int .i64) (.s 4)), gQ 11 9 false (.bin .lss (.s 10) (cQ (-2147483648))), rQ 12 (.pick (.s 9) tQ (.s 11)), mQ 13 12, gQ 14 13 false (.ld (.int .i64) (.s 4)), gQ 15 13 false (.bin .gtr (.s 14) (cQ 2147483648)), rQ 16 (.pick (.s 13) tQ (.s 15))])
 (.cond (.s 16)
 (.seq (.reg [rQ 17 (.ld aQ (.s 3)), rQ 18 (.call false 74 aQ [(.s 17)]), nQ (.st aQ (.s 6) (.s 18))])
 .ret)
 .skip))
 (.seq (.reg [rQ 19 (.ld (.int .i64) (.s 5)), rQ 20 (.mx (.s 19) (cQ 0)), nQ (.st (.int .i64) (.s 5) (.s 20))])
 (.seq (.reg [rQ 21 (.ld aQ (.s 3)), rQ 22 (.mkf 107 [] [(.s 5), (.s 4)]), rQ 23 (.call false 102 aQ [(.s 21), (cQ 0), (.s 22)]), nQ (.st aQ (.s 6) (.s 23))])
 .ret)))),
 [.cell 6 aQ]⟩
theorem ok104 : compF Tryd.prog 104 [] (Cfg.mk [] [] [] [] []) = some ir104 := by kernel_rfl
def ir107 : FInfo := ⟨37,
 (.seq (.reg [rQ 4 (.box aQ (.s 0)), rQ 6 (.new aQ (.agg [(.t (.int .i64 0)), (.t (.int .i64 0)), (.t (.str [])), .nilS, .nilS]))])
 (.seq (.seq (.reg [rQ 7 (.fa 1 (.s 4)), rQ 8 (.ld (.int .i64) (.s 7)), mQ 9 1, rQ 10 (.bin .sub (.s 8) (.s 9)), rQ 11 (.ld (.int .i64) (.s 2)), rQ 12 (.bin .geq (.s 10) (.s 11)), mQ 13 12, gQ 14 13 true (.fa 1 (.s 4)), gQ 15 13 true (.ld (.int .i64) (.s 14)), gQ 16 13 true (.mov (.s 1)), gQ 17 13 true (.bin .sub (.s 15) (.s 16)), gQ 18 13 true (.ld (.int .i64) (.s 3)), gQ 19 13 true (.bin .add (.s 17) (.s 18)), gQ 20 13 true (.ld (.int .i64) (.s 2)), gQ 21 13 true (.bin .geq (.s 19) (.s 20)), rQ 22 (.pick (.s 13) (.s 21) fQ), mQ 23 22, gQ 24 23 true (.fa 1 (.s 4)), gQ 25 23 true (.ld (.int .i64) (.s 24)), gQ 26 23 true (.ld (.int .i64) (.s 3)), gQ 27 23 true (.bin .add (.s 25) (.s 26)), gQ 28 23 true (.bin .geq (.s 27) (cQ 0)), rQ 29 (.pick (.s 23) (.s 28) fQ)])
 (.cond (.s 29)
 (.reg [rQ 30 (.fa 1 (.s 4)), rQ 31 (.ld (.int .i64) (.s 30)), rQ 32 (.ld (.int .i64) (.s 3)), rQ 33 (.bin .add (.s 31) (.s 32)), rQ 34 (.fa 1 (.s 4)), nQ (.st (.int .i64) (.s 34) (.s 33))])
 .skip))
 (.seq (.reg [rQ 35 (.ld aQ (.s 4)), rQ 36 (.call false 74 aQ [(.s 35)]), nQ (.st aQ (.s 6) (.s 36))])
 .ret))),
 [.cell 6 aQ]⟩
theorem ok107 : compF Tryd.prog 107 [] (Cfg.mk [] [] [] [] []) = some ir107 := by kernel_rfl
end Go.Proofs.Cw.Si
end

/-
  THE RECKONED CODE as a table: printed by program.
-/
section
set_option maxRecDepth 100000
namespace Go.Proofs.Cw.Si
open Go.Proofs
def tab : Tab := (.node 56 (.node 31 (.node 14 (.node 10 (.node 6 (.node 5 (.leaf 4 ir4) (.leaf 5 ir5)) (.node 9 (.root 6 ir6) (.leaf 9 ir9))) (.node 12 (.node 11 (.leaf 10 ir10) (.leaf 11 ir11)) (.node 13 (.leaf 12 ir12) (.leaf 13 ir13)))) (.node 18 (.node 16 (.node 15 (.leaf 14 ir14) (.leaf 15 ir15)) (.node 17 (.leaf 16 ir16) (.leaf 17 ir17))) (.node 20 (.node 19 (.leaf 18 ir18) (.leaf 19 ir19)) (.node 29 (.leaf 20 ir20) (.node 30 (.leaf 29 ir29) (.leaf 30 ir30)))))) (.node 41 (.node 36 (.node 34 (.node 32 (.leaf 31 ir31) (.leaf 32 ir32)) (.node 35 (.leaf 34 ir34) (.leaf 35 ir35))) (.node 38 (.node 37 (.leaf 36 ir36) (.leaf 37 ir37)) (.node 39 (.leaf 38 ir38) (.node 40 (.leaf 39 ir39) (.leaf 40 ir40))))) (.node 45 (.node 43 (.node 42 (.leaf 41 ir41) (.leaf 42 ir42)) (.node 44 (.leaf 43 ir43) (.leaf 44 ir44))) (.node 47 (.node 46 (.leaf 45 ir45) (.leaf 46 ir46)) (.node 48 (.leaf 47 ir47) (.node 55 (.leaf 48 ir48) (.leaf 55 ir55))))))) (.node 78 (.node 66 (.node 60 (.node 58 (.node 57 (.leaf 56 ir56) (.leaf 57 ir57)) (.node 59 (.leaf 58 ir58) (.leaf 59 ir59))) (.node 63 (.node 62 (.leaf 60 ir60) (.leaf 62 ir62)) (.node 64 (.leaf 63 ir63) (.node 65 (.leaf 64 ir64) (.leaf 65 ir65))))) (.node 73 (.node 68 (.node 67 (.leaf 66 ir66) (.leaf 67 ir67)) (.node 69 (.leaf 68 ir68) (.leaf 69 ir69))) (.node 75 (.node 74 (.leaf 73 ir73) (.leaf 74 ir74)) (.node 76 (.leaf 75 ir75) (.node 77 (.leaf 76 ir76) (.leaf 77 ir77)))))) (.node 89 (.node 82 (.node 80 (.node 79 (.leaf 78 ir78) (.leaf 79 ir79)) (.node 81 (.leaf 80 ir80) (.leaf 81 ir81))) (.node 86 (.node 85 (.leaf 82 ir82) (.leaf 85 ir85)) (.node 87 (.leaf 86 ir86) (.node 88 (.leaf 87 ir87) (.leaf 88 ir88))))) (.node 96 (.node 94 (.node 90 (.leaf 89 ir89) (.leaf 90 ir90)) (.node 95 (.leaf 94 ir94) (.leaf 95 ir95))) (.node 103 (.node 102 (.leaf 96 ir96) (.leaf 102 ir102)) (.node 104 (.leaf 103 ir103) (.node 107 (.leaf 104 ir104) (.leaf 107 ir107))))))))
theorem tabOk : tab.Ok Tryd.prog := ⟨⟨⟨⟨⟨⟨⟨_, _, ok4⟩, ⟨_, _, ok5⟩⟩, ⟨⟨_, _, ok6⟩, ⟨_, _, ok9⟩⟩⟩, ⟨⟨⟨_, _, ok10⟩, ⟨_, _, ok11⟩⟩, ⟨⟨_, _, ok12⟩, ⟨_, _, ok13⟩⟩⟩⟩, ⟨⟨⟨⟨_, _, ok14⟩, ⟨_, _, ok15⟩⟩, ⟨⟨_, _, ok16⟩, ⟨_, _, ok17⟩⟩⟩, ⟨⟨⟨_, _, ok18⟩, ⟨_, _, ok19⟩⟩, ⟨⟨_, _, ok20⟩, ⟨⟨_, _, ok29⟩, ⟨_, _, ok30⟩⟩⟩⟩⟩⟩, ⟨⟨⟨⟨⟨_, _, ok31⟩, ⟨_, _, ok32⟩⟩, ⟨⟨_, _, ok34⟩, ⟨_, _, ok35⟩⟩⟩, ⟨⟨⟨_, _, ok36⟩, ⟨_, _, ok37⟩⟩, ⟨⟨_, _, ok38⟩, ⟨⟨_, _, ok39⟩, ⟨_, _, ok40⟩⟩⟩⟩⟩, ⟨⟨⟨⟨_, _, ok41⟩, ⟨_, _, ok42⟩⟩, ⟨⟨_, _, ok43⟩, ⟨_, _, ok44⟩⟩⟩, ⟨⟨⟨_, _, ok45⟩, ⟨_, _, ok46⟩⟩, ⟨⟨_, _, ok47⟩, ⟨⟨_, _, ok48⟩, ⟨_, _, ok55⟩⟩⟩⟩⟩⟩⟩, ⟨⟨⟨⟨⟨⟨_, _, ok56⟩, ⟨_, _, ok57⟩⟩, ⟨⟨_, _, ok58⟩, ⟨_, _, ok59⟩⟩⟩, ⟨⟨⟨_, _, ok60⟩, ⟨_, _, ok62⟩⟩, ⟨⟨_, _, ok63⟩, ⟨⟨_, _, ok64⟩, ⟨_, _, ok65⟩⟩⟩⟩⟩, ⟨⟨⟨⟨_, _, ok66⟩, ⟨_, _, ok67⟩⟩, ⟨⟨_, _, ok68⟩, ⟨_, _, ok69⟩⟩⟩, ⟨⟨⟨_, _, ok73⟩, ⟨_, _, ok74⟩⟩, ⟨⟨_, _, ok75⟩, ⟨⟨_, _, ok76⟩, ⟨_, _, ok77⟩⟩⟩⟩⟩⟩, ⟨⟨⟨⟨⟨_, _, ok78⟩, ⟨_, _, ok79⟩⟩, ⟨⟨_, _, ok80⟩, ⟨_, _, ok81⟩⟩⟩, ⟨⟨⟨_, _, ok82⟩, ⟨_, _, ok85⟩⟩, ⟨⟨_, _, ok86⟩, ⟨⟨_, _, ok87⟩, ⟨_, _, ok88⟩⟩⟩⟩⟩, ⟨⟨⟨⟨_, _, ok89⟩, ⟨_, _, ok90⟩⟩, ⟨⟨_, _, ok94⟩, ⟨_, _, ok95⟩⟩⟩, ⟨⟨⟨_, _, ok96⟩, ⟨_, _, ok102⟩⟩, ⟨⟨_, _, ok103⟩, ⟨⟨_, _, ok104⟩, ⟨_, _, ok107⟩⟩⟩⟩⟩⟩⟩⟩
def anyL : Nat → List AV
  | 0 => []
  | n + 1 => .any :: anyL n
abbrev q0 : Sh := Sh.agg [Sh.int IntKind.i64, Sh.int IntKind.i64, Sh.str, Sh.slc, Sh.slc]
abbrev q1 : Sh := Sh.agg [Sh.int IntKind.i64, Sh.str, Sh.slc]
abbrev q2 : Sh := Sh.agg [Sh.str, Sh.slc]
abbrev q3 : HObj := HObj.mix (Sh.agg [Sh.slc]) [AV.agg [AV.hsl 1 none]]
abbrev q4 (x : Int) : Tree := Tree.int IntKind.i64 x
abbrev q5 (x : Int) : Int := IntKind.wrap IntKind.i64 x
abbrev q6 (l : List Tree) : Tree := List.headD l (Tree.bool false)
abbrev q7 (H : Heap) : Bool := gForm (Sh.agg [Sh.slc]) q1 H
abbrev q8 (y : Tree) : Bool := Sh.ok (Sh.int IntKind.i64) y
abbrev q9 (k : Nat) : AV := AV.t (Tree.int IntKind.i64 k)
abbrev lQ (y : Tree) : Tree := Tree.agg [q4 (Tree.toInt (q6 (Tree.cs y))), q4 (Tree.toInt (q6 (List.tail (Tree.cs y)))), Tree.str (Tree.toStr (q6 (List.tail (List.tail (Tree.cs y))))), Tree.slc (Tree.elems (q6 (List.tail (List.tail (List.tail (Tree.cs y)))))), Tree.slc (Tree.elems (q6 (List.tail (List.tail (List.tail (List.tail (Tree.cs y)))))))]
abbrev tQ' (y : Tree) : Tree := Tree.agg [Tree.str (Tree.toStr (q6 (Tree.cs y))), Tree.slc (Tree.elems (q6 (List.tail (Tree.cs y))))]
abbrev eQ : Env := Tab.env tab
end Go.Proofs.Cw.Si
end

/-
  EQUATIONS of the reckoned code: printed by program.
-/
section
set_option maxRecDepth 100000
namespace Go.Proofs.Cw.Si
open Go.Proofs

def L47_0 (n q s0 s1 : Nat) (h0G : World') : Option (Tree × World') := evLW eQ n 47 [1, 0, 0] [q] ⟨[AV.t (Tree.wp s0 0), AV.t (Tree.wp s1 0)] ++ anyL 26, [HObj.wld h0G]⟩

def L96_0 (n q : Nat) (s0 : List Tree) (s1c_0 : Nat) (s1c_1 : Int) (s1c_2 : Nat) (s7 s8 : Int) (h0G : World') : Option (Tree × World') := evLW eQ n 96 [1, 0, 1, 0] [q]
 ⟨[AV.t (Tree.slc s0), AV.t (Tree.fn 89 [] [Tree.ptr (Tree.wp s1c_0 0) 0, Tree.ptr (q4 s1c_1) 0, Tree.ptr (Tree.wm s1c_2) 0]), AV.any, AV.any, AV.any, AV.any, AV.any, AV.t
 (q4 s7), AV.t (q4 s8)] ++ anyL 10, [HObj.wld h0G]⟩

def L68_0 (n q s0 s1 s2 s3 : Nat) (s91 s92 : Int) (h0G : World') : Option (Tree × World') := evLW eQ n 68 [1, 1, 1, 1, 1, 1, 0, 1, 0] [q] ⟨[AV.t (Tree.wp s0 0), AV.t
 (Tree.wp s1 0), AV.t (Tree.wp s2 0), AV.t (Tree.wm s3), AV.any, AV.any, AV.any, AV.any, AV.any, AV.any, AV.any, AV.any, AV.any, AV.any, AV.any, AV.any, AV.any, AV.any,
 AV.any, AV.any, AV.any, AV.any, AV.any, AV.any, AV.any, AV.any, AV.any, AV.any, AV.any, AV.any, AV.any, AV.any, AV.any, AV.any, AV.any, AV.any, AV.any, AV.any, AV.any,
 AV.any, AV.any, AV.any, AV.any, AV.any, AV.any, AV.any, AV.any, AV.any, AV.any, AV.any, AV.any, AV.any, AV.any, AV.any, AV.any, AV.any, AV.any, AV.any, AV.any, AV.any,
 AV.any, AV.any, AV.any, AV.any, AV.any, AV.any, AV.any, AV.any, AV.any, AV.any, AV.any, AV.any, AV.any, AV.any, AV.any, AV.any, AV.any, AV.any, AV.any, AV.any, AV.any,
 AV.any, AV.any, AV.any, AV.any, AV.any, AV.any, AV.any, AV.any, AV.any, AV.any, AV.t (q4 s91), AV.t (q4 s92)] ++ anyL 25, [HObj.wld h0G]⟩

def L20_0 (n q s0 s2 s3 : Nat) (s70 : List Tree) (s71 s72 : Int) (h0G : World') (h100 h200 : List UInt8) : Option (Tree × World') := evLW eQ n 20 [1, 1, 1, 1, 1, 0, 1, 0]
 [q] ⟨[AV.t (Tree.wp s0 0), AV.any, AV.t (Tree.wm s2), AV.t (Tree.wp s3 0), AV.any, AV.any, AV.any, AV.any, AV.href 1 0 0, AV.any, AV.any, AV.any, AV.href 2 0 0, AV.any,
 AV.any, AV.any, AV.any, AV.any, AV.any, AV.any, AV.any, AV.any, AV.any, AV.any, AV.any, AV.any, AV.any, AV.any, AV.any, AV.any, AV.any, AV.any, AV.any, AV.any, AV.any,
 AV.any, AV.any, AV.any, AV.any, AV.any, AV.any, AV.any, AV.any, AV.any, AV.any, AV.any, AV.any, AV.any, AV.any, AV.any, AV.any, AV.any, AV.any, AV.any, AV.any, AV.any,
 AV.any, AV.any, AV.any, AV.any, AV.any, AV.any, AV.any, AV.any, AV.any, AV.any, AV.any, AV.any, AV.any, AV.any, AV.t (Tree.slc s70), AV.t (q4 s71), AV.t (q4 s72)] ++ anyL
 22, [HObj.wld h0G, HObj.mix q2 [AV.agg [AV.t (Tree.str h100), AV.nilS]], HObj.mix q2 [AV.agg [AV.t (Tree.str h200), AV.nilS]]]⟩

def L20_0b (n q s0 s2 s3 : Nat) (s70 : List Tree) (s71 s72 : Int) (h0G : World') (h100 h200 : List UInt8) (h3 : List Tree) : Option (Tree × World') := evLW eQ n 20 [1, 1,
 1, 1, 1, 0, 1, 0] [q] ⟨[AV.t (Tree.wp s0 0), AV.any, AV.t (Tree.wm s2), AV.t (Tree.wp s3 0), AV.any, AV.any, AV.any, AV.any, AV.href 1 0 0, AV.any, AV.any, AV.any,
 AV.href 2 0 0, AV.any, AV.any, AV.any, AV.any, AV.any, AV.any, AV.any, AV.any, AV.any, AV.any, AV.any, AV.any, AV.any, AV.any, AV.any, AV.any, AV.any, AV.any, AV.any,
 AV.any, AV.any, AV.any, AV.any, AV.any, AV.any, AV.any, AV.any, AV.any, AV.any, AV.any, AV.any, AV.any, AV.any, AV.any, AV.any, AV.any, AV.any, AV.any, AV.any, AV.any,
 AV.any, AV.any, AV.any, AV.any, AV.any, AV.any, AV.any, AV.any, AV.any, AV.any, AV.any, AV.any, AV.any, AV.any, AV.any, AV.any, AV.any, AV.t (Tree.slc s70), AV.t (q4
 s71), AV.t (q4 s72)] ++ anyL 22, [HObj.wld h0G, HObj.mix q2 [AV.agg [AV.t (Tree.str h100), AV.nilS]], HObj.mix q2 [AV.agg [AV.t (Tree.str h200), AV.hsl 3 none]], HObj.tre
 q2 h3]⟩

def M19_0 (n q : Nat) (K : St → Option (Tree × World')) (s0 : Nat) (s1 s8 s28 : List Tree) (s29 s30 : Int) (h0G : World') (h100 h101 : Int) (h102 : List UInt8) (h103 h104
 : List Tree) : Option (Tree × World') := evLK eQ 1 n 19 5 [1, 1, 1, 1, 0, 1, 0] [q] ⟨[AV.t (Tree.wp s0 0), AV.t (Tree.slc s1), AV.any, AV.any, AV.any, AV.href 1 0 0,
 AV.any, AV.any, AV.t (Tree.slc s8), AV.nilS, AV.any, AV.any, AV.any, AV.any, AV.any, AV.any, AV.any, AV.any, AV.any, AV.any, AV.any, AV.any, AV.any, AV.any, AV.any,
 AV.any, AV.any, AV.any, AV.t (Tree.slc s28), AV.t (q4 s29), AV.t (q4 s30)] ++ anyL 129, [HObj.wld h0G, HObj.tre q0 [Tree.agg [q4 h100, q4 h101, Tree.str h102, Tree.slc
 h103, Tree.slc h104]]]⟩ (onW eQ 19 K)

def S19 (s0 : Nat) (s1 s8 s28 : List Tree) (s29 s30 : Int) (s31 : Bool) (h0G : World') (h100 h101 : Int) (h102 : List UInt8) (h103 h104 : List Tree) : St := ⟨[AV.t
 (Tree.wp s0 0), AV.t (Tree.slc s1), AV.any, AV.any, AV.any, AV.href 1 0 0, AV.any, AV.any, AV.t (Tree.slc s8), AV.nilS, AV.any, AV.any, AV.any, AV.any, AV.any, AV.any,
 AV.any, AV.any, AV.any, AV.any, AV.any, AV.any, AV.any, AV.any, AV.any, AV.any, AV.any, AV.any, AV.t (Tree.slc s28), AV.t (q4 s29), AV.t (q4 s30), AV.t (Tree.bool s31)]
 ++ anyL 128, [HObj.wld h0G, HObj.tre q0 [Tree.agg [q4 h100, q4 h101, Tree.str h102, Tree.slc h103, Tree.slc h104]]]⟩

def M19_0b (n q : Nat) (K : St → Option (Tree × World')) (s0 : Nat) (s1 s8 s28 : List Tree) (s29 s30 : Int) (h0G : World') (h100 h101 : Int) (h102 : List UInt8) (h103 h104
 h2 : List Tree) : Option (Tree × World') := evLK eQ 1 n 19 5 [1, 1, 1, 1, 0, 1, 0] [q] ⟨[AV.t (Tree.wp s0 0), AV.t (Tree.slc s1), AV.any, AV.any, AV.any, AV.href 1 0 0,
 AV.any, AV.any, AV.t (Tree.slc s8), AV.hsl 2 none, AV.any, AV.any, AV.any, AV.any, AV.any, AV.any, AV.any, AV.any, AV.any, AV.any, AV.any, AV.any, AV.any, AV.any, AV.any,
 AV.any, AV.any, AV.any, AV.t (Tree.slc s28), AV.t (q4 s29), AV.t (q4 s30)] ++ anyL 129, [HObj.wld h0G, HObj.tre q0 [Tree.agg [q4 h100, q4 h101, Tree.str h102, Tree.slc
 h103, Tree.slc h104]], HObj.tre Sh.any h2]⟩ (onW eQ 19 K)

def S19x1 (s0 : Nat) (s1 s8 s28 : List Tree) (s29 s30 : Int) (s31 : Bool) (h0G : World') (h100 h101 : Int) (h102 : List UInt8) (h103 h104 h2 : List Tree) : St := ⟨[AV.t
 (Tree.wp s0 0), AV.t (Tree.slc s1), AV.any, AV.any, AV.any, AV.href 1 0 0, AV.any, AV.any, AV.t (Tree.slc s8), AV.hsl 2 none, AV.any, AV.any, AV.any, AV.any, AV.any,
 AV.any, AV.any, AV.any, AV.any, AV.any, AV.any, AV.any, AV.any, AV.any, AV.any, AV.any, AV.any, AV.any, AV.t (Tree.slc s28), AV.t (q4 s29), AV.t (q4 s30), AV.t (Tree.bool
 s31)] ++ anyL 128, [HObj.wld h0G, HObj.tre q0 [Tree.agg [q4 h100, q4 h101, Tree.str h102, Tree.slc h103, Tree.slc h104]], HObj.tre Sh.any h2]⟩

def M19_0c (n q : Nat) (K : St → Option (Tree × World')) (s0 : Nat) (s1 s28 : List Tree) (s29 s30 : Int) (h0G : World') (h100 h101 : Int) (h102 : List UInt8) (h103 h104 h2
 : List Tree) : Option (Tree × World') := evLK eQ 1 n 19 5 [1, 1, 1, 1, 0, 1, 0] [q] ⟨[AV.t (Tree.wp s0 0), AV.t (Tree.slc s1), AV.any, AV.any, AV.any, AV.href 1 0 0,
 AV.any, AV.any, AV.hsl 2 none, AV.nilS, AV.any, AV.any, AV.any, AV.any, AV.any, AV.any, AV.any, AV.any, AV.any, AV.any, AV.any, AV.any, AV.any, AV.any, AV.any, AV.any,
 AV.any, AV.any, AV.t (Tree.slc s28), AV.t (q4 s29), AV.t (q4 s30)] ++ anyL 129, [HObj.wld h0G, HObj.tre q0 [Tree.agg [q4 h100, q4 h101, Tree.str h102, Tree.slc h103,
 Tree.slc h104]], HObj.tre Sh.any h2]⟩ (onW eQ 19 K)

def S19x2 (s0 : Nat) (s1 s28 : List Tree) (s29 s30 : Int) (s31 : Bool) (h0G : World') (h100 h101 : Int) (h102 : List UInt8) (h103 h104 h2 : List Tree) : St := ⟨[AV.t
 (Tree.wp s0 0), AV.t (Tree.slc s1), AV.any, AV.any, AV.any, AV.href 1 0 0, AV.any, AV.any, AV.hsl 2 none, AV.nilS, AV.any, AV.any, AV.any, AV.any, AV.any, AV.any, AV.any,
 AV.any, AV.any, AV.any, AV.any, AV.any, AV.any, AV.any, AV.any, AV.any, AV.any, AV.any, AV.t (Tree.slc s28), AV.t (q4 s29), AV.t (q4 s30), AV.t (Tree.bool s31)] ++ anyL
 128, [HObj.wld h0G, HObj.tre q0 [Tree.agg [q4 h100, q4 h101, Tree.str h102, Tree.slc h103, Tree.slc h104]], HObj.tre Sh.any h2]⟩

def M19_0x3 (n q : Nat) (K : St → Option (Tree × World')) (s0 : Nat) (s1 s28 : List Tree) (s29 s30 : Int) (h0G : World') (h100 h101 : Int) (h102 : List UInt8) (h103 h104
 h2 h3 : List Tree) : Option (Tree × World') := evLK eQ 1 n 19 5 [1, 1, 1, 1, 0, 1, 0] [q] ⟨[AV.t (Tree.wp s0 0), AV.t (Tree.slc s1), AV.any, AV.any, AV.any, AV.href 1 0
 0, AV.any, AV.any, AV.hsl 2 none, AV.hsl 3 none, AV.any, AV.any, AV.any, AV.any, AV.any, AV.any, AV.any, AV.any, AV.any, AV.any, AV.any, AV.any, AV.any, AV.any, AV.any,
 AV.any, AV.any, AV.any, AV.t (Tree.slc s28), AV.t (q4 s29), AV.t (q4 s30)] ++ anyL 129, [HObj.wld h0G, HObj.tre q0 [Tree.agg [q4 h100, q4 h101, Tree.str h102, Tree.slc
 h103, Tree.slc h104]], HObj.froz Sh.any h2, HObj.tre Sh.any h3]⟩ (onW eQ 19 K)

def S19x3 (s0 : Nat) (s1 s28 : List Tree) (s29 s30 : Int) (s31 : Bool) (h0G : World') (h100 h101 : Int) (h102 : List UInt8) (h103 h104 h2 h3 : List Tree) : St := ⟨[AV.t
 (Tree.wp s0 0), AV.t (Tree.slc s1), AV.any, AV.any, AV.any, AV.href 1 0 0, AV.any, AV.any, AV.hsl 2 none, AV.hsl 3 none, AV.any, AV.any, AV.any, AV.any, AV.any, AV.any,
 AV.any, AV.any, AV.any, AV.any, AV.any, AV.any, AV.any, AV.any, AV.any, AV.any, AV.any, AV.any, AV.t (Tree.slc s28), AV.t (q4 s29), AV.t (q4 s30), AV.t (Tree.bool s31)]
 ++ anyL 128, [HObj.wld h0G, HObj.tre q0 [Tree.agg [q4 h100, q4 h101, Tree.str h102, Tree.slc h103, Tree.slc h104]], HObj.froz Sh.any h2, HObj.tre Sh.any h3]⟩

theorem w44 (n f : Nat) (G : World') : evWQ eQ n 44 [Tree.wp f 0] G = Option.bind (wcell G f 0) fun y => bif q8 y then Option.bind (wset G f 0 [q4 (IntKind.wrap
 IntKind.i64 (Tree.toInt y + 1))]) fun y => Option.bind (wcell y f 0) fun y_1 => bif q8 y_1 then some (Tree.wp (List.length y) 0, y ++ [WObj.cells [Tree.str [], q4
 (Tree.toInt y_1), Tree.slc []]]) else none else none := by kernel_rfl

theorem w45 (n : Nat) (s : List UInt8) (a b : Nat) (G : World') : evWQ eQ n 45 [Tree.str s, Tree.wp a 0, Tree.wp b 0] G = some (Tree.wp (List.length G) 0, G ++ [WObj.cells
 [Tree.str s, q4 0, Tree.slc [Tree.wp a 0, Tree.wp b 0]]]) := by kernel_rfl

theorem w47 (n f t : Nat) (G : World') : evWQ eQ n 47 [Tree.wp f 0, Tree.wp t 0] G = L47_0 n n f t G := by kernel_rfl

theorem v47_0 (n q s0 s1 : Nat) (h0G : World') : L47_0 n (Nat.succ q) s0 s1 h0G = Option.bind (wcell h0G s1 0) fun y => bif Sh.ok Sh.str y then bif Tree.toStr y == [] then
 Option.bind (wcell h0G s0 1) fun y => bif Sh.ok Sh.wm y then Option.bind (wcell h0G s1 1) fun y_1 => bif q8 y_1 then Option.bind (wlook KeyC.int h0G (Tree.wid y) (q4
 (Tree.toInt y_1)) Tree.nilp) fun y => bif Prod.fst y then bif Sh.ok Sh.wp (Prod.snd y) then L47_0 n q s0 (Tree.wid (Prod.snd y)) h0G else none else some (Tree.wp s1 0,
 h0G) else none else none else some (Tree.wp s1 0, h0G) else none := by kernel_rfl

theorem w46 (n f a b : Nat) (G : World') : evWQ eQ n 46 [Tree.wp f 0, Tree.wp a 0, Tree.wp b 0] G = Option.bind (evW eQ n 68 [Tree.wp f 0, Tree.wp a 0, Tree.wp b 0,
 Tree.wm (List.length G)] (G ++ [WObj.map []])) fun y => bif Sh.ok Sh.bool (Prod.fst y) then some (Tree.bool (Tree.toBool (Prod.fst y)), Prod.snd y) else none := by
 kernel_rfl

theorem w81 (n f : Nat) (k : Int) (t s : Nat) (G : World') : evWQ eQ n 81 [Tree.wp f 0, q4 k, Tree.wp t 0, Tree.wm s] G = Option.bind (evW eQ n 47 [Tree.wp f 0, Tree.wp t
 0] G) fun y => bif Sh.ok Sh.wp (Prod.fst y) then Option.bind (wcell (Prod.snd y) (Tree.wid (Prod.fst y)) 0) fun y_1 => bif Sh.ok Sh.str y_1 then bif Tree.toStr y_1 == []
 then Option.bind (wcell (Prod.snd y) (Tree.wid (Prod.fst y)) 1) fun y_2 => bif q8 y_2 then some (Tree.bool (Tree.toInt y_2 == k), Prod.snd y) else none else Option.bind
 (wlook KeyC.ptr (Prod.snd y) s (Tree.wp (Tree.wid (Prod.fst y)) 0) (Tree.bool false)) fun y_2 => bif Sh.ok Sh.bool (Prod.snd y_2) then bif Tree.toBool (Prod.snd y_2) then
 some (Tree.bool false, Prod.snd y) else Option.bind (wput KeyC.ptr (Prod.snd y) s (Tree.wp (Tree.wid (Prod.fst y)) 0) (Tree.bool true)) fun y_3 => Option.bind (wcell y_3
 (Tree.wid (Prod.fst y)) 2) fun y => bif Sh.ok Sh.slc y then Option.bind (evW eQ n 88 [Tree.slc (Tree.elems y), Tree.fn 89 [] [Tree.ptr (Tree.wp f 0) 0, Tree.ptr (q4 k) 0,
 Tree.ptr (Tree.wm s) 0]] y_3) fun y => bif Sh.ok Sh.bool (Prod.fst y) then some (Tree.bool (Tree.toBool (Prod.fst y)), Prod.snd y) else none else none else none else none
 else none := by kernel_rfl

theorem w89 (n x f : Nat) (k : Int) (s : Nat) (G : World') : evWQ eQ n 89 [Tree.wp x 0, Tree.ptr (Tree.wp f 0) 0, Tree.ptr (q4 k) 0, Tree.ptr (Tree.wm s) 0] G =
 Option.bind (evW eQ n 81 [Tree.wp f 0, q4 k, Tree.wp x 0, Tree.wm s] G) fun y => bif Sh.ok Sh.bool (Prod.fst y) then some (Tree.bool (Tree.toBool (Prod.fst y)), Prod.snd
 y) else none := by kernel_rfl

theorem w88 (n : Nat) (l p c : List Tree) (g : Nat) (G : World') : evWQ eQ n 88 [Tree.slc l, Tree.fn g p c] G = Option.bind (evW eQ n 96 [Tree.slc l, Tree.fn g p c] G) fun
 y => bif q8 (Prod.fst y) then some (Tree.bool (decide (Tree.toInt (Prod.fst y) ≥ 0)), Prod.snd y) else none := by kernel_rfl

theorem w96 (n : Nat) (l : List Tree) (f : Nat) (k : Int) (s : Nat) (G : World') : evWQ eQ n 96 [Tree.slc l, Tree.fn 89 [] [Tree.ptr (Tree.wp f 0) 0, Tree.ptr (q4 k) 0,
 Tree.ptr (Tree.wm s) 0]] G = L96_0 n n l f k s (↑(List.length l) : Int) 0 G := by kernel_rfl

theorem v96_0 (n q : Nat) (s0 : List Tree) (s1c_0 : Nat) (s1c_1 : Int) (s1c_2 : Nat) (s7 s8 : Int) (h0G : World') : L96_0 n (Nat.succ q) s0 s1c_0 s1c_1 s1c_2 s7 s8 h0G =
 bif decide (s8 < s7) then bif decide (0 ≤ s8) then Option.bind (nth s0 (Int.toNat s8)) fun y => bif Sh.ok Sh.wp y then Option.bind (evW eQ n 89 [Tree.wp (Tree.wid y) 0,
 Tree.ptr (Tree.wp s1c_0 0) 0, Tree.ptr (q4 s1c_1) 0, Tree.ptr (Tree.wm s1c_2) 0] h0G) fun y => bif Sh.ok Sh.bool (Prod.fst y) then bif Tree.toBool (Prod.fst y) then some
 (q4 s8, Prod.snd y) else L96_0 n q s0 s1c_0 s1c_1 s1c_2 s7 (IntKind.wrap IntKind.i64 (s8 + 1)) (Prod.snd y) else none else none else none else some (q4 (-1), h0G) := by
 kernel_rfl

theorem w68 (n f a b s : Nat) (G : World') : evWQ eQ n 68 [Tree.wp f 0, Tree.wp a 0, Tree.wp b 0, Tree.wm s] G = Option.bind (evW eQ n 47 [Tree.wp f 0, Tree.wp a 0] G) fun
 y => bif Sh.ok Sh.wp (Prod.fst y) then Option.bind (evW eQ n 47 [Tree.wp f 0, Tree.wp b 0] (Prod.snd y)) fun y_1 => bif Sh.ok Sh.wp (Prod.fst y_1) then bif Nat.beq
 (Tree.wid (Prod.fst y)) (Tree.wid (Prod.fst y_1)) && true then some (Tree.bool true, Prod.snd y_1) else Option.bind (wlook (KeyC.arr 2) (Prod.snd y_1) s (Tree.agg
 [Tree.wp (Tree.wid (Prod.fst y)) 0, Tree.wp (Tree.wid (Prod.fst y_1)) 0]) (Tree.bool false)) fun y_2 => bif Sh.ok Sh.bool (Prod.snd y_2) then bif Tree.toBool (Prod.snd
 y_2) then some (Tree.bool true, Prod.snd y_1) else Option.bind (wcell (Prod.snd y_1) (Tree.wid (Prod.fst y)) 0) fun y_3 => bif Sh.ok Sh.str y_3 then bif !Tree.toStr y_3
 == [] then Option.bind (wcell (Prod.snd y_1) (Tree.wid (Prod.fst y_1)) 0) fun y_4 => bif Sh.ok Sh.str y_4 then bif Tree.toStr y_4 == [] then Option.bind (wcell (Prod.snd
 y_1) (Tree.wid (Prod.fst y_1)) 0) fun y_5 => bif Sh.ok Sh.str y_5 then bif Tree.toStr y_5 == [] then Option.bind (wcell (Prod.snd y_1) (Tree.wid (Prod.fst y)) 0) fun y_6
 => bif Sh.ok Sh.str y_6 then bif Tree.toStr y_6 == [] then Option.bind (wcell (Prod.snd y_1) (Tree.wid (Prod.fst y_1)) 1) fun y_7 => bif q8 y_7 then Option.bind (wcell
 (Prod.snd y_1) (Tree.wid (Prod.fst y)) 1) fun y_8 => bif q8 y_8 then bif Tree.toInt y_7 == Tree.toInt y_8 then some (Tree.bool true, Prod.snd y_1) else Option.bind (wcell
 (Prod.snd y_1) (Tree.wid (Prod.fst y_1)) 1) fun y_9 => bif q8 y_9 then Option.bind (evW eQ n 81 [Tree.wp f 0, q4 (Tree.toInt y_9), Tree.wp (Tree.wid (Prod.fst y)) 0,
 Tree.wm (List.length (Prod.snd y_1))] (Prod.snd y_1 ++ [WObj.map []])) fun y_10 => bif Sh.ok Sh.bool (Prod.fst y_10) then bif Tree.toBool (Prod.fst y_10) then some
 (Tree.bool false, Prod.snd y_10) else Option.bind (wcell (Prod.snd y_10) f 1) fun y_11 => bif Sh.ok Sh.wm y_11 then Option.bind (wcell (Prod.snd y_10) (Tree.wid (Prod.fst
 y_1)) 1) fun y_12 => bif q8 y_12 then Option.bind (wput KeyC.int (Prod.snd y_10) (Tree.wid y_11) (q4 (Tree.toInt y_12)) (Tree.wp (Tree.wid (Prod.fst y)) 0)) fun y => some
 (Tree.bool true, y) else none else none else none else none else none else none else Option.bind (wcell (Prod.snd y_1) (Tree.wid (Prod.fst y_1)) 1) fun y_7 => bif q8 y_7
 then Option.bind (evW eQ n 81 [Tree.wp f 0, q4 (Tree.toInt y_7), Tree.wp (Tree.wid (Prod.fst y)) 0, Tree.wm (List.length (Prod.snd y_1))] (Prod.snd y_1 ++ [WObj.map []]))
 fun y_8 => bif Sh.ok Sh.bool (Prod.fst y_8) then bif Tree.toBool (Prod.fst y_8) then some (Tree.bool false, Prod.snd y_8) else Option.bind (wcell (Prod.snd y_8) f 1) fun
 y_9 => bif Sh.ok Sh.wm y_9 then Option.bind (wcell (Prod.snd y_8) (Tree.wid (Prod.fst y_1)) 1) fun y_10 => bif q8 y_10 then Option.bind (wput KeyC.int (Prod.snd y_8)
 (Tree.wid y_9) (q4 (Tree.toInt y_10)) (Tree.wp (Tree.wid (Prod.fst y)) 0)) fun y => some (Tree.bool true, y) else none else none else none else none else none else
 Option.bind (wcell (Prod.snd y_1) (Tree.wid (Prod.fst y_1)) 0) fun y_6 => bif Sh.ok Sh.str y_6 then Option.bind (wcell (Prod.snd y_1) (Tree.wid (Prod.fst y)) 0) fun y_7
 => bif Sh.ok Sh.str y_7 then bif !Tree.toStr y_6 == Tree.toStr y_7 then some (Tree.bool false, Prod.snd y_1) else Option.bind (wcell (Prod.snd y_1) (Tree.wid (Prod.fst
 y_1)) 2) fun y_8 => bif Sh.ok Sh.slc y_8 then L68_0 n n f (Tree.wid (Prod.fst y_1)) (Tree.wid (Prod.fst y)) s (↑(List.length (Tree.elems y_8)) : Int) 0 (Prod.snd y_1)
 else none else none else none else none else Option.bind (wcell (Prod.snd y_1) (Tree.wid (Prod.fst y)) 0) fun y_5 => bif Sh.ok Sh.str y_5 then bif Tree.toStr y_5 == []
 then Option.bind (wcell (Prod.snd y_1) (Tree.wid (Prod.fst y_1)) 0) fun y_6 => bif Sh.ok Sh.str y_6 then bif Tree.toStr y_6 == [] then Option.bind (wcell (Prod.snd y_1)
 (Tree.wid (Prod.fst y)) 1) fun y_7 => bif q8 y_7 then Option.bind (wcell (Prod.snd y_1) (Tree.wid (Prod.fst y_1)) 1) fun y_8 => bif q8 y_8 then bif Tree.toInt y_7 ==
 Tree.toInt y_8 then some (Tree.bool true, Prod.snd y_1) else Option.bind (wcell (Prod.snd y_1) (Tree.wid (Prod.fst y)) 1) fun y_9 => bif q8 y_9 then Option.bind (evW eQ n
 81 [Tree.wp f 0, q4 (Tree.toInt y_9), Tree.wp (Tree.wid (Prod.fst y_1)) 0, Tree.wm (List.length (Prod.snd y_1))] (Prod.snd y_1 ++ [WObj.map []])) fun y_10 => bif Sh.ok
 Sh.bool (Prod.fst y_10) then bif Tree.toBool (Prod.fst y_10) then some (Tree.bool false, Prod.snd y_10) else Option.bind (wcell (Prod.snd y_10) f 1) fun y_11 => bif Sh.ok
 Sh.wm y_11 then Option.bind (wcell (Prod.snd y_10) (Tree.wid (Prod.fst y)) 1) fun y => bif q8 y then Option.bind (wput KeyC.int (Prod.snd y_10) (Tree.wid y_11) (q4
 (Tree.toInt y)) (Tree.wp (Tree.wid (Prod.fst y_1)) 0)) fun y => some (Tree.bool true, y) else none else none else none else none else none else none else Option.bind
 (wcell (Prod.snd y_1) (Tree.wid (Prod.fst y)) 1) fun y_7 => bif q8 y_7 then Option.bind (evW eQ n 81 [Tree.wp f 0, q4 (Tree.toInt y_7), Tree.wp (Tree.wid (Prod.fst y_1))
 0, Tree.wm (List.length (Prod.snd y_1))] (Prod.snd y_1 ++ [WObj.map []])) fun y_8 => bif Sh.ok Sh.bool (Prod.fst y_8) then bif Tree.toBool (Prod.fst y_8) then some
 (Tree.bool false, Prod.snd y_8) else Option.bind (wcell (Prod.snd y_8) f 1) fun y_9 => bif Sh.ok Sh.wm y_9 then Option.bind (wcell (Prod.snd y_8) (Tree.wid (Prod.fst y))
 1) fun y => bif q8 y then Option.bind (wput KeyC.int (Prod.snd y_8) (Tree.wid y_9) (q4 (Tree.toInt y)) (Tree.wp (Tree.wid (Prod.fst y_1)) 0)) fun y => some (Tree.bool
 true, y) else none else none else none else none else none else Option.bind (wcell (Prod.snd y_1) (Tree.wid (Prod.fst y)) 0) fun y_6 => bif Sh.ok Sh.str y_6 then
 Option.bind (wcell (Prod.snd y_1) (Tree.wid (Prod.fst y_1)) 0) fun y_7 => bif Sh.ok Sh.str y_7 then bif !Tree.toStr y_6 == Tree.toStr y_7 then some (Tree.bool false,
 Prod.snd y_1) else Option.bind (wcell (Prod.snd y_1) (Tree.wid (Prod.fst y)) 2) fun y_8 => bif Sh.ok Sh.slc y_8 then L68_0 n n f (Tree.wid (Prod.fst y)) (Tree.wid
 (Prod.fst y_1)) s (↑(List.length (Tree.elems y_8)) : Int) 0 (Prod.snd y_1) else none else none else none else none else none else Option.bind (wcell (Prod.snd y_1)
 (Tree.wid (Prod.fst y)) 0) fun y_4 => bif Sh.ok Sh.str y_4 then bif Tree.toStr y_4 == [] then Option.bind (wcell (Prod.snd y_1) (Tree.wid (Prod.fst y_1)) 0) fun y_5 =>
 bif Sh.ok Sh.str y_5 then bif Tree.toStr y_5 == [] then Option.bind (wcell (Prod.snd y_1) (Tree.wid (Prod.fst y)) 1) fun y_6 => bif q8 y_6 then Option.bind (wcell
 (Prod.snd y_1) (Tree.wid (Prod.fst y_1)) 1) fun y_7 => bif q8 y_7 then bif Tree.toInt y_6 == Tree.toInt y_7 then some (Tree.bool true, Prod.snd y_1) else Option.bind
 (wcell (Prod.snd y_1) (Tree.wid (Prod.fst y)) 1) fun y_8 => bif q8 y_8 then Option.bind (evW eQ n 81 [Tree.wp f 0, q4 (Tree.toInt y_8), Tree.wp (Tree.wid (Prod.fst y_1))
 0, Tree.wm (List.length (Prod.snd y_1))] (Prod.snd y_1 ++ [WObj.map []])) fun y_9 => bif Sh.ok Sh.bool (Prod.fst y_9) then bif Tree.toBool (Prod.fst y_9) then some
 (Tree.bool false, Prod.snd y_9) else Option.bind (wcell (Prod.snd y_9) f 1) fun y_10 => bif Sh.ok Sh.wm y_10 then Option.bind (wcell (Prod.snd y_9) (Tree.wid (Prod.fst
 y)) 1) fun y => bif q8 y then Option.bind (wput KeyC.int (Prod.snd y_9) (Tree.wid y_10) (q4 (Tree.toInt y)) (Tree.wp (Tree.wid (Prod.fst y_1)) 0)) fun y => some
 (Tree.bool true, y) else none else none else none else none else none else none else Option.bind (wcell (Prod.snd y_1) (Tree.wid (Prod.fst y)) 1) fun y_6 => bif q8 y_6
 then Option.bind (evW eQ n 81 [Tree.wp f 0, q4 (Tree.toInt y_6), Tree.wp (Tree.wid (Prod.fst y_1)) 0, Tree.wm (List.length (Prod.snd y_1))] (Prod.snd y_1 ++ [WObj.map
 []])) fun y_7 => bif Sh.ok Sh.bool (Prod.fst y_7) then bif Tree.toBool (Prod.fst y_7) then some (Tree.bool false, Prod.snd y_7) else Option.bind (wcell (Prod.snd y_7) f
 1) fun y_8 => bif Sh.ok Sh.wm y_8 then Option.bind (wcell (Prod.snd y_7) (Tree.wid (Prod.fst y)) 1) fun y => bif q8 y then Option.bind (wput KeyC.int (Prod.snd y_7)
 (Tree.wid y_8) (q4 (Tree.toInt y)) (Tree.wp (Tree.wid (Prod.fst y_1)) 0)) fun y => some (Tree.bool true, y) else none else none else none else none else none else
 Option.bind (wcell (Prod.snd y_1) (Tree.wid (Prod.fst y)) 0) fun y_5 => bif Sh.ok Sh.str y_5 then Option.bind (wcell (Prod.snd y_1) (Tree.wid (Prod.fst y_1)) 0) fun y_6
 => bif Sh.ok Sh.str y_6 then bif !Tree.toStr y_5 == Tree.toStr y_6 then some (Tree.bool false, Prod.snd y_1) else Option.bind (wcell (Prod.snd y_1) (Tree.wid (Prod.fst
 y)) 2) fun y_7 => bif Sh.ok Sh.slc y_7 then L68_0 n n f (Tree.wid (Prod.fst y)) (Tree.wid (Prod.fst y_1)) s (↑(List.length (Tree.elems y_7)) : Int) 0 (Prod.snd y_1) else
 none else none else none else none else none else none else none else none := by kernel_rfl

theorem v68_0 (n q s0 s1 s2 s3 : Nat) (s91 s92 : Int) (h0G : World') : L68_0 n (Nat.succ q) s0 s1 s2 s3 s91 s92 h0G = bif decide (s92 < s91) then Option.bind (wcell h0G s1
 2) fun y => bif Sh.ok Sh.slc y then bif decide (0 ≤ s92) then Option.bind (nth (Tree.elems y) (Int.toNat s92)) fun y => bif Sh.ok Sh.wp y then Option.bind (wcell h0G s2
 2) fun y_1 => bif Sh.ok Sh.slc y_1 then bif decide (0 ≤ s92) then Option.bind (nth (Tree.elems y_1) (Int.toNat s92)) fun y_2 => bif Sh.ok Sh.wp y_2 then Option.bind (evW
 eQ n 68 [Tree.wp s0 0, Tree.wp (Tree.wid y) 0, Tree.wp (Tree.wid y_2) 0, Tree.wm s3] h0G) fun y => bif Sh.ok Sh.bool (Prod.fst y) then bif !Tree.toBool (Prod.fst y) then
 some (Tree.bool false, Prod.snd y) else L68_0 n q s0 s1 s2 s3 s91 (IntKind.wrap IntKind.i64 (s92 + 1)) (Prod.snd y) else none else none else none else none else none else
 none else none else Option.bind (wput (KeyC.arr 2) h0G s3 (Tree.agg [Tree.wp s1 0, Tree.wp s2 0]) (Tree.bool true)) fun y => some (Tree.bool true, y) := by kernel_rfl

theorem w20 (n f t m l : Nat) (G : World') : evWQ eQ n 20 [Tree.wp f 0, Tree.wp t 0, Tree.wm m, Tree.wp l 0] G = Option.bind (evW eQ n 47 [Tree.wp f 0, Tree.wp t 0] G) fun
 y => bif Sh.ok Sh.wp (Prod.fst y) then Option.bind (wcell (Prod.snd y) l 0) fun y_1 => bif q8 y_1 then Option.bind (wset (Prod.snd y) l 0 [q4 (IntKind.wrap IntKind.i64
 (Tree.toInt y_1 - 1))]) fun y_2 => Option.bind (wcell y_2 l 0) fun y_3 => bif q8 y_3 then bif decide (Tree.toInt y_3 < 0) then some (Tree.tup [Tree.agg [Tree.str [],
 Tree.slc []], Tree.bool false], y_2) else Option.bind (wcell y_2 (Tree.wid (Prod.fst y)) 0) fun y_4 => bif Sh.ok Sh.str y_4 then bif Tree.toStr y_4 == [] then Option.bind
 (wcell y_2 (Tree.wid (Prod.fst y)) 1) fun y_5 => bif q8 y_5 then Option.bind (wlook KeyC.int y_2 m (q4 (Tree.toInt y_5)) (Tree.str [])) fun y_6 => bif Prod.fst y_6 then
 bif Sh.ok Sh.str (Prod.snd y_6) then Option.bind (wcell y_2 (Tree.wid (Prod.fst y)) 1) fun y => bif q8 y then Option.bind (wlook KeyC.int y_2 m (q4 (Tree.toInt y))
 (Tree.str [])) fun y => bif Sh.ok Sh.str (Prod.snd y) then some (Tree.tup [Tree.agg [Tree.str (Tree.toStr (Prod.snd y)), Tree.slc []], Tree.bool true], y_2) else none
 else none else none else Option.bind (wcell y_2 (Tree.wid (Prod.fst y)) 1) fun y_7 => bif q8 y_7 then Option.bind (wlenM y_2 m) fun y_8 => Option.bind (evP eQ n 48 [q4
 (↑y_8 : Int)]) fun y_9 => bif Sh.ok Sh.str y_9 then bif decide (1 + List.length (Tree.toStr y_9) ≤ 140737488355328) then Option.bind (wput KeyC.int y_2 m (q4 (Tree.toInt
 y_7)) (Tree.str ([63] ++ Tree.toStr y_9))) fun y_10 => Option.bind (wcell y_10 (Tree.wid (Prod.fst y)) 1) fun y => bif q8 y then Option.bind (wlook KeyC.int y_10 m (q4
 (Tree.toInt y)) (Tree.str [])) fun y => bif Sh.ok Sh.str (Prod.snd y) then some (Tree.tup [Tree.agg [Tree.str (Tree.toStr (Prod.snd y)), Tree.slc []], Tree.bool true],
 y_10) else none else none else none else none else none else none else Option.bind (wcell y_2 (Tree.wid (Prod.fst y)) 0) fun y_5 => bif Sh.ok Sh.str y_5 then Option.bind
 (wcell y_2 (Tree.wid (Prod.fst y)) 2) fun y => bif Sh.ok Sh.slc y then L20_0 n n f m l (Tree.elems y) (↑(List.length (Tree.elems y)) : Int) 0 y_2 [] (Tree.toStr y_5) else
 none else none else none else none else none else none := by kernel_rfl

theorem v20_0 (n q s0 s2 s3 : Nat) (s70 : List Tree) (s71 s72 : Int) (h0G : World') (h100 h200 : List UInt8) : L20_0 n (Nat.succ q) s0 s2 s3 s70 s71 s72 h0G h100 h200 =
 bif decide (s72 < s71) then bif decide (0 ≤ s72) then Option.bind (nth s70 (Int.toNat s72)) fun y => bif Sh.ok Sh.wp y then Option.bind (evW eQ n 20 [Tree.wp s0 0,
 Tree.wp (Tree.wid y) 0, Tree.wm s2, Tree.wp s3 0] h0G) fun y => bif Sh.ok (Sh.tup [q2, Sh.bool]) (Prod.fst y) then bif !Tree.toBool (q6 (List.tail (Tree.tupl (Prod.fst
 y)))) then some (Tree.tup [Tree.agg [Tree.str [], Tree.slc []], Tree.bool false], Prod.snd y) else L20_0b n q s0 s2 s3 s70 s71 (IntKind.wrap IntKind.i64 (s72 + 1))
 (Prod.snd y) h100 h200 [tQ' (q6 (Tree.tupl (Prod.fst y)))] else none else none else none else some (Tree.tup [Tree.agg [Tree.str h200, Tree.slc []], Tree.bool true], h0G)
 := by kernel_rfl

theorem v20_0b (n q s0 s2 s3 : Nat) (s70 : List Tree) (s71 s72 : Int) (h0G : World') (h100 h200 : List UInt8) (h3 : List Tree) : L20_0b n (Nat.succ q) s0 s2 s3 s70 s71 s72
 h0G h100 h200 h3 = bif decide (s72 < s71) then bif decide (0 ≤ s72) then Option.bind (nth s70 (Int.toNat s72)) fun y => bif Sh.ok Sh.wp y then Option.bind (evW eQ n 20
 [Tree.wp s0 0, Tree.wp (Tree.wid y) 0, Tree.wm s2, Tree.wp s3 0] h0G) fun y => bif Sh.ok (Sh.tup [q2, Sh.bool]) (Prod.fst y) then bif !Tree.toBool (q6 (List.tail
 (Tree.tupl (Prod.fst y)))) then some (Tree.tup [Tree.agg [Tree.str [], Tree.slc []], Tree.bool false], Prod.snd y) else bif true && Nat.ble ((List.length h3 + 1) * 40)
 140737488355328 then L20_0b n q s0 s2 s3 s70 s71 (IntKind.wrap IntKind.i64 (s72 + 1)) (Prod.snd y) h100 h200 (h3 ++ [tQ' (q6 (Tree.tupl (Prod.fst y)))]) else none else
 none else none else none else some (Tree.tup [Tree.agg [Tree.str h200, Tree.slc h3], Tree.bool true], h0G) := by kernel_rfl

theorem w19 (n f : Nat) (ctx : List Tree) (o u : Int) (tn : List UInt8) (tl l : List Tree) (G : World') : evWQ eQ n 19 [Tree.wp f 0, Tree.slc ctx, Tree.agg [q4 o, q4 u,
 Tree.str tn, Tree.slc tl, Tree.slc l]] G = bif o == 2 then Option.bind (runFn eQ n 43 [AV.t (Tree.slc ctx)] []) fun y => bif isClip (Prod.fst y) then Option.bind (evW eQ
 n 44 [Tree.wp f 0] G) fun y_1 => bif Sh.ok Sh.wp (Prod.fst y_1) then bif firstOk Sh.any (clipOf (Prod.fst y)) && (true && Nat.ble ((List.length (clipOf (Prod.fst y)) + 1)
 * 8) 140737488355328) then evLW eQ n 19 [1, 1, 1, 1, 0, 1, 0] [n] ⟨[AV.t (Tree.wp f 0), AV.t (Tree.slc ctx), AV.any, AV.any, AV.any, AV.href 1 0 0, AV.any, AV.any, AV.hsl
 2 none, AV.nilS, AV.any, AV.any, AV.any, AV.any, AV.any, AV.any, AV.any, AV.any, AV.any, AV.any, AV.any, AV.any, AV.any, AV.any, AV.any, AV.any, AV.any, AV.any, AV.t
 (Tree.slc l), AV.t (q4 (↑(List.length l) : Int)), AV.t (q4 0)] ++ anyL 129, [HObj.wld (Prod.snd y_1), HObj.tre q0 [Tree.agg [q4 o, q4 u, Tree.str tn, Tree.slc tl,
 Tree.slc l]], HObj.tre Sh.any (clipOf (Prod.fst y) ++ [Tree.wp (Tree.wid (Prod.fst y_1)) 0])]⟩ else none else none else none else evLW eQ n 19 [1, 1, 1, 1, 0, 1, 0] [n]
 ⟨[AV.t (Tree.wp f 0), AV.t (Tree.slc ctx), AV.any, AV.any, AV.any, AV.href 1 0 0, AV.any, AV.any, AV.t (Tree.slc ctx), AV.nilS, AV.any, AV.any, AV.any, AV.any, AV.any,
 AV.any, AV.any, AV.any, AV.any, AV.any, AV.any, AV.any, AV.any, AV.any, AV.any, AV.any, AV.any, AV.any, AV.t (Tree.slc l), AV.t (q4 (↑(List.length l) : Int)), AV.t (q4
 0)] ++ anyL 129, [HObj.wld G, HObj.tre q0 [Tree.agg [q4 o, q4 u, Tree.str tn, Tree.slc tl, Tree.slc l]]]⟩ := by kernel_rfl

theorem k19_0 (n q : Nat) (K : St → Option (Tree × World')) (s0 : Nat) (s1 s8 s28 : List Tree) (s29 s30 : Int) (h0G : World') (h100 h101 : Int) (h102 : List UInt8) (h103
 h104 : List Tree) : M19_0 n (Nat.succ q) K s0 s1 s8 s28 s29 s30 h0G h100 h101 h102 h103 h104 = bif decide (s30 < s29) then bif decide (0 ≤ s30) then Option.bind (nth s28
 (Int.toNat s30)) fun y => bif Sh.ok q0 y then Option.bind (evW eQ n 19 [Tree.wp s0 0, Tree.slc s8, lQ y] h0G) fun y => bif Sh.ok (Sh.tup [Sh.any, Sh.bool]) (Prod.fst y)
 then bif !Tree.toBool (q6 (List.tail (Tree.tupl (Prod.fst y)))) then some (Tree.tup [Tree.nilp, Tree.bool false], Prod.snd y) else bif Tree.isSc (q6 (Tree.tupl (Prod.fst
 y))) then M19_0b n q K s0 s1 s8 s28 s29 (IntKind.wrap IntKind.i64 (s30 + 1)) (Prod.snd y) h100 h101 h102 h103 h104 [q6 (Tree.tupl (Prod.fst y))] else none else none else
 none else none else K (S19 s0 s1 s8 s28 s29 s30 false h0G h100 h101 h102 h103 h104) := by kernel_rfl

theorem z19 (n s0 : Nat) (s1 s8 s28 : List Tree) (s29 s30 : Int) (s31 : Bool) (h0G : World') (h100 h101 : Int) (h102 : List UInt8) (h103 h104 : List Tree) : evZW eQ n 19 5
 (S19 s0 s1 s8 s28 s29 s30 s31 h0G h100 h101 h102 h103 h104) = bif h100 == 1 then bif decide (0 ≤ IntKind.wrap IntKind.i64 (IntKind.wrap IntKind.i64 ((↑(List.length s1) :
 Int) - 1) - h101)) then Option.bind (nth s1 (Int.toNat (IntKind.wrap IntKind.i64 (IntKind.wrap IntKind.i64 ((↑(List.length s1) : Int) - 1) - h101)))) fun y => bif Sh.ok
 Sh.wp y then some (Tree.tup [Tree.wp (Tree.wid y) 0, Tree.bool true], h0G ++ [WObj.cells [Tree.str [78, 97, 116], q4 0, Tree.slc []]]) else none else none else bif h100
 == 2 then bif decide (0 ≤ IntKind.wrap IntKind.i64 ((↑(List.length s8) : Int) - 1)) then Option.bind (nth s8 (Int.toNat (IntKind.wrap IntKind.i64 ((↑(List.length s8) :
 Int) - 1)))) fun y => bif Sh.ok Sh.wp y then none else none else none else bif h100 == 3 then Option.bind (evW eQ n 44 [Tree.wp s0 0] (h0G ++ [WObj.cells [Tree.str [78,
 97, 116], q4 0, Tree.slc []]])) fun y => bif Sh.ok Sh.wp (Prod.fst y) then none else none else bif h100 == 5 then none else bif h100 == 6 then none else bif h100 == 7
 then none else bif h100 == 8 then Option.bind (evW eQ n 44 [Tree.wp s0 0] (h0G ++ [WObj.cells [Tree.str [78, 97, 116], q4 0, Tree.slc []]])) fun y => bif Sh.ok Sh.wp
 (Prod.fst y) then Option.bind (evW eQ n 44 [Tree.wp s0 0] (Prod.snd y)) fun y_1 => bif Sh.ok Sh.wp (Prod.fst y_1) then bif decide (0 ≤ IntKind.wrap IntKind.i64 (h100 -
 8)) && (decide (IntKind.wrap IntKind.i64 (h100 - 8) < (↑2 : Int)) && true) then Option.bind (nth [Tree.wp (Tree.wid (Prod.fst y)) 0, Tree.wp (Tree.wid (Prod.fst y_1)) 0]
 (Int.toNat (IntKind.wrap IntKind.i64 (h100 - 8)))) fun y => bif Sh.ok Sh.wp y then none else none else none else none else none else bif h100 == 9 then Option.bind (evW
 eQ n 44 [Tree.wp s0 0] (h0G ++ [WObj.cells [Tree.str [78, 97, 116], q4 0, Tree.slc []]])) fun y => bif Sh.ok Sh.wp (Prod.fst y) then Option.bind (evW eQ n 44 [Tree.wp s0
 0] (Prod.snd y)) fun y_1 => bif Sh.ok Sh.wp (Prod.fst y_1) then bif decide (0 ≤ IntKind.wrap IntKind.i64 (h100 - 8)) && (decide (IntKind.wrap IntKind.i64 (h100 - 8) < (↑2
 : Int)) && true) then Option.bind (nth [Tree.wp (Tree.wid (Prod.fst y)) 0, Tree.wp (Tree.wid (Prod.fst y_1)) 0] (Int.toNat (IntKind.wrap IntKind.i64 (h100 - 8)))) fun y
 => bif Sh.ok Sh.wp y then none else none else none else none else none else some (Tree.tup [Tree.wp (List.length h0G) 0, Tree.bool true], h0G ++ [WObj.cells [Tree.str
 [78, 97, 116], q4 0, Tree.slc []]]) := by kernel_rfl

theorem k19_0b (n q : Nat) (K : St → Option (Tree × World')) (s0 : Nat) (s1 s8 s28 : List Tree) (s29 s30 : Int) (h0G : World') (h100 h101 : Int) (h102 : List UInt8) (h103
 h104 h2 : List Tree) : M19_0b n (Nat.succ q) K s0 s1 s8 s28 s29 s30 h0G h100 h101 h102 h103 h104 h2 = bif decide (s30 < s29) then bif decide (0 ≤ s30) then Option.bind
 (nth s28 (Int.toNat s30)) fun y => bif Sh.ok q0 y then Option.bind (evW eQ n 19 [Tree.wp s0 0, Tree.slc s8, lQ y] h0G) fun y => bif Sh.ok (Sh.tup [Sh.any, Sh.bool])
 (Prod.fst y) then bif !Tree.toBool (q6 (List.tail (Tree.tupl (Prod.fst y)))) then some (Tree.tup [Tree.nilp, Tree.bool false], Prod.snd y) else bif Tree.isSc (q6
 (Tree.tupl (Prod.fst y))) then bif true && Nat.ble ((List.length h2 + 1) * 8) 140737488355328 then M19_0b n q K s0 s1 s8 s28 s29 (IntKind.wrap IntKind.i64 (s30 + 1))
 (Prod.snd y) h100 h101 h102 h103 h104 (h2 ++ [q6 (Tree.tupl (Prod.fst y))]) else none else none else none else none else none else K (S19x1 s0 s1 s8 s28 s29 s30 false h0G
 h100 h101 h102 h103 h104 h2) := by kernel_rfl

theorem z19x1 (n s0 : Nat) (s1 s8 s28 : List Tree) (s29 s30 : Int) (s31 : Bool) (h0G : World') (h100 h101 : Int) (h102 : List UInt8) (h103 h104 h2 : List Tree) : evZW eQ n
 19 5 (S19x1 s0 s1 s8 s28 s29 s30 s31 h0G h100 h101 h102 h103 h104 h2) = bif h100 == 1 then bif decide (0 ≤ IntKind.wrap IntKind.i64 (IntKind.wrap IntKind.i64
 ((↑(List.length s1) : Int) - 1) - h101)) then Option.bind (nth s1 (Int.toNat (IntKind.wrap IntKind.i64 (IntKind.wrap IntKind.i64 ((↑(List.length s1) : Int) - 1) -
 h101)))) fun y => bif Sh.ok Sh.wp y then some (Tree.tup [Tree.wp (Tree.wid y) 0, Tree.bool true], h0G ++ [WObj.cells [Tree.str [78, 97, 116], q4 0, Tree.slc []]]) else
 none else none else bif h100 == 2 then bif decide (0 ≤ IntKind.wrap IntKind.i64 ((↑(List.length s8) : Int) - 1)) then Option.bind (nth s8 (Int.toNat (IntKind.wrap
 IntKind.i64 ((↑(List.length s8) : Int) - 1)))) fun y => bif Sh.ok Sh.wp y then bif true && (decide (0 < (↑(List.length h2) : Int)) && true) then Option.bind (nth h2 0)
 fun y_1 => bif Sh.ok Sh.wp y_1 then Option.bind (evW eQ n 45 [Tree.str [84, 111], Tree.wp (Tree.wid y) 0, Tree.wp (Tree.wid y_1) 0] (h0G ++ [WObj.cells [Tree.str [78, 97,
 116], q4 0, Tree.slc []]])) fun y => bif Sh.ok Sh.wp (Prod.fst y) then some (Tree.tup [Tree.wp (Tree.wid (Prod.fst y)) 0, Tree.bool true], Prod.snd y) else none else none
 else none else none else none else bif h100 == 3 then Option.bind (evW eQ n 44 [Tree.wp s0 0] (h0G ++ [WObj.cells [Tree.str [78, 97, 116], q4 0, Tree.slc []]])) fun y =>
 bif Sh.ok Sh.wp (Prod.fst y) then bif true && (decide (0 < (↑(List.length h2) : Int)) && true) then Option.bind (nth h2 0) fun y_1 => bif Sh.ok Sh.wp y_1 then bif true &&
 (decide (1 < (↑(List.length h2) : Int)) && true) then Option.bind (nth h2 1) fun y_2 => bif Sh.ok Sh.wp y_2 then Option.bind (evW eQ n 45 [Tree.str [84, 111], Tree.wp
 (Tree.wid y_2) 0, Tree.wp (Tree.wid (Prod.fst y)) 0] (Prod.snd y)) fun y_3 => bif Sh.ok Sh.wp (Prod.fst y_3) then Option.bind (evW eQ n 46 [Tree.wp s0 0, Tree.wp
 (Tree.wid y_1) 0, Tree.wp (Tree.wid (Prod.fst y_3)) 0] (Prod.snd y_3)) fun y_4 => bif Sh.ok Sh.bool (Prod.fst y_4) then some (Tree.tup [Tree.wp (Tree.wid (Prod.fst y)) 0,
 Tree.bool (Tree.toBool (Prod.fst y_4))], Prod.snd y_4) else none else none else none else none else none else none else none else bif h100 == 5 then bif true && (decide
 (0 < (↑(List.length h2) : Int)) && true) then Option.bind (nth h2 0) fun y => bif Sh.ok Sh.wp y then Option.bind (evW eQ n 46 [Tree.wp s0 0, Tree.wp (Tree.wid y) 0,
 Tree.wp (List.length h0G) 0] (h0G ++ [WObj.cells [Tree.str [78, 97, 116], q4 0, Tree.slc []]])) fun y => bif Sh.ok Sh.bool (Prod.fst y) then some (Tree.tup [Tree.wp
 (List.length h0G) 0, Tree.bool (Tree.toBool (Prod.fst y))], Prod.snd y) else none else none else none else bif h100 == 6 then bif true && (decide (2 < (↑(List.length h2)
 : Int)) && true) then Option.bind (nth h2 2) fun y => bif Sh.ok Sh.wp y then bif true && (decide (0 < (↑(List.length h2) : Int)) && true) then Option.bind (nth h2 0) fun
 y_1 => bif Sh.ok Sh.wp y_1 then Option.bind (evW eQ n 46 [Tree.wp s0 0, Tree.wp (Tree.wid y_1) 0, Tree.wp (List.length h0G) 0] (h0G ++ [WObj.cells [Tree.str [78, 97,
 116], q4 0, Tree.slc []]])) fun y_2 => bif Sh.ok Sh.bool (Prod.fst y_2) then bif Tree.toBool (Prod.fst y_2) then bif true && (decide (1 < (↑(List.length h2) : Int)) &&
 true) then Option.bind (nth h2 1) fun y_3 => bif Sh.ok Sh.wp y_3 then bif true && (decide (2 < (↑(List.length h2) : Int)) && true) then Option.bind (nth h2 2) fun y_4 =>
 bif Sh.ok Sh.wp y_4 then bif true && (decide (2 < (↑(List.length h2) : Int)) && true) then Option.bind (nth h2 2) fun y_5 => bif Sh.ok Sh.wp y_5 then Option.bind (evW eQ
 n 45 [Tree.str [84, 111], Tree.wp (Tree.wid y_4) 0, Tree.wp (Tree.wid y_5) 0] (Prod.snd y_2)) fun y_6 => bif Sh.ok Sh.wp (Prod.fst y_6) then Option.bind (evW eQ n 46
 [Tree.wp s0 0, Tree.wp (Tree.wid y_3) 0, Tree.wp (Tree.wid (Prod.fst y_6)) 0] (Prod.snd y_6)) fun y_7 => bif Sh.ok Sh.bool (Prod.fst y_7) then some (Tree.tup [Tree.wp
 (Tree.wid y) 0, Tree.bool (Tree.toBool (Prod.fst y_7))], Prod.snd y_7) else none else none else none else none else none else none else none else none else some (Tree.tup
 [Tree.wp (Tree.wid y) 0, Tree.bool false], Prod.snd y_2) else none else none else none else none else none else bif h100 == 7 then bif true && (decide (0 < (↑(List.length
 h2) : Int)) && true) then Option.bind (nth h2 0) fun y => bif Sh.ok Sh.wp y then bif true && (decide (1 < (↑(List.length h2) : Int)) && true) then Option.bind (nth h2 1)
 fun y_1 => bif Sh.ok Sh.wp y_1 then Option.bind (evW eQ n 45 [Tree.str [80, 97, 105, 114], Tree.wp (Tree.wid y) 0, Tree.wp (Tree.wid y_1) 0] (h0G ++ [WObj.cells [Tree.str
 [78, 97, 116], q4 0, Tree.slc []]])) fun y => bif Sh.ok Sh.wp (Prod.fst y) then some (Tree.tup [Tree.wp (Tree.wid (Prod.fst y)) 0, Tree.bool true], Prod.snd y) else none
 else none else none else none else none else bif h100 == 8 then Option.bind (evW eQ n 44 [Tree.wp s0 0] (h0G ++ [WObj.cells [Tree.str [78, 97, 116], q4 0, Tree.slc []]]))
 fun y => bif Sh.ok Sh.wp (Prod.fst y) then Option.bind (evW eQ n 44 [Tree.wp s0 0] (Prod.snd y)) fun y_1 => bif Sh.ok Sh.wp (Prod.fst y_1) then bif decide (0 ≤
 IntKind.wrap IntKind.i64 (h100 - 8)) && (decide (IntKind.wrap IntKind.i64 (h100 - 8) < (↑2 : Int)) && true) then Option.bind (nth [Tree.wp (Tree.wid (Prod.fst y)) 0,
 Tree.wp (Tree.wid (Prod.fst y_1)) 0] (Int.toNat (IntKind.wrap IntKind.i64 (h100 - 8)))) fun y_2 => bif Sh.ok Sh.wp y_2 then bif true && (decide (0 < (↑(List.length h2) :
 Int)) && true) then Option.bind (nth h2 0) fun y_3 => bif Sh.ok Sh.wp y_3 then Option.bind (evW eQ n 45 [Tree.str [80, 97, 105, 114], Tree.wp (Tree.wid (Prod.fst y)) 0,
 Tree.wp (Tree.wid (Prod.fst y_1)) 0] (Prod.snd y_1)) fun y => bif Sh.ok Sh.wp (Prod.fst y) then Option.bind (evW eQ n 46 [Tree.wp s0 0, Tree.wp (Tree.wid y_3) 0, Tree.wp
 (Tree.wid (Prod.fst y)) 0] (Prod.snd y)) fun y => bif Sh.ok Sh.bool (Prod.fst y) then some (Tree.tup [Tree.wp (Tree.wid y_2) 0, Tree.bool (Tree.toBool (Prod.fst y))],
 Prod.snd y) else none else none else none else none else none else none else none else none else bif h100 == 9 then Option.bind (evW eQ n 44 [Tree.wp s0 0] (h0G ++
 [WObj.cells [Tree.str [78, 97, 116], q4 0, Tree.slc []]])) fun y => bif Sh.ok Sh.wp (Prod.fst y) then Option.bind (evW eQ n 44 [Tree.wp s0 0] (Prod.snd y)) fun y_1 => bif
 Sh.ok Sh.wp (Prod.fst y_1) then bif decide (0 ≤ IntKind.wrap IntKind.i64 (h100 - 8)) && (decide (IntKind.wrap IntKind.i64 (h100 - 8) < (↑2 : Int)) && true) then
 Option.bind (nth [Tree.wp (Tree.wid (Prod.fst y)) 0, Tree.wp (Tree.wid (Prod.fst y_1)) 0] (Int.toNat (IntKind.wrap IntKind.i64 (h100 - 8)))) fun y_2 => bif Sh.ok Sh.wp
 y_2 then bif true && (decide (0 < (↑(List.length h2) : Int)) && true) then Option.bind (nth h2 0) fun y_3 => bif Sh.ok Sh.wp y_3 then Option.bind (evW eQ n 45 [Tree.str
 [80, 97, 105, 114], Tree.wp (Tree.wid (Prod.fst y)) 0, Tree.wp (Tree.wid (Prod.fst y_1)) 0] (Prod.snd y_1)) fun y => bif Sh.ok Sh.wp (Prod.fst y) then Option.bind (evW eQ
 n 46 [Tree.wp s0 0, Tree.wp (Tree.wid y_3) 0, Tree.wp (Tree.wid (Prod.fst y)) 0] (Prod.snd y)) fun y => bif Sh.ok Sh.bool (Prod.fst y) then some (Tree.tup [Tree.wp
 (Tree.wid y_2) 0, Tree.bool (Tree.toBool (Prod.fst y))], Prod.snd y) else none else none else none else none else none else none else none else none else some (Tree.tup
 [Tree.wp (List.length h0G) 0, Tree.bool true], h0G ++ [WObj.cells [Tree.str [78, 97, 116], q4 0, Tree.slc []]]) := by kernel_rfl

theorem k19_0c (n q : Nat) (K : St → Option (Tree × World')) (s0 : Nat) (s1 s28 : List Tree) (s29 s30 : Int) (h0G : World') (h100 h101 : Int) (h102 : List UInt8) (h103
 h104 h2 : List Tree) : M19_0c n (Nat.succ q) K s0 s1 s28 s29 s30 h0G h100 h101 h102 h103 h104 h2 = bif decide (s30 < s29) then bif decide (0 ≤ s30) then Option.bind (nth
 s28 (Int.toNat s30)) fun y => bif Sh.ok q0 y then Option.bind (evW eQ n 19 [Tree.wp s0 0, Tree.slc h2, lQ y] h0G) fun y => bif Sh.ok (Sh.tup [Sh.any, Sh.bool]) (Prod.fst
 y) then bif !Tree.toBool (q6 (List.tail (Tree.tupl (Prod.fst y)))) then some (Tree.tup [Tree.nilp, Tree.bool false], Prod.snd y) else bif Tree.isSc (q6 (Tree.tupl
 (Prod.fst y))) then M19_0x3 n q K s0 s1 s28 s29 (IntKind.wrap IntKind.i64 (s30 + 1)) (Prod.snd y) h100 h101 h102 h103 h104 h2 [q6 (Tree.tupl (Prod.fst y))] else none else
 none else none else none else K (S19x2 s0 s1 s28 s29 s30 false h0G h100 h101 h102 h103 h104 h2) := by kernel_rfl

theorem k19_0x3 (n q : Nat) (K : St → Option (Tree × World')) (s0 : Nat) (s1 s28 : List Tree) (s29 s30 : Int) (h0G : World') (h100 h101 : Int) (h102 : List UInt8) (h103
 h104 h2 h3 : List Tree) : M19_0x3 n (Nat.succ q) K s0 s1 s28 s29 s30 h0G h100 h101 h102 h103 h104 h2 h3 = bif decide (s30 < s29) then bif decide (0 ≤ s30) then
 Option.bind (nth s28 (Int.toNat s30)) fun y => bif Sh.ok q0 y then Option.bind (evW eQ n 19 [Tree.wp s0 0, Tree.slc h2, lQ y] h0G) fun y => bif Sh.ok (Sh.tup [Sh.any,
 Sh.bool]) (Prod.fst y) then bif !Tree.toBool (q6 (List.tail (Tree.tupl (Prod.fst y)))) then some (Tree.tup [Tree.nilp, Tree.bool false], Prod.snd y) else bif Tree.isSc
 (q6 (Tree.tupl (Prod.fst y))) then bif true && Nat.ble ((List.length h3 + 1) * 8) 140737488355328 then M19_0x3 n q K s0 s1 s28 s29 (IntKind.wrap IntKind.i64 (s30 + 1))
 (Prod.snd y) h100 h101 h102 h103 h104 h2 (h3 ++ [q6 (Tree.tupl (Prod.fst y))]) else none else none else none else none else none else K (S19x3 s0 s1 s28 s29 s30 false h0G
 h100 h101 h102 h103 h104 h2 h3) := by kernel_rfl

theorem w6 (n : Nat) (o u : Int) (tn : List UInt8) (tl l : List Tree) (G : World') : evWQ eQ n 6 [Tree.agg [q4 o, q4 u, Tree.str tn, Tree.slc tl, Tree.slc l]] G =
 Option.bind (evP eQ n 15 [Tree.agg [q4 o, q4 u, Tree.str tn, Tree.slc tl, Tree.slc l]]) fun y => bif Sh.ok Sh.bool y then bif !Tree.toBool y then some (Tree.tup [Tree.agg
 [Tree.str [], Tree.slc []], q4 4], G) else Option.bind (evP eQ n 17 [Tree.agg [q4 o, q4 u, Tree.str tn, Tree.slc tl, Tree.slc l]]) fun y => bif Sh.ok q0 y then
 Option.bind (evP eQ n 16 [lQ y]) fun y => bif Sh.ok Sh.bool y then bif !Tree.toBool y then some (Tree.tup [Tree.agg [Tree.str [], Tree.slc []], q4 4], G) else Option.bind
 (evP eQ n 18 [Tree.agg [q4 o, q4 u, Tree.str tn, Tree.slc tl, Tree.slc l], q4 0]) fun y => bif Sh.ok Sh.bool y then bif !Tree.toBool y then some (Tree.tup [Tree.agg
 [Tree.str [], Tree.slc []], q4 4], G) else Option.bind (evW eQ n 19 [Tree.wp (List.length (G ++ [WObj.map []])) 0, Tree.slc [], Tree.agg [q4 o, q4 u, Tree.str tn,
 Tree.slc tl, Tree.slc l]] (G ++ [WObj.map []] ++ [WObj.cells [q4 0, Tree.wm (List.length G)]])) fun y => bif Sh.ok (Sh.tup [Sh.any, Sh.bool]) (Prod.fst y) then bif
 !Tree.toBool (q6 (List.tail (Tree.tupl (Prod.fst y)))) then some (Tree.tup [Tree.agg [Tree.str [], Tree.slc []], q4 250], Prod.snd y) else Option.bind (wset (Prod.snd y
 ++ [WObj.cells [q4 0]]) (List.length (Prod.snd y)) 0 [q4 200]) fun y_1 => Option.bind (evW eQ n 20 [Tree.wp (List.length (G ++ [WObj.map []])) 0, q6 (Tree.tupl (Prod.fst
 y)), Tree.wm (List.length y_1), Tree.wp (List.length (Prod.snd y)) 0] (y_1 ++ [WObj.map []])) fun y => bif Sh.ok (Sh.tup [q2, Sh.bool]) (Prod.fst y) then bif !Tree.toBool
 (q6 (List.tail (Tree.tupl (Prod.fst y)))) then some (Tree.tup [Tree.agg [Tree.str [], Tree.slc []], q4 2], Prod.snd y) else some (Tree.tup [tQ' (q6 (Tree.tupl (Prod.fst
 y))), q4 0], Prod.snd y) else none else none else none else none else none else none := by kernel_rfl


end Go.Proofs.Cw.Si
end
