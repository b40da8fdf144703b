/-
  SIMPLE, the plain part: sizes, what is well formed, equality, types.
-/
import Derived.Test.YtkfcancichadgaaSaData
set_option linter.unusedSimpArgs false
set_option linter.unusedVariables false
namespace Go.Proofs.Aw.Sa
open Go.Proofs

def sNat : List UInt8 := [78, 97, 116]
def sTo : List UInt8 := [84, 111]
def sPair : List UInt8 := [80, 97, 105, 114]

mutual
def sizeT : Ty → Nat
  | .mk _ l => 1 + sizeTs l
def sizeTs : List Ty → Nat
  | [] => 0
  | t :: r => sizeT t + sizeTs r
end

mutual
def depthT : Ty → Nat
  | .mk _ l => depthTs l + 1
def depthTs : List Ty → Nat
  | [] => 0
  | t :: r => max (depthT t) (depthTs r)
end

mutual
def sizeL : Lam → Nat
  | .mk _ _ _ l => 1 + sizeLs l
def sizeLs : List Lam → Nat
  | [] => 0
  | t :: r => sizeL t + sizeLs r
end

mutual
def depthL : Lam → Nat
  | .mk _ _ _ l => depthLs l + 1
def depthLs : List Lam → Nat
  | [] => 0
  | t :: r => max (depthL t) (depthLs r)
end

mutual
def formed : Ty → Bool
  | .mk s l => if s = sNat then l.isEmpty else if s = sTo ∨ s = sPair then l.length == 2 && formedTs l else false
def formedTs : List Ty → Bool
  | [] => true
  | t :: r => formed t && formedTs r
end

def validT (t : Ty) : Bool := decide (sizeT t ≤ 60) && decide (depthT t ≤ 12) && formed t
def zeroT (t : Ty) : Bool := t.name.isEmpty && t.parts.isEmpty

/-- How many parts a term has by what it is. -/
def partsN (op : Int) : Int :=
  if op = 1 ∨ op = 4 then 0 else if op = 2 ∨ op = 5 ∨ op = 8 ∨ op = 9 then 1 else if op = 3 ∨ op = 7 then 2 else if op = 6 then 3 else -1

def topN (op : Int) : Int := if op = 1 then 200 else if op = 4 then 1000 else 0

mutual
def shaped : Lam → Bool
  | .mk o n t l => (l.length : Int) == partsN o && decide (0 ≤ n) && decide (n ≤ topN o) && (if o = 2 then validT t else zeroT t) && shapeds l
def shapeds : List Lam → Bool
  | [] => true
  | t :: r => shaped t && shapeds r
end

def validL (t : Lam) : Bool := decide (sizeL t ≤ 300) && decide (depthL t ≤ 60) && shaped t

mutual
def eqT : Ty → Ty → Bool
  | .mk s l, .mk s' l' => s == s' && eqTs l l'
def eqTs : List Ty → List Ty → Bool
  | [], [] => true
  | a :: r, b :: r' => eqT a b && eqTs r r'
  | _, _ => false
end

mutual
theorem eqT_iff : ∀ a b : Ty, eqT a b = true ↔ a = b
  | .mk s l, .mk s' l' => by simp [eqT, eqTs_iff l l']
theorem eqTs_iff : ∀ a b : List Ty, eqTs a b = true ↔ a = b
  | [], [] => by simp [eqTs]
  | [], _ :: _ => by simp [eqTs]
  | _ :: _, [] => by simp [eqTs]
  | a :: r, b :: r' => by simp [eqTs, eqT_iff a b, eqTs_iff r r']
end

instance : DecidableEq Ty := fun a b => decidable_of_iff _ (eqT_iff a b)

mutual
def eqL : Lam → Lam → Bool
  | .mk o n t l, .mk o' n' t' l' => o == o' && (n == n' && (eqT t t' && eqLs l l'))
def eqLs : List Lam → List Lam → Bool
  | [], [] => true
  | a :: r, b :: r' => eqL a b && eqLs r r'
  | _, _ => false
end

mutual
theorem eqL_iff : ∀ a b : Lam, eqL a b = true ↔ a = b
  | .mk o n t l, .mk o' n' t' l' => by simp [eqL, eqT_iff t t', eqLs_iff l l']
theorem eqLs_iff : ∀ a b : List Lam, eqLs a b = true ↔ a = b
  | [], [] => by simp [eqLs]
  | [], _ :: _ => by simp [eqLs]
  | _ :: _, [] => by simp [eqLs]
  | a :: r, b :: r' => by simp [eqLs, eqL_iff a b, eqLs_iff r r']
end

def tNat : Ty := .mk sNat []
def tTo (a b : Ty) : Ty := .mk sTo [a, b]
def tPair (a b : Ty) : Ty := .mk sPair [a, b]

/-- The element behind so many, from the end. -/
def fromEnd (ctx : List Ty) (n : Int) : Option Ty := if 0 ≤ n ∧ n < ctx.length then ctx[(ctx.length - 1 - n.toNat)]? else none

def rt2 (t : Ty) : List Ty → Option Ty
  | [b] => some (tTo t b)
  | _ => none
def rt3 : List Ty → Option Ty
  | [f, a] => (match f.parts with
    | [x, y] => if f.name = sTo ∧ x = a then some y else none
    | _ => none)
  | _ => none
def rt5 : List Ty → Option Ty
  | [x] => if x.name = sNat then some tNat else none
  | _ => none
def rt6 : List Ty → Option Ty
  | [n, f, a] => if n.name = sNat ∧ f = tTo a a then some a else none
  | _ => none
def rt7 : List Ty → Option Ty
  | [a, b] => some (tPair a b)
  | _ => none
def rt8 : List Ty → Option Ty
  | [p] => (match p.parts with
    | [a, _] => if p.name = sPair then some a else none
    | _ => none)
  | _ => none
def rt9 : List Ty → Option Ty
  | [p] => (match p.parts with
    | [_, b] => if p.name = sPair then some b else none
    | _ => none)
  | _ => none

/-- The type of a node whose parts have types. -/
def ruleT (ctx : List Ty) (o n : Int) (t : Ty) (ts : List Ty) : Option Ty :=
  if o = 1 then fromEnd ctx n
  else if o = 2 then rt2 t ts
  else if o = 3 then rt3 ts
  else if o = 4 then some tNat
  else if o = 5 then rt5 ts
  else if o = 6 then rt6 ts
  else if o = 7 then rt7 ts
  else if o = 8 then rt8 ts
  else if o = 9 then rt9 ts
  else none

mutual
/-- The type of a term, or the way to the first node without one. -/
def typed (ctx : List Ty) : Lam → Ty ⊕ List Nat
  | .mk o n t l => match typeds (if o = 2 then ctx ++ [t] else ctx) 0 l with
    | .inr p => .inr p
    | .inl ts => match ruleT ctx o n t ts with
      | some u => .inl u
      | none => .inr []
def typeds (ctx : List Ty) (i : Nat) : List Lam → List Ty ⊕ List Nat
  | [] => .inl []
  | x :: r => match typed ctx x with
    | .inr p => .inr (i :: p)
    | .inl u => match typeds ctx (i + 1) r with
      | .inr p => .inr p
      | .inl us => .inl (u :: us)
end

/-! ### shifting, putting in -/
def bindsN (o : Int) (l : Nat) : Int := if o = 2 ∧ l = 1 then 1 else 0

mutual
def shift (d k : Int) : Lam → Lam
  | .mk o n t l => .mk o (if o = 1 ∧ 0 ≤ n ∧ k ≤ n ∧ k ≤ n + d then n + d else n) t (shifts d (k + bindsN o l.length) l)
def shifts (d k : Int) : List Lam → List Lam
  | [] => []
  | t :: r => shift d k t :: shifts d k r
end

mutual
def subst (at_ : Int) (s : Lam) (d : Int) : Lam → Lam
  | .mk o n t l => if o = 1 ∧ n = at_ + d then shift d 0 s else .mk o (if o = 1 ∧ n > at_ + d then n - 1 else n) t (substs at_ s (d + bindsN o l.length) l)
def substs (at_ : Int) (s : Lam) (d : Int) : List Lam → List Lam
  | [] => []
  | t :: r => subst at_ s d t :: substs at_ s d r
end

def tyZero : Ty := .mk [] []
def lNum (n : Int) : Lam := .mk 4 n tyZero []

def rule3 : List Lam → Option Lam
  | [x, a] => (match x.parts with
    | [b] => if x.op = 2 then some (subst 0 a 0 b) else none
    | _ => none)
  | _ => none
def rule5 : List Lam → Option Lam
  | [x] => if x.op = 4 ∧ x.parts.isEmpty = true ∧ 0 ≤ x.num ∧ x.num ≤ 1099511627776 then some (lNum (x.num + 1)) else none
  | _ => none
def rule6 : List Lam → Option Lam
  | [x, f, a] => if x.op = 4 ∧ x.parts.isEmpty = true then (if x.num ≤ 0 then some a else some (.mk 3 0 tyZero [f, .mk 6 0 tyZero [lNum (x.num - 1), f, a]])) else none
  | _ => none
def rule8 : List Lam → Option Lam
  | [x] => (match x.parts with
    | [a, _] => if x.op = 7 then some a else none
    | _ => none)
  | _ => none
def rule9 : List Lam → Option Lam
  | [x] => (match x.parts with
    | [_, b] => if x.op = 7 then some b else none
    | _ => none)
  | _ => none

/-- A rule at a node. -/
def ruleL (t : Lam) : Option Lam :=
  if t.op = 3 then rule3 t.parts else if t.op = 5 then rule5 t.parts else if t.op = 6 then rule6 t.parts else if t.op = 8 then rule8 t.parts else if t.op = 9 then rule9 t.parts else none

mutual
/-- The first step, and its place. -/
def stepL : Lam → Option (Lam × List Nat)
  | .mk o n t l => match ruleL (.mk o n t l) with
    | some x => some (x, [])
    | none => match stepLs 0 l with
      | some (l', p) => some (.mk o n t l', p)
      | none => none
def stepLs (i : Nat) : List Lam → Option (List Lam × List Nat)
  | [] => none
  | x :: r => match stepL x with
    | some (y, p) => some (y :: r, i :: p)
    | none => match stepLs (i + 1) r with
      | some (r', p) => some (x :: r', p)
      | none => none
end

/-- The normal form within so many steps, n having been done. -/
def normalL : Nat → Nat → Lam → Option (Lam × Nat)
  | fuel, n, t => match stepL t with
    | none => some (t, n)
    | some (s, _) => match fuel with
      | 0 => none
      | fuel + 1 => if sizeL s > 20000 then none else normalL fuel (n + 1) s

end Go.Proofs.Aw.Sa
