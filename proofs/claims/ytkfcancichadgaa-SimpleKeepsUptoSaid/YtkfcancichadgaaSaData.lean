/-
  SIMPLE, the data: types and terms, and the trees that stand for them.
-/
import Derived.Test.YtkfcancichadgaaAw4
set_option linter.unusedSimpArgs false
set_option linter.unusedVariables false
namespace Go.Proofs.Aw.Sa
open Go.Proofs

/-- A type of the small calculus: its name and its parts. -/
inductive Ty where
  | mk (name : List UInt8) (l : List Ty)

/-- A term: what it is, its number, its type, its parts. -/
inductive Lam where
  | mk (op n : Int) (t : Ty) (l : List Lam)

namespace Ty
def name : Ty → List UInt8
  | .mk s _ => s
def parts : Ty → List Ty
  | .mk _ l => l
end Ty

namespace Lam
def op : Lam → Int
  | .mk o _ _ _ => o
def num : Lam → Int
  | .mk _ n _ _ => n
def ty : Lam → Ty
  | .mk _ _ t _ => t
def parts : Lam → List Lam
  | .mk _ _ _ l => l
end Lam

mutual
def encT : Ty → Tree
  | .mk s l => .agg [.str s, .slc (encTs l)]
def encTs : List Ty → List Tree
  | [] => []
  | t :: r => encT t :: encTs r
end

mutual
/-- The cells of a type stand in a term's. -/
def encL : Lam → Tree
  | .mk o n (.mk s l) ps => .agg [.int .i64 o, .int .i64 n, .str s, .slc (encTs l), .slc (encLs ps)]
def encLs : List Lam → List Tree
  | [] => []
  | t :: r => encL t :: encLs r
end

theorem encTs_map : ∀ l : List Ty, encTs l = l.map encT
  | [] => rfl
  | _ :: r => by rw [encTs, encTs_map r]; rfl

theorem encLs_map : ∀ l : List Lam, encLs l = l.map encL
  | [] => rfl
  | _ :: r => by rw [encLs, encLs_map r]; rfl

end Go.Proofs.Aw.Sa
