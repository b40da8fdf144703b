/- THE ABSTRACT WALK: a reckoning of the code on trees, and why it is right. -/
import Derived.Calls
import Derived.Orders
import Derived.KernelRfl
import Derived.Laws.Sem
import Derived.Laws.Append
import Derived.Laws.IdiomCopy
import Derived.Laws.StructEq
import Derived.Laws.Slices
import Derived.ChangeKeysEq
set_option linter.unusedSimpArgs false
set_option linter.unusedVariables false

/-
  THE ABSTRACT WALK, 1: values. 'Tree': data that nothing writes any more, whole, by value. 'AV': what a slot of a frame holds: a tree, or
  something that leads into the small heap of what the call itself has made. 'HObj': a block of that heap.
-/
section
namespace Go.Proofs.Dw

inductive Tree where
  | bool (b : Bool)
  | int (k : IntKind) (n : Int)
  | str (s : List UInt8)
  | agg (cs : List Tree)
  | slc (es : List Tree)
  | ptr (e : Tree) (j : Nat)
  | nilp
  | fn (f : Nat) (first caps : List Tree)
  | nilfn
  | tup (l : List Tree)
  | wp (id off : Nat)
  | wm (id : Nat)
  | nilm
  | ifc (t : Nat) (x : Tree)
  | nili

instance : Inhabited Tree := ⟨.bool false⟩

/-- 'any': nothing is known; 'sc': nothing but that it is one cell. 'href': the address of cell j of element i of block b. 'hsl': the slice over all of block b. -/
inductive AV where
  | t (x : Tree)
  | any
  | sc
  | undef
  | nilS
  | clip (es : List Tree)
  | href (b i j : Nat)
  | hsl (b : Nat) (cap : Option Nat)
  | hsub (b off len : Nat)
  | agg (cs : List AV)
  | fn (f : Nat) (first caps : List AV)
  | tup (l : List AV)

instance : Inhabited AV := ⟨.any⟩

/-- What shape a type's values have: a struct is its cells. -/
inductive Sh where
  | int (k : IntKind)
  | bool
  | str
  | slc
  | any
  | agg (l : List Sh)
  | tup (l : List Sh)
  | wp
  | wm

instance : Inhabited Sh := ⟨.any⟩

/-- How many cells a value of a shape takes. -/
def Sh.width : Sh → Nat
  | .agg l => l.length
  | _ => 1

mutual
/-- Nothing in it leads to memory. -/
def Sh.flat : Sh → Bool
  | .slc => false
  | .any => false
  | .wp => false
  | .wm => false
  | .agg l => Sh.flats l
  | .tup l => Sh.flats l
  | _ => true
def Sh.flats : List Sh → Bool
  | [] => true
  | s :: l => match Sh.flat s with
    | true => Sh.flats l
    | false => false
end

/-- What the world holds: objects that many share and write: the cells of a struct, a map. 'wp', 'wm' lead to them by their number. -/
inductive WObj where
  | dead
  | cells (cs : List Tree)
  | map (es : List (Tree × Tree))

instance : Inhabited WObj := ⟨.dead⟩

abbrev World' := List WObj

/-- A block: a row of elements of one shape. 'mix': not all of them trees. 'froz': nothing writes it any more. 'unborn': not made yet. 'dead': nothing is known of it any more. -/
inductive HObj where
  | unborn
  | dead
  | mix (s : Sh) (es : List AV)
  | tre (s : Sh) (es : List Tree)
  | froz (s : Sh) (es : List Tree)
  | wld (G : World')

instance : Inhabited HObj := ⟨.unborn⟩

abbrev Heap := List HObj

/-- The cells of a value. -/
def Tree.cells : Tree → List Tree
  | .agg cs => cs
  | x => [x]

def AV.cells : AV → List AV
  | .agg cs => cs
  | .t (.agg cs) => cs.map .t
  | x => [x]

/-- All trees, or nothing. -/
def allT : List AV → Option (List Tree)
  | [] => some []
  | .t x :: r => match allT r with
    | some xs => some (x :: xs)
    | none => none
  | _ :: _ => none

/-- An aggregate: a tree where all its cells are. -/
def mkAgg (cs : List AV) : AV :=
  match allT cs with
  | some xs => .t (.agg xs)
  | none => .agg cs

def mkTup (cs : List AV) : AV :=
  match allT cs with
  | some xs => .t (.tup xs)
  | none => .tup cs

def Tree.toInt : Tree → Int
  | .int _ n => n
  | _ => 0
def Tree.toBool : Tree → Bool
  | .bool b => b
  | _ => false
def Tree.toStr : Tree → List UInt8
  | .str s => s
  | _ => []
def Tree.elems : Tree → List Tree
  | .slc es => es
  | _ => []
def Tree.cs : Tree → List Tree
  | .agg cs => cs
  | _ => []
def Tree.tupl : Tree → List Tree
  | .tup l => l
  | _ => []

def Tree.wid : Tree → Nat
  | .wp i _ => i
  | .wm i => i
  | _ => 0

def Tree.isSc : Tree → Bool
  | .agg _ => false
  | .tup _ => false
  | _ => true

def kindEq : IntKind → IntKind → Bool
  | .i8, .i8 => true | .i16, .i16 => true | .i32, .i32 => true | .i64, .i64 => true
  | .u8, .u8 => true | .u16, .u16 => true | .u32, .u32 => true | .u64, .u64 => true
  | _, _ => false

theorem kindEq_eq {a b : IntKind} (h : kindEq a b = true) : a = b := by
  cases a <;> cases b <;> first | rfl | cases h

theorem kindEq_self (a : IntKind) : kindEq a a = true := by cases a <;> rfl

mutual
/-- Has a tree a shape? -/
def Sh.ok : Sh → Tree → Bool
  | .int k, .int k' _ => kindEq k k'
  | .bool, .bool _ => true
  | .str, .str _ => true
  | .slc, .slc _ => true
  | .any, x => x.isSc
  | .agg l, .agg cs => Sh.oks l cs
  | .tup l, .tup cs => Sh.oks l cs
  | .wp, .wp _ o => Nat.beq o 0
  | .wm, .wm _ => true
  | _, _ => false
def Sh.oks : List Sh → List Tree → Bool
  | [], [] => true
  | s :: l, x :: r => match Sh.ok s x with
    | true => Sh.oks l r
    | false => false
  | _, _ => false
end

mutual
/-- The tree itself, its shape laid open. -/
def Sh.open : Sh → Tree → Tree
  | .int k, x => .int k x.toInt
  | .bool, x => .bool x.toBool
  | .str, x => .str x.toStr
  | .slc, x => .slc x.elems
  | .any, x => x
  | .agg l, x => .agg (Sh.opens l x.cs)
  | .tup l, x => .tup (Sh.opens l x.tupl)
  | .wp, x => .wp x.wid 0
  | .wm, x => .wm x.wid
def Sh.opens : List Sh → List Tree → List Tree
  | [], _ => []
  | s :: l, r => Sh.open s (r.headD (.bool false)) :: Sh.opens l r.tail
end

mutual
theorem Sh.open_eq : ∀ (s : Sh) (x : Tree), s.ok x = true → s.open x = x
  | .int k, x, h => by cases x <;> simp_all [Sh.ok, Sh.open, Tree.toInt]; exact kindEq_eq h
  | .bool, x, h => by cases x <;> simp_all [Sh.ok, Sh.open, Tree.toBool]
  | .str, x, h => by cases x <;> simp_all [Sh.ok, Sh.open, Tree.toStr]
  | .slc, x, h => by cases x <;> simp_all [Sh.ok, Sh.open, Tree.elems]
  | .any, x, _ => by simp [Sh.open]
  | .agg l, x, h => by
    cases x <;> simp_all [Sh.ok, Sh.open, Tree.cs]
    exact Sh.opens_eq l _ h
  | .tup l, x, h => by
    cases x <;> simp_all [Sh.ok, Sh.open, Tree.tupl]
    exact Sh.opens_eq l _ h
  | .wp, x, h => by cases x <;> simp_all [Sh.ok, Sh.open, Tree.wid]
  | .wm, x, h => by cases x <;> simp_all [Sh.ok, Sh.open, Tree.wid]
theorem Sh.opens_eq : ∀ (l : List Sh) (r : List Tree), Sh.oks l r = true → Sh.opens l r = r
  | [], [], _ => by simp [Sh.opens]
  | [], _ :: _, h => by simp [Sh.oks] at h
  | _ :: _, [], h => by simp [Sh.oks] at h
  | s :: l, x :: r, h => by
    simp only [Sh.oks] at h
    split at h
    · rename_i hs
      simp only [Sh.opens, List.headD_cons, List.tail_cons]
      rw [Sh.open_eq s x hs, Sh.opens_eq l r h]
    · cases h
end

theorem Sh.oks_len : ∀ {l : List Sh} {r : List Tree}, Sh.oks l r = true → r.length = l.length
  | [], [], _ => rfl
  | [], _ :: _, h => by simp [Sh.oks] at h
  | _ :: _, [], h => by simp [Sh.oks] at h
  | s :: l, x :: r, h => by
    simp only [Sh.oks] at h
    split at h
    · simp [Sh.oks_len h]
    · cases h

theorem Sh.ok_width {s : Sh} {x : Tree} (h : s.ok x = true) : x.cells.length = s.width := by
  cases s <;> cases x <;> simp_all [Sh.ok, Tree.cells, Sh.width, Tree.isSc]
  exact Sh.oks_len h

/-! ### Lists, as the kernel reckons them -/
def nth {α : Type} : List α → Nat → Option α
  | [], _ => none
  | x :: _, 0 => some x
  | _ :: l, n + 1 => nth l n

def setN {α : Type} : List α → Nat → α → List α
  | [], _, _ => []
  | _ :: l, 0, v => v :: l
  | x :: l, n + 1, v => x :: setN l n v

theorem nth_eq {α : Type} : ∀ (l : List α) (i : Nat), nth l i = l[i]?
  | [], _ => by simp [nth]
  | x :: l, 0 => by simp [nth]
  | x :: l, n + 1 => by simp [nth, nth_eq l n]

theorem setN_eq {α : Type} : ∀ (l : List α) (i : Nat) (v : α), setN l i v = l.set i v
  | [], _, _ => by simp [setN]
  | x :: l, 0, v => by simp [setN]
  | x :: l, n + 1, v => by simp [setN, setN_eq l n v]

def memN : List Nat → Nat → Bool
  | [], _ => false
  | x :: l, n => bif Nat.beq x n then true else memN l n

theorem memN_iff : ∀ (l : List Nat) (n : Nat), memN l n = true ↔ n ∈ l
  | [], n => by simp [memN]
  | x :: l, n => by
    have ih := memN_iff l n
    simp only [memN, List.mem_cons]
    cases h : Nat.beq x n with
    | true => have := Nat.eq_of_beq_eq_true h; simp [this]
    | false => have := Nat.ne_of_beq_eq_false h; simp [ih]; intro e; exact absurd e.symm this

/-- Where a number stands in a list. -/
def idxN : List Nat → Nat → Option Nat
  | [], _ => none
  | x :: l, n => bif Nat.beq x n then some 0 else match idxN l n with
    | some i => some (i + 1)
    | none => none

theorem idxN_some : ∀ {l : List Nat} {n i : Nat}, idxN l n = some i → l[i]? = some n
  | [], n, i, h => by simp [idxN] at h
  | x :: l, n, i, h => by
    simp only [idxN] at h
    cases hb : Nat.beq x n with
    | true => simp [hb] at h; subst h; simp [Nat.eq_of_beq_eq_true hb]
    | false =>
      simp only [hb, cond_false] at h
      split at h
      · rename_i j hj; simp at h; subst h; simpa using idxN_some hj
      · cases h

def nodupN : List Nat → Bool
  | [] => true
  | x :: l => bif memN l x then false else nodupN l

theorem nodupN_nodup : ∀ {l : List Nat}, nodupN l = true → l.Nodup
  | [], _ => List.nodup_nil
  | x :: l, h => by
    simp only [nodupN] at h
    cases hm : memN l x with
    | true => simp [hm] at h
    | false =>
      simp [hm] at h
      rw [List.nodup_cons]
      exact ⟨(fun hx => by rw [(memN_iff l x).2 hx] at hm; cases hm), nodupN_nodup h⟩

end Go.Proofs.Dw
end

/-
  THE ABSTRACT WALK, 2: the code as it is reckoned, and how. 'evOp', 'evOps', 'evC', 'runFn': each in one order, the text's; what comes
  behind is handed on as a function ('K'), so that the kernel and a reader see what is decided first.
-/
section
namespace Go.Proofs.Dw

inductive Opd where
  | s (t : Nat)
  | c (v : AV)
  | f (g : Nat)

/-- What '==' compares: bools, aggregates, pointers with nil, functions with nil. -/
inductive EqC where
  | bool
  | agg (l : List Sh)
  | ptr
  | wptr
  | fn
  | ifc

/-- What a map's keys are: whole numbers, strings, pointers into the world, rows of n of these. -/
inductive KeyC where
  | int
  | str
  | ptr
  | arr (n : Nat)

/-- How the heap that a call hands back is laid out: a struct whose cell is a row, which comes to lie in a block of its own; one row, in its place; a tuple of a tree and a row; a tuple of a struct of two rows and a bool. -/
inductive GK where
  | graph (gs ns : Sh)
  | marks (ms : Sh)
  | names (ty ns : Sh)
  | two (a b : Sh)

inductive IOp where
  | mov (x : Opd)
  | nonnil (x : Opd)
  | pick (c a b : Opd)
  | new (s : Sh) (z : AV)
  | box (s : Sh) (x : Opd)
  | build (z : List AV) (ps : List (Nat × Sh × Opd))
  | bsl (s : Sh) (z : AV) (n : Nat) (ps : List (Nat × Opd))
  | ld (s : Sh) (x : Opd)
  | st (s : Sh) (x v : Opd)
  | bin (o : BinOp) (x y : Opd)
  | eqs (neq : Bool) (c : EqC) (x y : Opd)
  | un (o : UnOp) (x : Opd)
  | conv (k : IntKind) (x : Opd)
  | mkf (g : Nat) (first caps : List Opd)
  | mks (s : Sh) (bytes : Nat) (z : AV) (len cap : Opd)
  | sub (s : Sh) (x : Opd) (lo hi mx : Option Opd)
  | subs (x : Opd) (lo hi : Option Opd)
  | fa (off : Nat) (x : Opd)
  | fld (off : Nat) (s : Sh) (x : Opd)
  | ia (s : Sh) (x i : Opd)
  | iaa (s : Sh) (n : Nat) (x i : Opd)
  | ixa (s : Sh) (n : Nat) (x i : Opd)
  | ixs (x i : Opd)
  | ext (n : Nat) (x : Opd)
  | call (md : Bool) (g : Nat) (s : Sh) (args : List Opd)
  | callv (x : Opd) (s : Sh) (args : List Opd)
  | len (x : Opd)
  | lens (x : Opd)
  | cap (x : Opd)
  | mn (x y : Opd)
  | mx (x y : Opd)
  | app (s : Sh) (bytes : Nat) (x y : Opd)
  | appz (s : Sh) (bytes : Nat) (z : AV) (x n : Opd)
  | copy (s : Sh) (x y : Opd)
  | clr (s : Sh) (z : AV) (x : Opd)
  | clone (s : Sh) (bytes : Nat) (x : Opd)
  | carry (sub : Bool) (x y c : Opd)
  | wnew (s : Sh) (z : AV)
  | wbox (s : Sh) (x : Opd)
  | extf (n : Nat) (x : Opd)
  | pan (x : Opd)
  | mki (t : Nat) (x : Opd)
  | tas (ok : Bool) (t : Nat) (s : Sh) (z : AV) (x : Opd)
  | callg (k : GK) (s : Sh) (mask : List Bool) (g : Nat) (args : List Opd)
  | callm (mask : List Bool) (g : Nat) (args : List Opd)
  | wmk
  | wget (q : KeyC) (ok : Bool) (s : Sh) (z : AV) (x k : Opd)
  | wput (q : KeyC) (x k v : Opd)
  | wlen (x : Opd)
  | callw (g : Nat) (s : Sh) (args : List Opd)
  | callvw (x : Opd) (s : Sh) (args : List Opd)
  | fail

structure IOper where
  dst : Option Nat
  g : Option (Nat × Bool)
  op : IOp

/-- 'reg': a region in the text's order; 'dreg': one that draws its order; 'bef': for each operation the bits of those that come first. 'live': the slots that are read behind a loop's head. -/
inductive ICode where
  | skip
  | reg (ops : List IOper)
  | dreg (ops : List IOper) (bef : List Nat)
  | seq (a b : ICode)
  | cond (c : Opd) (a b : ICode)
  | block (id : Nat) (b : ICode)
  | loop (live : List Nat) (b : ICode)
  | exit (id : Nat)
  | ret

inductive IRes where
  | slot (t : Nat)
  | cell (t : Nat) (s : Sh)

structure FInfo where
  ntmps : Nat
  body : ICode
  res : List IRes

/-- What an operation does to the heap: blocks written anew, and new ones behind. -/
structure Delta where
  wr : List (Nat × HObj)
  nw : List HObj

def Delta.none : Delta := ⟨[], []⟩

abbrev Rd := Nat → HObj

/-- 'sum': of functions without code here: what a call comes to, by a summary proved apart. -/
structure Env where
  code : Nat → Option FInfo
  has : Nat → Bool
  /-- functions that begin a world of their own -/
  root : Nat → Bool
  cond : Nat → List AV → Heap → Bool
  sum : Nat → List AV → Heap → Option (AV × Heap)

def HObj.sh : HObj → Sh
  | .mix s _ => s
  | .tre s _ => s
  | .froz s _ => s
  | _ => .any

def Opd.isC : Opd → Bool
  | .c _ => true
  | _ => false

/-! ### slots -/
def Opd.sl : Opd → List Nat
  | .s t => [t]
  | _ => []

def slsL : List Opd → List Nat
  | [] => []
  | x :: r => x.sl ++ slsL r

def slO : Option Opd → List Nat
  | some x => x.sl
  | none => []

def slParts : List (Nat × Sh × Opd) → List Nat
  | [] => []
  | (_, _, x) :: r => x.sl ++ slParts r

def slElems : List (Nat × Opd) → List Nat
  | [] => []
  | (_, x) :: r => x.sl ++ slElems r

/-- The slots that an operation looks at. -/
def IOp.slots : IOp → List Nat
  | .mov x => x.sl
  | .nonnil x => x.sl
  | .pick c a b => c.sl ++ (a.sl ++ b.sl)
  | .new _ _ => []
  | .box _ x => x.sl
  | .build _ ps => slParts ps
  | .bsl _ _ _ ps => slElems ps
  | .ld _ x => x.sl
  | .st _ x v => x.sl ++ v.sl
  | .bin _ x y => x.sl ++ y.sl
  | .eqs _ _ x y => x.sl ++ y.sl
  | .un _ x => x.sl
  | .conv _ x => x.sl
  | .mkf _ a b => slsL a ++ slsL b
  | .mks _ _ _ l c => l.sl ++ c.sl
  | .sub _ x lo hi m => x.sl ++ (slO lo ++ (slO hi ++ slO m))
  | .subs x lo hi => x.sl ++ (slO lo ++ slO hi)
  | .fa _ x => x.sl
  | .fld _ _ x => x.sl
  | .ia _ x i => x.sl ++ i.sl
  | .iaa _ _ x i => x.sl ++ i.sl
  | .ixa _ _ x i => x.sl ++ i.sl
  | .ixs x i => x.sl ++ i.sl
  | .ext _ x => x.sl
  | .call _ _ _ l => slsL l
  | .callv x _ l => x.sl ++ slsL l
  | .len x => x.sl
  | .lens x => x.sl
  | .cap x => x.sl
  | .mn x y => x.sl ++ y.sl
  | .mx x y => x.sl ++ y.sl
  | .app _ _ x y => x.sl ++ y.sl
  | .appz _ _ _ x n => x.sl ++ n.sl
  | .copy _ x y => x.sl ++ y.sl
  | .clr _ _ x => x.sl
  | .clone _ _ x => x.sl
  | .carry _ x y c => x.sl ++ (y.sl ++ c.sl)
  | .wnew _ _ => []
  | .wbox _ x => x.sl
  | .extf _ x => x.sl
  | .pan x => x.sl
  | .mki _ x => x.sl
  | .tas _ _ _ _ x => x.sl
  | .callg _ _ _ _ l => slsL l
  | .callm _ _ l => slsL l
  | .wmk => []
  | .wget _ _ _ _ x k => x.sl ++ k.sl
  | .wput _ x k v => x.sl ++ (k.sl ++ v.sl)
  | .wlen x => x.sl
  | .callw _ _ l => slsL l
  | .callvw x _ l => x.sl ++ slsL l
  | .fail => []

def IOper.looks (o : IOper) : List Nat :=
  match o.g with
  | some (g, _) => g :: o.op.slots
  | none => o.op.slots

def slot : List AV → Nat → AV
  | [], _ => .any
  | x :: _, 0 => x
  | _ :: l, n + 1 => slot l n

def ev (ts : List AV) : Opd → AV
  | .s t => slot ts t
  | .c v => v
  | .f g => .t (.fn g [] [])

def evs (ts : List AV) : List Opd → List AV
  | [] => []
  | x :: r => ev ts x :: evs ts r

def rdH (H : Heap) : Rd := fun b => match nth H b with
  | some o => o
  | none => .unborn

def wrH : Heap → List (Nat × HObj) → Heap
  | H, [] => H
  | H, (b, o) :: r => wrH (setN H b o) r

def Delta.to (d : Delta) (H : Heap) : Heap := wrH H d.wr ++ d.nw

/-! ### cells of values -/
def AV.isSc : AV → Bool
  | .t x => x.isSc
  | .any => false
  | .undef => false
  | .agg _ => false
  | .tup _ => false
  | _ => true

section
variable {α : Type}

/-- The cells of a value of a shape. -/
def cellsBy (s : Sh) (v : AV) (K : List AV → Option α) : Option α :=
  match s with
  | .agg l =>
    match v with
    | .agg cs => bif Nat.beq cs.length l.length then K cs else none
    | .t (.agg cs) => bif Nat.beq cs.length l.length then K (cs.map .t) else none
    | _ => none
  | _ => bif v.isSc then K [v] else none

/-- The value of a shape that begins at cell j. -/
def loadBy (s : Sh) (j : Nat) (cs : List AV) (K : AV → Option α) : Option α :=
  match s with
  | .agg l => bif Nat.ble (j + l.length) cs.length then K (mkAgg ((cs.drop j).take l.length)) else none
  | _ =>
    match nth cs j with
    | some (.t x) => bif s.ok x then K (.t (s.open x)) else none
    | some v => bif v.isSc then K v else none
    | none => none

def splice (cs : List AV) (j : Nat) (new : List AV) : List AV := cs.take j ++ new ++ cs.drop (j + new.length)

/-- A row as it is kept: trees where all are. -/
def mkRow (s : Sh) (es : List AV) : HObj :=
  match allT es with
  | some xs => .tre s xs
  | none => .mix s es

/-- The element of a row, its cells laid open. -/
def elemOf (o : HObj) (i : Nat) (K : AV → Option α) : Option α :=
  match o with
  | .unborn => none
  | .dead => none
  | .wld _ => none
  | .mix _ es => (nth es i).bind K
  | .tre s es => (nth es i).bind fun e => bif s.ok e then K (.t (s.open e)) else none
  | .froz s es => (nth es i).bind fun e => bif s.ok e then K (.t (s.open e)) else none

/-- A load out of an element of a row; of rows of pointers into the world, at once. -/
def ldRow (s : Sh) (o : HObj) (i j : Nat) (K : AV → Option α) : Option α :=
  match s with
  | .wp => (match o with
    | .tre .any es => bif Nat.beq j 0 then (nth es i).bind fun e => bif Sh.ok .wp e then K (.t (Sh.open .wp e)) else none else none
    | .froz .any es => bif Nat.beq j 0 then (nth es i).bind fun e => bif Sh.ok .wp e then K (.t (Sh.open .wp e)) else none else none
    | o => elemOf o i fun e => loadBy .wp j e.cells K)
  | s => elemOf o i fun e => loadBy s j e.cells K

def setTre (s : Sh) (es : List Tree) (i : Nat) (v : AV) : HObj :=
  match v with
  | .t x => .tre s (setN es i x)
  | v => .mix s (setN (es.map .t) i v)

/-- A store of the cells 'new' from cell j of element i on. -/
def storeTo (o : HObj) (i j : Nat) (new : List AV) (K : HObj → Option α) : Option α :=
  match o with
  | .tre s es => (nth es i).bind fun e => bif s.ok e then
      (match s with
       | .agg l => bif Nat.ble (j + new.length) l.length then K (setTre s es i (mkAgg (splice ((s.open e).cells.map .t) j new))) else none
       | _ => match j, new with
         | 0, [v] => K (setTre s es i v)
         | _, _ => none) else none
  | .mix s es => (nth es i).bind fun e =>
      (match s with
       | .agg l => bif Nat.ble (j + new.length) e.cells.length then K (mkRow s (setN es i (mkAgg (splice e.cells j new)))) else none
       | _ => match j, new with
         | 0, [v] => K (mkRow s (setN es i v))
         | _, _ => none)
  | _ => none

/-! ### rows as lists -/
inductive Els where
  | tr (l : List Tree)
  | av (l : List AV)

def Els.toAV : Els → List AV
  | .tr l => l.map .t
  | .av l => l

def Els.app : Els → Els → Els
  | .tr a, .tr b => .tr (a ++ b)
  | a, b => .av (a.toAV ++ b.toAV)

def Els.take (n : Nat) : Els → Els
  | .tr a => .tr (a.take n)
  | .av a => .av (a.take n)

def Els.drop (n : Nat) : Els → Els
  | .tr a => .tr (a.drop n)
  | .av a => .av (a.drop n)

def Els.length : Els → Nat
  | .tr a => a.length
  | .av a => a.length

def Els.row (s : Sh) : Els → HObj
  | .tr a => .tre s a
  | .av a => .mix s a

def objEls : HObj → Option Els
  | .unborn => none
  | .dead => none
  | .wld _ => none
  | .mix _ es => some (.av es)
  | .tre _ es => some (.tr es)
  | .froz _ es => some (.tr es)

/-- The elements are as wide as a shape says. -/
def firstOk (s : Sh) (es : List Tree) : Bool :=
  match es with
  | [] => true
  | e :: _ => Nat.beq e.cells.length s.width

/-- The elements of a slice of elements of a shape. -/
def elsOf (s : Sh) (rd : Rd) (v : AV) (K : Els → Option α) : Option α :=
  match v with
  | .t (.slc es) => bif firstOk s es then K (.tr es) else none
  | .nilS => K (.tr [])
  | .clip es => bif firstOk s es then K (.tr es) else none
  | .hsl b _ => match objEls (rd b) with
    | some l => bif Nat.beq (rd b).sh.width s.width then K l else none
    | none => none
  | .hsub b off len => match objEls (rd b) with
    | some l => bif Nat.beq (rd b).sh.width s.width && Nat.ble (off + len) l.length then K ((l.drop off).take len) else none
    | none => none
  | _ => none

def lenOf (rd : Rd) (v : AV) (K : Nat → Option α) : Option α :=
  match v with
  | .t (.slc es) => K es.length
  | .nilS => K 0
  | .clip es => K es.length
  | .hsl b _ => match objEls (rd b) with
    | some l => K l.length
    | none => none
  | .hsub b _ len => match objEls (rd b) with
    | some _ => K len
    | none => none
  | _ => none

def asI (v : AV) (K : IntKind → Int → Option α) : Option α :=
  match v with
  | .t (.int k n) => K k n
  | _ => none

def asB (v : AV) (K : Bool → Option α) : Option α :=
  match v with
  | .t (.bool b) => K b
  | _ => none

/-! ### arithmetic -/
/-- The number r, which waits for the number a: the kernel is not to unfold it for a variable a. -/
def gate (a r : Int) : Int :=
  match a with
  | .ofNat _ => r
  | .negSucc _ => r

theorem gate_eq (a r : Int) : gate a r = r := by cases a <;> rfl

def intOp (o : BinOp) (k : IntKind) (a b : Int) (K : AV → Option α) : Option α :=
  match o with
  | .add => K (.t (.int k (k.wrap (a + b))))
  | .sub => K (.t (.int k (k.wrap (a - b))))
  | .mul => K (.t (.int k (k.wrap (a * b))))
  | .quo => bif decide (b = 0) then none else K (.t (.int k (k.wrap (a.tdiv b))))
  | .rem => bif decide (b = 0) then none else K (.t (.int k (a.tmod b)))
  | .and => K (.t (.int k (gate a (gate b (k.wrap ((BitVec.ofInt k.bits a &&& BitVec.ofInt k.bits b).toNat))))))
  | .or => K (.t (.int k (gate a (gate b (k.wrap ((BitVec.ofInt k.bits a ||| BitVec.ofInt k.bits b).toNat))))))
  | .xor => K (.t (.int k (gate a (gate b (k.wrap ((BitVec.ofInt k.bits a ^^^ BitVec.ofInt k.bits b).toNat))))))
  | .eql => K (.t (.bool (a == b)))
  | .neq => K (.t (.bool (a != b)))
  | .lss => K (.t (.bool (decide (a < b))))
  | .leq => K (.t (.bool (decide (a ≤ b))))
  | .gtr => K (.t (.bool (decide (a > b))))
  | .geq => K (.t (.bool (decide (a ≥ b))))
  | _ => none

def shiftOp (o : BinOp) (k : IntKind) (a b : Int) (K : AV → Option α) : Option α :=
  bif decide (b < 0) then none else
  match o with
  | .shl => K (.t (.int k (k.wrap (a * 2 ^ (min b.toNat k.bits)))))
  | .shr => K (.t (.int k (a.fdiv (2 ^ (min b.toNat k.bits)))))
  | _ => none

def strOp (o : BinOp) (a b : List UInt8) (K : AV → Option α) : Option α :=
  match o with
  | .add => bif decide (a.length + b.length ≤ 140737488355328) then K (.t (.str (a ++ b))) else none
  | .eql => K (.t (.bool (a == b)))
  | .neq => K (.t (.bool (!(a == b))))
  | .lss => K (.t (.bool (Op.bytesLess a b)))
  | .leq => K (.t (.bool (Op.bytesLess a b || a == b)))
  | .gtr => K (.t (.bool (!(Op.bytesLess a b || a == b))))
  | .geq => K (.t (.bool (!Op.bytesLess a b)))
  | _ => none

/-- Equality of two flat trees; of aggregates cell by cell. -/
def eqCell : Sh → Tree → Tree → Option Bool
  | .int k, .int k1 a, .int k2 b => bif kindEq k k1 && kindEq k k2 then some (a == b) else none
  | .str, .str a, .str b => some (a == b)
  | .bool, .bool a, .bool b => some (a == b)
  | _, _, _ => none

def eqCells : List Sh → List Tree → List Tree → Option Bool
  | [], [], [] => some true
  | s :: l, x :: xs, y :: ys => match eqCell s x y with
    | some b => match eqCells l xs ys with
      | some c => some (b && c)
      | none => none
    | none => none
  | _, _, _ => none

def eqA (c : EqC) (x y : AV) : Option Bool :=
  match c, x, y with
  | .bool, .t (.bool a), .t (.bool b) => some (a == b)
  | .agg s, .t (.agg l), .t (.agg r) => eqCells s l r
  | .ptr, .t .nilp, .t .nilp => some true
  | .wptr, .t .nilp, .t .nilp => some true
  | .wptr, .t .nilp, .t (.ptr _ _) => some false
  | .wptr, .t (.ptr _ _), .t .nilp => some false
  | .wptr, .t .nilp, .t (.wp _ _) => some false
  | .wptr, .t (.wp _ _), .t .nilp => some false
  | .wptr, .t (.wp a i), .t (.wp b j) => some (Nat.beq a b && Nat.beq i j)
  | .ptr, .t .nilp, .t (.ptr _ _) => some false
  | .ptr, .t (.ptr _ _), .t .nilp => some false
  | .fn, .t .nilfn, .t .nilfn => some true
  | .ifc, .t .nili, .t .nili => some true
  | .ifc, .t .nili, .t (.ifc _ _) => some false
  | .ifc, .t (.ifc _ _), .t .nili => some false
  | .fn, .t .nilfn, .t (.fn _ _ _) => some false
  | .fn, .t (.fn _ _ _), .t .nilfn => some false
  | _, _, _ => none

def binA (o : BinOp) (x y : AV) (K : AV → Option α) : Option α :=
  match x, y with
  | .t (.int k a), .t (.int k' b) => (match o with
    | .shl => shiftOp .shl k a b K
    | .shr => shiftOp .shr k a b K
    | o => bif kindEq k k' then intOp o k a b K else none)
  | .t (.str a), .t (.str b) => strOp o a b K
  | _, _ => none

def unA (o : UnOp) (x : AV) (K : AV → Option α) : Option α :=
  match o, x with
  | .not, .t (.bool b) => K (.t (.bool (!b)))
  | .neg, .t (.int k n) => K (.t (.int k (k.wrap (0 - n))))
  | _, _ => none

def imin (a b : Int) : Int := if b < a then b else a
def imax (a b : Int) : Int := if b > a then b else a

/-! ### freezing -/
mutual
def AV.refs : AV → List Nat
  | .href b _ _ => [b]
  | .hsl b _ => [b]
  | .hsub b _ _ => [b]
  | .agg cs => AV.refsL cs
  | .fn _ a c => AV.refsL a ++ AV.refsL c
  | .tup l => AV.refsL l
  | _ => []
def AV.refsL : List AV → List Nat
  | [] => []
  | x :: r => AV.refs x ++ AV.refsL r
end

/-- The blocks that can be come to, each once, in the order in which they are met. -/
def discover (rd : Rd) : Nat → List Nat → List Nat → List Nat
  | 0, _, seen => seen
  | _ + 1, [], seen => seen
  | n + 1, b :: r, seen =>
    bif memN seen b then discover rd n r seen else
    match rd b with
    | .mix _ es => discover rd n (AV.refsL es ++ r) (seen ++ [b])
    | _ => discover rd n r (seen ++ [b])

def mapO {β γ : Type} (f : β → Option γ) : List β → Option (List γ)
  | [] => some []
  | x :: l => match f x with
    | some y => match mapO f l with
      | some r => some (y :: r)
      | none => none
    | none => none

/-- A value as a tree. 'ok': the blocks that nothing will write any more. -/
def toTree (ok : Nat → Bool) (rd : Rd) : Nat → AV → Option Tree
  | 0, _ => none
  | n + 1, v =>
    match v with
    | .t x => some x
    | .nilS => some (.slc [])
    | .clip es => some (.slc es)
    | .href b i j => bif ok b then (match rd b with
      | .unborn => none
      | .dead => none
      | .wld _ => none
      | .mix _ es => match nth es i with
        | some v => match toTree ok rd n v with
          | some e => some (.ptr e j)
          | none => none
        | none => none
      | .tre _ es => match nth es i with
        | some e => some (.ptr e j)
        | none => none
      | .froz _ es => match nth es i with
        | some e => some (.ptr e j)
        | none => none) else none
    | .hsl b _ => bif ok b then (match rd b with
      | .unborn => none
      | .dead => none
      | .wld _ => none
      | .mix _ es => match mapO (toTree ok rd n) es with
        | some l => some (.slc l)
        | none => none
      | .tre _ es => some (.slc es)
      | .froz _ es => some (.slc es)) else none
    | .hsub b off len => bif ok b then (match rd b with
      | .unborn => none
      | .dead => none
      | .wld _ => none
      | .mix _ es => bif Nat.ble (off + len) es.length then (match mapO (toTree ok rd n) ((es.drop off).take len) with
        | some l => some (.slc l)
        | none => none) else none
      | .tre _ es => bif Nat.ble (off + len) es.length then some (.slc ((es.drop off).take len)) else none
      | .froz _ es => bif Nat.ble (off + len) es.length then some (.slc ((es.drop off).take len)) else none) else none
    | .agg cs => match mapO (toTree ok rd n) cs with
      | some l => some (.agg l)
      | none => none
    | .fn f a c => match mapO (toTree ok rd n) a with
      | some a' => match mapO (toTree ok rd n) c with
        | some c' => some (.fn f a' c')
        | none => none
      | none => none
    | .tup l => match mapO (toTree ok rd n) l with
      | some l' => some (.tup l')
      | none => none
    | .any => none
    | .sc => none
    | .undef => none

def depth : Nat := 64

/-- The blocks of a list as they lie when nothing writes them any more. -/
def freezes (ok : Nat → Bool) (rd : Rd) : List Nat → Option (List (Nat × HObj))
  | [] => some []
  | b :: l => match freezes ok rd l with
    | none => none
    | some r => match rd b with
      | .tre s es => some ((b, .froz s es) :: r)
      | .mix s es => match mapO (toTree ok rd depth) es with
        | some xs => some ((b, .froz s xs) :: r)
        | none => none
      | _ => some r

/-! ### renaming -/
mutual
def AV.ren (ρ : Nat → Option Nat) : AV → AV
  | .href b i j => match ρ b with | some c => .href c i j | none => .sc
  | .hsl b k => match ρ b with | some c => .hsl c k | none => .sc
  | .hsub b o l => match ρ b with | some c => .hsub c o l | none => .sc
  | .agg cs => .agg (AV.renL ρ cs)
  | .fn f a c => .fn f (AV.renL ρ a) (AV.renL ρ c)
  | .tup l => .tup (AV.renL ρ l)
  | x => x
def AV.renL (ρ : Nat → Option Nat) : List AV → List AV
  | [] => []
  | x :: r => AV.ren ρ x :: AV.renL ρ r
end

def HObj.ren (ρ : Nat → Option Nat) : HObj → HObj
  | .mix s es => .mix s (AV.renL ρ es)
  | o => o

/-- Only the slots of 'live' are kept; the blocks that they lead to are counted anew, the first m where they are. -/
def keepSlots (ρ : Nat → Option Nat) (ts : List AV) (live : List Nat) : Nat → List AV → List AV
  | _, [] => []
  | i, x :: r => (bif memN live i then AV.ren ρ x else .any) :: keepSlots ρ ts live (i + 1) r

def pick (ts : List AV) : List Nat → List AV
  | [] => []
  | i :: r => slot ts i :: pick ts r

def upTo : Nat → List Nat
  | 0 => []
  | n + 1 => upTo n ++ [n]

def objs (rd : Rd) (ρ : Nat → Option Nat) : List Nat → Heap
  | [] => []
  | b :: l => HObj.ren ρ (rd b) :: objs rd ρ l

structure St where
  ts : List AV
  H : Heap

def HObj.refs : HObj → List Nat
  | .mix _ es => AV.refsL es
  | _ => []

def refsFirst : Nat → Heap → List Nat
  | n + 1, o :: h => o.refs ++ refsFirst n h
  | _, _ => []

/-- The first m blocks, and what they and the values lead to. -/
def seenFrom (m : Nat) (H : Heap) (vs : List AV) : List Nat :=
  discover (rdH H) 4096 (refsFirst m H ++ AV.refsL vs) (upTo m)

def norm (m : Nat) (live : List Nat) (st : St) (K : St → Option α) : Option α :=
  let seen := seenFrom m st.H (pick st.ts live)
  bif nodupN seen then K ⟨keepSlots (idxN seen) st.ts live 0 st.ts, objs (rdH st.H) (idxN seen) seen⟩ else none

/-! ### the world -/
/-- Cell j of object id. -/
def wcell (G : World') (id j : Nat) : Option Tree :=
  match nth G id with
  | some (.cells cs) => nth cs j
  | _ => none

def setL : List Tree → Nat → List Tree → List Tree
  | cs, _, [] => cs
  | cs, j, x :: r => setL (setN cs j x) (j + 1) r

def wset (G : World') (id j : Nat) (new : List Tree) : Option World' :=
  match nth G id with
  | some (.cells cs) => bif Nat.ble (j + new.length) cs.length && new.all Tree.isSc then some (setN G id (.cells (setL cs j new))) else none
  | _ => none

def ptrEqs : List Tree → List Tree → Option Bool
  | [], [] => some true
  | .wp a i :: l, .wp b j :: r => bif Nat.beq a b && Nat.beq i j then ptrEqs l r else some false
  | _, _ => none

/-- Are two keys the same? -/
def keyEq (q : KeyC) (x y : Tree) : Option Bool :=
  match q with
  | .int => match x, y with
    | .int k a, .int k' b => bif kindEq k k' then some (a == b) else none
    | _, _ => none
  | .str => match x, y with
    | .str a, .str b => some (a == b)
    | _, _ => none
  | .ptr => match x, y with
    | .wp a i, .wp b j => some (Nat.beq a b && Nat.beq i j)
    | _, _ => none
  | .arr n => match x, y with
    | .agg l, .agg r => bif Nat.beq l.length n && Nat.beq r.length n then ptrEqs l r else none
    | _, _ => none

/-- Is it a key of a kind? -/
def keyIs (q : KeyC) (x : Tree) : Bool :=
  match q with
  | .int => match x with
    | .int _ _ => true
    | _ => false
  | .str => match x with
    | .str _ => true
    | _ => false
  | .ptr => match x with
    | .wp _ _ => true
    | _ => false
  | .arr n => match x with
    | .agg l => Nat.beq l.length n
    | _ => false

/-- Where a key stands in a map, and what is with it. -/
def mfind (q : KeyC) (k : Tree) : List (Tree × Tree) → Nat → Option (Option (Nat × Tree))
  | [], _ => some none
  | (y, v) :: r, i => match keyEq q k y with
    | some true => some (some (i, v))
    | some false => mfind q k r (i + 1)
    | none => none

/-- What a map has of a key, with 'z' for nothing. -/
def wlook (q : KeyC) (G : World') (id : Nat) (k z : Tree) : Option (Bool × Tree) :=
  match nth G id with
  | some (.map es) => match mfind q k es 0 with
    | some (some (_, v)) => some (true, v)
    | some none => some (false, z)
    | none => none
  | _ => none

def wput (q : KeyC) (G : World') (id : Nat) (k v : Tree) : Option World' :=
  match nth G id with
  | some (.map es) => match mfind q k es 0 with
    | some (some (i, _)) => some (setN G id (.map (setN es i (k, v))))
    | some none => some (setN G id (.map (es ++ [(k, v)])))
    | none => none
  | _ => none

def wlenM (G : World') (id : Nat) : Option Nat :=
  match nth G id with
  | some (.map es) => some es.length
  | _ => none

def wcells (G : World') (id : Nat) : Nat → List Sh → (List Tree → Option α) → Option α
  | _, [], K => K []
  | j, s :: l, K => (wcell G id j).bind fun x => bif s.ok x then wcells G id (j + 1) l fun r => K (s.open x :: r) else none

def loadW (s : Sh) (G : World') (id j : Nat) (K : AV → Option α) : Option α :=
  match s with
  | .agg [] => none
  | .agg l => wcells G id j l fun xs => K (.t (.agg xs))
  | s => (wcell G id j).bind fun x => bif s.ok x then K (.t (s.open x)) else none

def storeW (s : Sh) (G : World') (id j : Nat) (x : Tree) (K : World' → Option α) : Option α :=
  match s with
  | .agg l => match x with
    | .agg cs => bif Nat.beq cs.length l.length then (wset G id j cs).bind K else none
    | _ => none
  | _ => (wset G id j [x]).bind K

/-- Values as trees: what they lead to is written by nobody any more. -/
def treesOf (args : List AV) (rd : Rd) (K : List Tree → List (Nat × HObj) → Option α) : Option α :=
  match allT args with
  | some xs => K xs []
  | none =>
    match freezes (memN (discover rd 4096 (AV.refsL args) [])) rd (discover rd 4096 (AV.refsL args) []) with
    | none => none
    | some wr => match mapO (toTree (memN (discover rd 4096 (AV.refsL args) [])) rd depth) args with
      | none => none
      | some xs => K xs wr

/-- A constant as a tree. -/
def zTree : AV → Option Tree
  | .t x => some x
  | .nilS => some (.slc [])
  | _ => none

def withW (rd : Rd) (K : World' → Option α) : Option α :=
  match rd 0 with
  | .wld G => K G
  | _ => none

/-! ### calls -/
structure Fns where
  /-- a call whose arguments are trees and whose result is one -/
  pf : Nat → List Tree → Option Tree
  /-- a call over a heap of its own, which is handed back -/
  rf : Nat → List AV → Heap → Option (AV × Heap)
  /-- may it be called so? -/
  ok : Nat → List AV → Heap → Bool
  /-- a call that is handed the world -/
  wf : Nat → List Tree → World' → Option (Tree × World')

def callT (F : Fns) (x : Tree) (xs : List Tree) : Option Tree :=
  match x with
  | .fn g a c => F.pf g (a ++ xs ++ c)
  | _ => none

/-- Back from a callee's heap: its first m blocks are the caller's 'seen', its others go behind c, in the order of 'out'. -/
def backR (seen out : List Nat) (c m : Nat) (i : Nat) : Option Nat :=
  match nth seen i with
  | some b => some b
  | none => match idxN out i with
    | some p => some (c + (p - m))
    | none => none

def zipB : List Nat → Heap → List (Nat × HObj)
  | b :: l, o :: h => (b, o) :: zipB l h
  | _, _ => []

def renH (ρ : Nat → Option Nat) : Heap → Heap
  | [] => []
  | o :: h => HObj.ren ρ o :: renH ρ h

def ltAllN (c : Nat) : List Nat → Bool
  | [] => true
  | b :: r => bif Nat.blt b c then ltAllN c r else false

def noWldL (rd : Rd) : List Nat → Bool
  | [] => true
  | b :: l => match rd b with
    | .wld _ => false
    | _ => noWldL rd l

/-- A call over a heap of its own: 'seen': the blocks that it is handed. -/
def callR (F : Fns) (g : Nat) (args : List AV) (rd : Rd) (c : Nat) (seen : List Nat) (K : AV → Delta → Option α) : Option α :=
  bif ((nodupN seen && ltAllN c seen) && noWldL rd seen) && F.ok g (AV.renL (idxN seen) args) (objs rd (idxN seen) seen) then
    (F.rf g (AV.renL (idxN seen) args) (objs rd (idxN seen) seen)).bind fun r =>
      backTo rd c seen (seenFrom seen.length r.2 [r.1]) r K
  else none
where
  backTo (rd : Rd) (c : Nat) (seen out : List Nat) (r : AV × Heap) (K : AV → Delta → Option α) : Option α :=
    bif Nat.ble seen.length r.2.length && nodupN out then
      K (AV.ren (backR seen out c seen.length) r.1) ⟨zipB seen (objs (rdH r.2) (backR seen out c seen.length) (upTo seen.length)), objs (rdH r.2) (backR seen out c seen.length) (out.drop seen.length)⟩
    else none

mutual
def shEq : Sh → Sh → Bool
  | .int k, .int k' => kindEq k k'
  | .bool, .bool => true
  | .str, .str => true
  | .slc, .slc => true
  | .any, .any => true
  | .wp, .wp => true
  | .wm, .wm => true
  | .agg l, .agg l' => shEqs l l'
  | .tup l, .tup l' => shEqs l l'
  | _, _ => false
def shEqs : List Sh → List Sh → Bool
  | [], [] => true
  | s :: l, s' :: l' => bif shEq s s' then shEqs l l' else false
  | _, _ => false
end

def aggCs (v : AV) : List AV :=
  match v with
  | .agg cs => cs
  | .t (.agg cs) => cs.map .t
  | _ => []

def headT (l : List AV) : Tree :=
  match l with
  | .t x :: _ => x
  | _ => .nilp

/-- All cells trees of their shapes but the last, which is a row of trees of the shape s. -/
def rowForm (s : Sh) (H : Heap) : List Sh → List AV → Bool
  | [.slc], [.hsl b none] => (match rdH H b with
    | .tre s' _ => shEq s s'
    | _ => false)
  | q :: l, .t x :: r => bif q.ok x then rowForm s H l r else false
  | _, _ => false

def rowOf (H : Heap) : List AV → List Tree
  | [.hsl b none] => (match rdH H b with
    | .tre _ xs => xs
    | _ => [])
  | _ :: r => rowOf H r
  | [] => []

def rowOpen (c : Nat) : List Sh → List AV → List AV
  | [.slc], _ => [.hsl c none]
  | q :: l, r => .t (q.open (headT r)) :: rowOpen c l r.tail
  | [], _ => []

/-- All cells trees of their shapes but the last, which is nil. -/
def nilForm : List Sh → List AV → Bool
  | [.slc], [.nilS] => true
  | q :: l, .t x :: r => bif q.ok x then nilForm l r else false
  | _, _ => false

def nilOpen : List Sh → List AV → List AV
  | [.slc], _ => [.nilS]
  | q :: l, r => .t (q.open (headT r)) :: nilOpen l r.tail
  | [], _ => []

/-- A call over a heap of its own whose result is a struct of trees and, behind them, a row of structs of the same shape (or nil): laid open without a look at how it was made. -/
def callO (F : Fns) (g : Nat) (l : List Sh) (args : List AV) (c : Nat) (K : AV → Delta → Option α) : Option α :=
  bif F.ok g args [] then (F.rf g args []).bind fun r =>
    bif rowForm (.agg l) r.2 l (aggCs r.1) then K (.agg (rowOpen c l (aggCs r.1))) ⟨[], [.tre (.agg l) (rowOf r.2 (aggCs r.1))]⟩
    else bif nilForm l (aggCs r.1) then K (.agg (nilOpen l (aggCs r.1))) ⟨[], []⟩ else none
  else none

/-- A call over a heap of its own whose result is a clipped slice of trees. -/
def clipOf (v : AV) : List Tree :=
  match v with
  | .clip es => es
  | _ => []

def isClip (v : AV) : Bool :=
  match v with
  | .clip _ => true
  | _ => false

def callC (F : Fns) (g : Nat) (args : List AV) (c : Nat) (K : AV → Delta → Option α) : Option α :=
  bif F.ok g args [] then (F.rf g args []).bind fun r => bif isClip r.1 then K (.clip (clipOf r.1)) ⟨[], []⟩ else none
  else none

/-- 'md': false: the arguments as trees, and the result one; true: over a heap of its own, handed over and back. -/
def callA (F : Fns) (md : Bool) (g : Nat) (s : Sh) (args : List AV) (rd : Rd) (c : Nat) (K : AV → Delta → Option α) : Option α :=
  match md with
  | false =>
    (match allT args with
     | some xs => (F.pf g xs).bind fun y => bif s.ok y then K (.t (s.open y)) .none else none
     | none =>
       match freezes (memN (discover rd 4096 (AV.refsL args) [])) rd (discover rd 4096 (AV.refsL args) []) with
       | none => none
       | some wr => match mapO (toTree (memN (discover rd 4096 (AV.refsL args) [])) rd depth) args with
         | none => none
         | some xs => (F.pf g xs).bind fun y => bif s.ok y then K (.t (s.open y)) (bif s.flat then .none else ⟨wr, []⟩) else none)
  | true =>
    (match allT args, s with
     | some _, .agg l => callO F g l args c K
     | some _, .slc => callC F g args c K
     | _, _ => callR F g args rd c (discover rd 4096 (AV.refsL args) []) K)

def callV (F : Fns) (x : AV) (s : Sh) (args : List AV) (rd : Rd) (c : Nat) (K : AV → Delta → Option α) : Option α :=
  match x with
  | .t x =>
    (match allT args with
     | some xs => (callT F x xs).bind fun y => bif s.ok y then K (.t (s.open y)) .none else none
     | none => match x with
       | .fn g a b => callA F false g s (a.map .t ++ args ++ b.map .t) rd c K
       | _ => none)
  | .fn g a b => callA F false g s (a ++ args ++ b) rd c K
  | _ => none

/-- The arguments that a mask marks, and what is put in their places. -/
def pickM : List Bool → List AV → List AV
  | true :: m, x :: l => x :: pickM m l
  | false :: m, _ :: l => pickM m l
  | _, _ => []

def putM : List Bool → List AV → List Tree → List AV
  | true :: m, _ :: l, y :: r => .t y :: putM m l r
  | false :: m, x :: l, r => x :: putM m l r
  | _, l, _ => l

def wrF : Rd → List (Nat × HObj) → Rd
  | rd, [] => rd
  | rd, (b, o) :: r => wrF (fun x => bif Nat.beq x b then o else rd x) r

/-- A value of a tuple as a tree. -/
def extfA (n : Nat) (v : AV) (rd : Rd) (K : AV → Delta → Option α) : Option α :=
  match v with
  | .t (.tup l) => (nth l n).bind fun y => K (.t y) .none
  | .tup l => (nth l n).bind fun y => treesOf [y] rd fun xs wr => K (.t (xs.headD .nilp)) ⟨wr, []⟩
  | _ => none

/-- A call over a heap of its own, some of its arguments trees. -/
def callM (F : Fns) (mask : List Bool) (g : Nat) (args : List AV) (rd : Rd) (c : Nat) (K : AV → Delta → Option α) : Option α :=
  treesOf (pickM mask args) rd fun xs wr =>
    callR F g (putM mask args xs) (wrF rd wr) c (discover (wrF rd wr) 4096 (AV.refsL (putM mask args xs)) []) fun v d => K v ⟨wr ++ d.wr, d.nw⟩

def avT (v : AV) : Tree :=
  match v with
  | .t x => x
  | _ => .nilp

def isT (s : Sh) (v : AV) : Bool :=
  match v with
  | .t x => s.ok x
  | _ => false

/-- A struct of one row, which lies in a block of its own. -/
def gForm (gs ns : Sh) (H : Heap) : Bool :=
  match rdH H 0 with
  | .mix s [.agg [.hsl (b + 1) none]] => shEq gs s && (match rdH H (b + 1) with
    | .tre s' _ => shEq ns s'
    | _ => false)
  | _ => false

def gRow (H : Heap) : List Tree :=
  match rdH H 0 with
  | .mix _ [.agg [.hsl b none]] => (match rdH H b with
    | .tre _ xs => xs
    | _ => [])
  | _ => []

def mForm (ms : Sh) (H : Heap) : Bool :=
  match rdH H 0 with
  | .tre s _ => shEq ms s
  | _ => false

def mRow (H : Heap) : List Tree :=
  match rdH H 0 with
  | .tre _ xs => xs
  | _ => []

def nRes (ty ns : Sh) (v : AV) (H : Heap) : Option (Tree × Option (Nat × List Tree)) :=
  match v with
  | .tup [x, .hsl b none] => treesOf [x] (rdH H) fun xs wr => match wrF (rdH H) wr b with
    | .tre s rows => bif shEq ns s && ty.ok (xs.headD .nilp) then some (xs.headD .nilp, some (b, rows)) else none
    | _ => none
  | .tup [x, .nilS] => treesOf [x] (rdH H) fun xs _ => bif ty.ok (xs.headD .nilp) then some (xs.headD .nilp, none) else none
  | _ => none

def nForm (ty ns : Sh) (v : AV) (H : Heap) : Bool :=
  match nRes ty ns v H with
  | some (_, some _) => true
  | _ => false

def nNil (ty ns : Sh) (v : AV) (H : Heap) : Bool :=
  match nRes ty ns v H with
  | some (_, none) => true
  | _ => false

def nTy (ty ns : Sh) (v : AV) (H : Heap) : Tree :=
  match nRes ty ns v H with
  | some (y, _) => y
  | none => .nilp

def nRow (ty ns : Sh) (v : AV) (H : Heap) : List Tree :=
  match nRes ty ns v H with
  | some (_, some (_, l)) => l
  | _ => []

def bVal (v : AV) : Tree :=
  match v with
  | .tup [_, .t x] => x
  | _ => .nilp

def rowIs (s : Sh) (o : HObj) : Bool :=
  match o with
  | .tre s' _ => shEq s s'
  | _ => false

def rowIn (o : HObj) : List Tree :=
  match o with
  | .tre _ xs => xs
  | _ => []

def bForm (a b : Sh) (v : AV) (H : Heap) : Bool :=
  match v with
  | .tup [.agg [.hsl i none, .hsl j none], .t x] => Sh.bool.ok x && (!Nat.beq i j && (rowIs a (rdH H i) && rowIs b (rdH H j)))
  | _ => false

def bNil (v : AV) : Bool :=
  match v with
  | .tup [.agg [.nilS, .nilS], .t x] => Sh.bool.ok x
  | _ => false

def bRow1 (v : AV) (H : Heap) : List Tree :=
  match v with
  | .tup [.agg [.hsl i none, _], _] => rowIn (rdH H i)
  | _ => []

def bRow2 (v : AV) (H : Heap) : List Tree :=
  match v with
  | .tup [.agg [_, .hsl j none], _] => rowIn (rdH H j)
  | _ => []

/-- What a call hands back, laid out. -/
def layG (k : GK) (s : Sh) (m : Nat) (r : AV × Heap) (K : AV × Heap → Option α) : Option α :=
  match k with
  | .graph gs ns => bif Nat.blt 0 m && (isT s r.1 && gForm gs ns r.2) then K (.t (s.open (avT r.1)), .mix gs [.agg [.hsl m none]] :: (List.replicate (m - 1) .dead ++ [.tre ns (gRow r.2)])) else none
  | .marks ms => bif Nat.beq m 1 && (isT s r.1 && mForm ms r.2) then K (.t (s.open (avT r.1)), [.tre ms (mRow r.2)]) else none
  | .names ty ns => bif nForm ty ns r.1 r.2 then K (.tup [.t (ty.open (nTy ty ns r.1 r.2)), .hsl m none], List.replicate m .dead ++ [.tre ns (nRow ty ns r.1 r.2)])
      else bif nNil ty ns r.1 r.2 && Nat.beq m 0 then K (.tup [.t (ty.open (nTy ty ns r.1 r.2)), .nilS], []) else none
  | .two a b => bif bForm a b r.1 r.2 then K (.tup [.agg [.hsl m none, .hsl (m + 1) none], .t (Sh.bool.open (bVal r.1))], List.replicate m .dead ++ [.tre a (bRow1 r.1 r.2), .tre b (bRow2 r.1 r.2)])
      else bif bNil r.1 && Nat.beq m 0 then K (.tup [.agg [.nilS, .nilS], .t (Sh.bool.open (bVal r.1))], []) else none

def callGR (F : Fns) (k : GK) (s : Sh) (g : Nat) (args : List AV) (rd : Rd) (c : Nat) (seen : List Nat) (K : AV → Delta → Option α) : Option α :=
  bif ((nodupN seen && ltAllN c seen) && noWldL rd seen) && F.ok g (AV.renL (idxN seen) args) (objs rd (idxN seen) seen) then
    (F.rf g (AV.renL (idxN seen) args) (objs rd (idxN seen) seen)).bind fun r =>
      layG k s seen.length r fun r => callR.backTo rd c seen (upTo r.2.length) r K
  else none

/-- A call over a heap of its own, some of its arguments trees, what it hands back laid out. -/
def callG (F : Fns) (k : GK) (s : Sh) (mask : List Bool) (g : Nat) (args : List AV) (rd : Rd) (c : Nat) (K : AV → Delta → Option α) : Option α :=
  treesOf (pickM mask args) rd fun xs wr =>
    callGR F k s g (putM mask args xs) (wrF rd wr) c (discover (wrF rd wr) 4096 (AV.refsL (putM mask args xs)) []) fun v d => K v ⟨wr ++ d.wr, d.nw⟩

/-- A call that is handed the world: the arguments as trees, and the result one. -/
def callW (F : Fns) (g : Nat) (s : Sh) (args : List AV) (rd : Rd) (K : AV → Delta → Option α) : Option α :=
  treesOf args rd fun xs wr => withW rd fun G => (F.wf g xs G).bind fun r => bif s.ok r.1 then K (.t (s.open r.1)) ⟨wr ++ [(0, .wld r.2)], []⟩ else none

def callVW (F : Fns) (x : AV) (s : Sh) (args : List AV) (rd : Rd) (K : AV → Delta → Option α) : Option α :=
  match x with
  | .t (.fn g a b) => callW F g s (a.map .t ++ args ++ b.map .t) rd K
  | .fn g a b => callW F g s (a ++ args ++ b) rd K
  | _ => none

/-! ### one operation -/
def optI (ts : List AV) (o : Option Opd) (d : Int) (K : Int → Option α) : Option α :=
  match o with
  | none => K d
  | some x => asI (ev ts x) fun _ n => K n

def fills (ts : List AV) : List AV → List (Nat × Sh × Opd) → (List AV → Option α) → Option α
  | cs, [], K => K cs
  | cs, (off, s, x) :: r, K => cellsBy s (ev ts x) fun new => bif Nat.ble (off + new.length) cs.length then fills ts (splice cs off new) r K else none

def elemFills (ts : List AV) (s : Sh) : List AV → List (Nat × Opd) → (List AV → Option α) → Option α
  | es, [], K => K es
  | es, (i, x) :: r, K => cellsBy s (ev ts x) fun _ => bif Nat.ble (i + 1) es.length then elemFills ts s (setN es i (ev ts x)) r K else none

def reps (n : Nat) (z : AV) : Els :=
  match z with
  | .t x => .tr (List.replicate n x)
  | z => .av (List.replicate n z)

def evOp (F : Fns) (o : IOp) (ts : List AV) (rd : Rd) (c : Nat) (K : AV → Delta → Option α) : Option α :=
  match o with
  | .mov x => K (ev ts x) .none
  | .nonnil x => match ev ts x with
    | .href b i j => K (.href b i j) .none
    | .t (.ptr e j) => K (.t (.ptr e j)) .none
    | .t (.wp i j) => K (.t (.wp i j)) .none
    | _ => none
  | .pick x a b => asB (ev ts x) fun t => bif t then K (ev ts a) .none else K (ev ts b) .none
  | .new s z => cellsBy s z fun _ => K (.href c 0 0) ⟨[], [mkRow s [z]]⟩
  | .box s x => cellsBy s (ev ts x) fun _ => K (.href c 0 0) ⟨[], [mkRow s [ev ts x]]⟩
  | .build z ps => fills ts z ps fun cs => K (mkAgg cs) .none
  | .bsl s z n ps => cellsBy s z fun _ => elemFills ts s (List.replicate n z) ps fun es => K (.hsl c (some n)) ⟨[], [mkRow s es]⟩
  | .ld s x => match ev ts x with
    | .href b i j => ldRow s (rd b) i j fun v => K v .none
    | .t (.ptr e j) => loadBy s j (AV.cells (.t e)) fun v => K v .none
    | .t (.wp i j) => withW rd fun G => loadW s G i j fun v => K v .none
    | _ => none
  | .st s x v => match ev ts x with
    | .t (.wp i j) => treesOf [ev ts v] rd fun xs wr => withW rd fun G => storeW s G i j (xs.headD .nilp) fun G' => K .undef ⟨wr ++ [(0, .wld G')], []⟩
    | .href b i j => cellsBy s (ev ts v) fun new => storeTo (rd b) i j new fun o => K .undef ⟨[(b, o)], []⟩
    | _ => none
  | .bin o x y => binA o (ev ts x) (ev ts y) fun v => K v .none
  | .eqs neq q x y => (match eqA q (ev ts x) (ev ts y) with
    | some b => (match neq with
      | true => K (.t (.bool (!b))) .none
      | false => K (.t (.bool b)) .none)
    | none => none)
  | .un o x => unA o (ev ts x) fun v => K v .none
  | .conv k x => asI (ev ts x) fun _ n => K (.t (.int k (k.wrap n))) .none
  | .mkf g a b => match allT (evs ts a), allT (evs ts b) with
    | some a', some b' => K (.t (.fn g a' b')) .none
    | _, _ => K (.fn g (evs ts a) (evs ts b)) .none
  | .mks s bytes z l m => cellsBy s z fun _ => asI (ev ts l) fun _ l => asI (ev ts m) fun _ m =>
      bif decide (0 ≤ l) && (decide (l ≤ m) && decide (m * bytes ≤ 140737488355328) && decide (m ≤ 140737488355328)) then K (.hsl c (some m.toNat)) ⟨[], [(reps l.toNat z).row s]⟩ else none
  | .sub s x lo hi mx => match mx with
    | none => lenOf rd (ev ts x) fun n => optI ts lo 0 fun l => optI ts hi n fun h =>
        bif decide (0 ≤ l) && (decide (l ≤ h) && decide (h ≤ n)) then
          (match ev ts x with
           | .t (.slc es) => bif firstOk s ((es.take h.toNat).drop l.toNat) then K (.t (.slc ((es.take h.toNat).drop l.toNat))) .none else none
           | .clip es => bif firstOk s ((es.take h.toNat).drop l.toNat) then K (.t (.slc ((es.take h.toNat).drop l.toNat))) .none else none
           | .nilS => K .nilS .none
           | .hsl b _ => bif Nat.beq (rd b).sh.width s.width then K (.hsub b l.toNat (h.toNat - l.toNat)) .none else none
           | .hsub b off _ => bif Nat.beq (rd b).sh.width s.width then K (.hsub b (off + l.toNat) (h.toNat - l.toNat)) .none else none
           | _ => none) else none
    | some mx => lenOf rd (ev ts x) fun n => optI ts lo 0 fun l => optI ts hi n fun h => asI (ev ts mx) fun _ m =>
        bif decide (0 ≤ l) && (decide (l ≤ h) && (decide (h = m) && decide (h ≤ n))) then
          (match ev ts x with
           | .t (.slc es) => bif firstOk s ((es.take h.toNat).drop l.toNat) then K (.clip ((es.take h.toNat).drop l.toNat)) .none else none
           | .clip es => bif firstOk s ((es.take h.toNat).drop l.toNat) then K (.clip ((es.take h.toNat).drop l.toNat)) .none else none
           | .nilS => K .nilS .none
           | _ => none) else none
  | .subs x lo hi => match ev ts x with
    | .t (.str s) => optI ts lo 0 fun l => optI ts hi s.length fun h =>
        bif decide (0 ≤ l) && (decide (l ≤ h) && decide (h ≤ s.length)) then K (.t (.str ((s.take h.toNat).drop l.toNat))) .none else none
    | _ => none
  | .fa off x => match ev ts x with
    | .href b i j => K (.href b i (j + off)) .none
    | .t (.ptr e j) => K (.t (.ptr e (j + off))) .none
    | .t (.wp i j) => K (.t (.wp i (j + off))) .none
    | _ => none
  | .fld off s x => match ev ts x with
    | .t (.agg cs) => loadBy s off (cs.map .t) fun v => K v .none
    | .agg cs => loadBy s off cs fun v => K v .none
    | _ => none
  | .ia s x i => asI (ev ts i) fun _ i => match ev ts x with
    | .t (.slc es) => bif decide (0 ≤ i) then (nth es i.toNat).bind fun e => bif s.ok e then K (.t (.ptr (s.open e) 0)) .none else none else none
    | .clip es => bif decide (0 ≤ i) then (nth es i.toNat).bind fun e => bif s.ok e then K (.t (.ptr (s.open e) 0)) .none else none else none
    | .hsl b _ => match objEls (rd b) with
      | some l => bif decide (0 ≤ i) && (decide (i < l.length) && Nat.beq (rd b).sh.width s.width) then K (.href b i.toNat 0) .none else none
      | none => none
    | .hsub b off len => match objEls (rd b) with
      | some _ => bif decide (0 ≤ i) && (decide (i < len) && Nat.beq (rd b).sh.width s.width) then K (.href b (off + i.toNat) 0) .none else none
      | none => none
    | _ => none
  | .iaa s n x i => asI (ev ts i) fun _ i => bif decide (0 ≤ i) && decide (i < n) then
      (match ev ts x with
       | .href b k j => K (.href b k (j + i.toNat * s.width)) .none
       | .t (.ptr e j) => K (.t (.ptr e (j + i.toNat * s.width))) .none
       | _ => none) else none
  | .ixa s n x i => asI (ev ts i) fun _ i => bif decide (0 ≤ i) && decide (i < n) then
      (match ev ts x with
       | .t (.agg cs) => loadBy s (i.toNat * s.width) (cs.map .t) fun v => K v .none
       | .agg cs => loadBy s (i.toNat * s.width) cs fun v => K v .none
       | _ => none) else none
  | .ixs x i => asI (ev ts i) fun _ i => match ev ts x with
    | .t (.str s) => bif decide (0 ≤ i) then (nth s i.toNat).bind fun b => K (.t (.int .u8 b.toNat)) .none else none
    | _ => none
  | .ext n x => match ev ts x with
    | .t (.tup l) => (nth l n).bind fun y => K (.t y) .none
    | .tup l => (nth l n).bind fun y => K y .none
    | _ => none
  | .call md g s args => callA F md g s (evs ts args) rd c K
  | .callv x s args => callV F (ev ts x) s (evs ts args) rd c K
  | .len x => lenOf rd (ev ts x) fun n => K (.t (.int .i64 n)) .none
  | .lens x => match ev ts x with
    | .t (.str s) => K (.t (.int .i64 s.length)) .none
    | _ => none
  | .cap x => match ev ts x with
    | .nilS => K (.t (.int .i64 0)) .none
    | .clip es => K (.t (.int .i64 es.length)) .none
    | .hsl b (some n) => match objEls (rd b) with
      | some _ => K (.t (.int .i64 n)) .none
      | none => none
    | _ => none
  | .mn x y => asI (ev ts x) fun k a => asI (ev ts y) fun _ b => K (.t (.int k (imin a b))) .none
  | .mx x y => asI (ev ts x) fun k a => asI (ev ts y) fun _ b => K (.t (.int k (imax a b))) .none
  | .app s bytes x y => elsOf s rd (ev ts y) fun new => appTo s bytes (ev ts x) new
  | .appz s bytes z x n => cellsBy s z fun _ => asI (ev ts n) fun _ n => bif decide (1 ≤ n) && decide (n * bytes ≤ 140737488355328) then (match ev ts x with
      | .nilS => K (.hsl c none) ⟨[], [(reps n.toNat z).row s]⟩
      | _ => none) else none
  | .copy _ _ _ => none
  | .clr s z x => cellsBy s z fun _ => lenOf rd (ev ts x) fun n => bif Nat.beq n 0 then K (.t (.tup [])) .none else (match ev ts x with
    | .hsl b _ => clrTo s b 0 n z
    | .hsub b off _ => clrTo s b off n z
    | _ => none)
  | .clone s bytes x => elsOf s rd (ev ts x) fun l => bif Nat.ble (l.length * bytes) 140737488355328 then K (.hsl c none) ⟨[], [l.row s]⟩ else none
  | .carry sub x y z => asI (ev ts x) fun _ x => asI (ev ts y) fun _ y => asI (ev ts z) fun _ z =>
      bif decide (z = 0) || decide (z = 1) then
        (match sub with
         | false => K (.t (.tup [.int .u64 (gate x (gate y ((x.toNat + y.toNat + z.toNat) % 18446744073709551616 : Nat))), .int .u64 (gate x (gate y ((x.toNat + y.toNat + z.toNat) / 18446744073709551616 : Nat)))])) .none
         | true => K (.t (.tup [.int .u64 (gate x (gate y ((x.toNat + 18446744073709551616 - y.toNat - z.toNat) % 18446744073709551616 : Nat))), .int .u64 (gate x (gate y (bif decide (x.toNat < y.toNat + z.toNat) then 1 else 0)))])) .none)
      else none
  | .wnew s z => cellsBy s z fun cs => match mapO zTree cs with
    | some xs => withW rd fun G => bif xs.all Tree.isSc then K (.t (.wp G.length 0)) ⟨[(0, .wld (G ++ [.cells xs]))], []⟩ else none
    | none => none
  | .wbox s x => cellsBy s (ev ts x) fun cs => treesOf cs rd fun xs wr => withW rd fun G => bif xs.all Tree.isSc then K (.t (.wp G.length 0)) ⟨wr ++ [(0, .wld (G ++ [.cells xs]))], []⟩ else none
  | .callm mask g args => callM F mask g (evs ts args) rd c K
  | .extf n x => extfA n (ev ts x) rd K
  | .mki t x => treesOf [ev ts x] rd fun xs wr => K (.t (.ifc t (xs.headD .nilp))) ⟨wr, []⟩
  | .tas ok t s z x => match ev ts x with
    | .t (.ifc t' v) => bif Nat.beq t' t then (bif s.ok v then (match ok with
        | true => K (.t (.tup [s.open v, .bool true])) .none
        | false => K (.t (s.open v)) .none) else none)
      else (match ok, zTree z with
        | true, some z => K (.t (.tup [z, .bool false])) .none
        | _, _ => none)
    | .t .nili => (match ok, zTree z with
        | true, some z => K (.t (.tup [z, .bool false])) .none
        | _, _ => none)
    | _ => none
  | .callg k s mask g args => callG F k s mask g (evs ts args) rd c K
  | .wmk => withW rd fun G => K (.t (.wm G.length)) ⟨[(0, .wld (G ++ [.map []]))], []⟩
  | .wget q ok s z x k => match ev ts x, zTree z with
    | .t (.wm i), some z => treesOf [ev ts k] rd fun ks wr => bif keyIs q (ks.headD .nilp) then withW rd fun G => (wlook q G i (ks.headD .nilp) z).bind fun y =>
        (match ok with
         | true => bif y.1 then (bif s.ok y.2 then K (.t (.tup [s.open y.2, .bool true])) ⟨wr, []⟩ else none) else K (.t (.tup [z, .bool false])) ⟨wr, []⟩
         | false => bif s.ok y.2 then K (.t (s.open y.2)) ⟨wr, []⟩ else none) else none
    | _, _ => none
  | .wput q x k v => match ev ts x with
    | .t (.wm i) => treesOf [ev ts k, ev ts v] rd fun xs wr => bif keyIs q (xs.headD .nilp) then withW rd fun G => (wput q G i (xs.headD .nilp) (xs.tail.headD .nilp)).bind fun G' => K .undef ⟨wr ++ [(0, .wld G')], []⟩ else none
    | _ => none
  | .wlen x => match ev ts x with
    | .t (.wm i) => withW rd fun G => (wlenM G i).bind fun n => K (.t (.int .i64 n)) .none
    | _ => none
  | .callw g s args => callW F g s (evs ts args) rd K
  | .callvw x s args => callVW F (ev ts x) s (evs ts args) rd K
  | .pan _ => none
  | .fail => none
where
  appTo (s : Sh) (bytes : Nat) (x : AV) (new : Els) : Option α :=
    match x with
    | .nilS => bif Nat.ble (new.length * bytes) 140737488355328 then K (.hsl c none) ⟨[], [new.row s]⟩ else none
    | .clip es => bif firstOk s es && ((Nat.ble 1 new.length || Nat.beq es.length 0) && Nat.ble ((es.length + new.length) * bytes) 140737488355328) then K (.hsl c none) ⟨[], [(Els.app (.tr es) new).row s]⟩ else none
    | .hsl b _ => match rd b with
      | .tre s' es => bif Nat.beq s'.width s.width && Nat.ble ((es.length + new.length) * bytes) 140737488355328 then K (.hsl c none) ⟨[(b, .dead)], [(Els.app (.tr es) new).row s]⟩ else none
      | .mix s' es => bif Nat.beq s'.width s.width && Nat.ble ((es.length + new.length) * bytes) 140737488355328 then K (.hsl c none) ⟨[(b, .dead)], [(Els.app (.av es) new).row s]⟩ else none
      | _ => none
    | .hsub b 0 len => match rd b with
      | .tre s' es => bif Nat.beq s'.width s.width && (Nat.ble len es.length && Nat.ble ((len + new.length) * bytes) 140737488355328) then K (.hsl c none) ⟨[(b, .dead)], [(Els.app (.tr (es.take len)) new).row s]⟩ else none
      | .mix s' es => bif Nat.beq s'.width s.width && (Nat.ble len es.length && Nat.ble ((len + new.length) * bytes) 140737488355328) then K (.hsl c none) ⟨[(b, .dead)], [(Els.app (.av (es.take len)) new).row s]⟩ else none
      | _ => none
    | _ => none
  clrTo (s : Sh) (b off n : Nat) (z : AV) : Option α :=
    match rd b with
    | .tre s' es => bif Nat.beq s'.width s.width then wipe b s' off n (.tr es) z else none
    | .mix s' es => bif Nat.beq s'.width s.width then wipe b s' off n (.av es) z else none
    | _ => none
  wipe (b : Nat) (s : Sh) (off n : Nat) (old : Els) (z : AV) : Option α :=
    bif Nat.ble (off + n) old.length then K (.t (.tup [])) ⟨[(b, (((old.take off).app (reps n z)).app (old.drop (off + n))).row s)], []⟩ else none

/-! ### regions, code, functions -/
def putS (ts : List AV) (d : Option Nat) (v : AV) : List AV :=
  match d with
  | some d => setN ts d v
  | none => ts

def setB (ts : List AV) (x : Nat) (b : Bool) : List AV := setN ts x (.t (.bool b))

def belowN (n : Nat) : List (Nat × HObj) → Bool
  | [] => true
  | (b, _) :: r => bif Nat.blt b n then belowN n r else false

def avB : AV → List Nat
  | .hsl b _ => [b]
  | .hsub b _ _ => [b]
  | .href b _ _ => [b]
  | .t (.wp _ _) => [0]
  | .t (.wm _) => [0]
  | _ => []

def treesFoot (args : List AV) (rd : Rd) : List Nat := discover rd 4096 (AV.refsL args) []

def argsFoot (md : Bool) (s : Sh) (args : List AV) (rd : Rd) : List Nat × List Nat :=
  match md with
  | false => (match allT args with
    | some _ => ([], [])
    | none => bif s.flat then (discover rd 4096 (AV.refsL args) [], []) else ([], discover rd 4096 (AV.refsL args) []))
  | true => ([], discover rd 4096 (AV.refsL args) [])

def extfFoot (n : Nat) (v : AV) (rd : Rd) : List Nat :=
  match v with
  | .tup l => (match nth l n with
    | some y => treesFoot [y] rd
    | none => [])
  | _ => []

def callMFoot (mask : List Bool) (args : List AV) (rd : Rd) : List Nat :=
  match treesOf (pickM mask args) rd (fun xs wr => some (discover (wrF rd wr) 4096 (AV.refsL (putM mask args xs)) [])) with
  | some l => l
  | none => []

/-- The blocks that an operation looks at, and those that it writes. -/
def foot (o : IOp) (ts : List AV) (rd : Rd) : List Nat × List Nat :=
  match o with
  | .ld _ x => (avB (ev ts x), [])
  | .st _ x v => (match ev ts x with
    | .t (.wp _ _) => ([], 0 :: treesFoot [ev ts v] rd)
    | x => ([], avB x))
  | .wnew _ _ => ([], [0])
  | .wbox _ x => ([], 0 :: treesFoot (ev ts x).cells rd)
  | .extf n x => ([], extfFoot n (ev ts x) rd)
  | .mki _ x => ([], treesFoot [ev ts x] rd)
  | .callg _ _ mask _ args => ([], treesFoot (pickM mask (evs ts args)) rd ++ callMFoot mask (evs ts args) rd)
  | .callm mask _ args => ([], treesFoot (pickM mask (evs ts args)) rd ++ callMFoot mask (evs ts args) rd)
  | .wmk => ([], [0])
  | .wget _ _ _ _ _ k => ([0], treesFoot [ev ts k] rd)
  | .wput _ _ k v => ([], 0 :: treesFoot [ev ts k, ev ts v] rd)
  | .wlen _ => ([0], [])
  | .callw _ _ args => ([], 0 :: treesFoot (evs ts args) rd)
  | .callvw x _ args => (match ev ts x with
    | .t (.fn _ a b) => ([], 0 :: treesFoot (a.map .t ++ evs ts args ++ b.map .t) rd)
    | .fn _ a b => ([], 0 :: treesFoot (a ++ evs ts args ++ b) rd)
    | _ => ([], []))
  | .sub _ x _ _ _ => (avB (ev ts x), [])
  | .ia _ x _ => (avB (ev ts x), [])
  | .len x => (avB (ev ts x), [])
  | .cap x => (avB (ev ts x), [])
  | .app _ _ x y => (avB (ev ts y), avB (ev ts x))
  | .appz _ _ _ x _ => ([], avB (ev ts x))
  | .clr _ _ x => ([], avB (ev ts x))
  | .clone _ _ x => (avB (ev ts x), [])
  | .call md g s args => argsFoot md s (evs ts args) rd
  | .callv x s args => (match ev ts x with
    | .t x => (match allT (evs ts args) with
      | some _ => ([], [])
      | none => match x with
        | .fn _ a b => argsFoot false s (a.map .t ++ evs ts args ++ b.map .t) rd
        | _ => ([], []))
    | .fn _ a b => argsFoot false s (a ++ evs ts args ++ b) rd
    | _ => ([], []))
  | _ => ([], [])

/-- One operation of a region with its guard. -/
def operV (F : Fns) (o : IOper) (ts : List AV) (rd : Rd) (c : Nat) (K : List AV → Delta → List Nat × List Nat → Option α) : Option α :=
  match o.g with
  | none => evOp F o.op ts rd c fun v d => K (putS ts o.dst v) d (foot o.op ts rd)
  | some (g, want) => match slot ts g with
    | .t (.bool b) => bif b then (match want with
        | true => evOp F o.op (setB ts g true) rd c fun v d => K (putS (setB ts g true) o.dst v) d (foot o.op (setB ts g true) rd)
        | false => K (putS (setB ts g true) o.dst .undef) .none ([], []))
      else (match want with
        | true => K (putS (setB ts g false) o.dst .undef) .none ([], [])
        | false => evOp F o.op (setB ts g false) rd c fun v d => K (putS (setB ts g false) o.dst v) d (foot o.op (setB ts g false) rd))
    | .undef => K (putS ts o.dst .undef) .none ([], [])
    | _ => none

def evOper (F : Fns) (o : IOper) (st : St) (K : St → Option α) : Option α :=
  operV F o st.ts (rdH st.H) st.H.length fun ts d _ => bif belowN st.H.length d.wr then K ⟨ts, d.to st.H⟩ else none

def evOps (F : Fns) : List IOper → St → (St → Option α) → Option α
  | [], st, K => K st
  | o :: r, st, K => evOper F o st fun st' => evOps F r st' K

/-! ### a region that draws its order: reckoned in the text's order; what each operation reads and writes is kept, and two that nothing orders must not clash -/
def fromN : Nat → Nat → List Nat
  | _, 0 => []
  | c, n + 1 => c :: fromN (c + 1) n

def subN : List Nat → List Nat → Bool
  | [], _ => true
  | x :: r, l => bif memN l x then subN r l else false

def keysN : List (Nat × HObj) → List Nat
  | [] => []
  | (b, _) :: r => b :: keysN r

def apartN : List Nat → List Nat → Bool
  | [], _ => true
  | x :: r, l => bif memN l x then false else apartN r l

def clash (a b : List Nat × List Nat) : Bool :=
  !(apartN a.2 b.1 && (apartN a.2 b.2 && apartN a.1 b.2))

/-- Of the operations behind 'a' (their bits begin at j): none that nothing orders against it clashes with it. -/
def clearOf (i : Nat) (a : List Nat × List Nat) : List Nat → List (List Nat × List Nat) → Bool
  | m :: bef, b :: r => bif Nat.testBit m i || !clash a b then clearOf i a bef r else false
  | _, _ => true

def allClear : Nat → List Nat → List (List Nat × List Nat) → Bool
  | i, _ :: bef, a :: r => bif clearOf i a bef r then allClear (i + 1) bef r else false
  | _, _, _ => true

/-- With the blocks that it makes. -/
def footN (f : List Nat × List Nat) (c : Nat) (nw : List HObj) : List Nat × List Nat := (f.1, f.2 ++ fromN c nw.length)

def evOperD (F : Fns) (o : IOper) (st : St) (K : List Nat × List Nat → St → Option α) : Option α :=
  operV F o st.ts (rdH st.H) st.H.length fun ts d fp => bif belowN st.H.length d.wr && subN (keysN d.wr) fp.2 then K (footN fp st.H.length d.nw) ⟨ts, d.to st.H⟩ else none

def evDops (F : Fns) (bef : List Nat) : List IOper → List (List Nat × List Nat) → St → (St → Option α) → Option α
  | [], acc, st, K => bif allClear 0 bef acc then K st else none
  | o :: r, acc, st, K => evOperD F o st fun a st' => evDops F bef r (acc ++ [a]) st' K

inductive IExit where
  | normal
  | exit (id : Nat)
  | ret

def evLoop (m : Nat) (live : List Nat) (body : St → (IExit → St → Option α) → Option α) : Nat → St → (IExit → St → Option α) → Option α
  | 0, _, _ => none
  | n + 1, st, K => body st fun e st' => match e with
    | .normal => norm m live st' fun st'' => evLoop m live body n st'' K
    | .exit id => K (.exit id) st'
    | .ret => K .ret st'

def evC (F : Fns) (n m : Nat) : ICode → St → (IExit → St → Option α) → Option α
  | .skip, st, K => K .normal st
  | .reg ops, st, K => evOps F ops st fun st' => K .normal st'
  | .dreg ops bef, st, K => evDops F bef ops [] st fun st' => K .normal st'
  | .seq a b, st, K => evC F n m a st fun e st' => match e with
    | .normal => evC F n m b st' K
    | .exit id => K (.exit id) st'
    | .ret => K .ret st'
  | .cond c a b, st, K => asB (ev st.ts c) fun t => match c with
    | .s i => bif t then evC F n m a ⟨setB st.ts i true, st.H⟩ K else evC F n m b ⟨setB st.ts i false, st.H⟩ K
    | _ => bif t then evC F n m a st K else evC F n m b st K
  | .block id b, st, K => evC F n m b st fun e st' => match e with
    | .normal => K .normal st'
    | .exit i => bif Nat.beq i id then K .normal st' else K (.exit i) st'
    | .ret => K .ret st'
  | .loop live b, st, K => norm m live st fun st' => evLoop m live (fun s K' => evC F n m b s K') n st' K
  | .exit id, st, K => K (.exit id) st
  | .ret, st, K => K .ret st

def resA (st : St) : List IRes → (List AV → Option α) → Option α
  | [], K => K []
  | .slot t :: r, K => resA st r fun l => K (slot st.ts t :: l)
  | .cell t s :: r, K => match slot st.ts t with
    | .href b i j => elemOf (rdH st.H b) i fun e => loadBy s j e.cells fun v => resA st r fun l => K (v :: l)
    | .t (.ptr e j) => loadBy s j (AV.cells (.t e)) fun v => resA st r fun l => K (v :: l)
    | .t (.wp id j) => withW (rdH st.H) fun G => loadW s G id j fun v => resA st r fun l => K (v :: l)
    | _ => none

def oneA : List AV → AV
  | [x] => x
  | l => mkTup l

end

mutual
/-- Nothing in it leads to the world. -/
def noW : Tree → Bool
  | .agg cs => noWs cs
  | .slc es => noWs es
  | .ptr e _ => noW e
  | .fn _ a c => noWs a && noWs c
  | .tup l => noWs l
  | .wp _ _ => false
  | .wm _ => false
  | .ifc _ x => noW x
  | _ => true
def noWs : List Tree → Bool
  | [] => true
  | x :: l => noW x && noWs l
end

/-- A call's result as a tree: what it has made is written by nobody any more. -/
def pureOf (rf : Nat → List AV → Heap → Option (AV × Heap)) (g : Nat) (xs : List Tree) : Option Tree :=
  (rf g (xs.map .t) []).bind fun r => toTree (fun _ => true) (rdH r.2) depth r.1

/-- The same of a call that is handed the world. -/
def wldOf (rf : Nat → List AV → Heap → Option (AV × Heap)) (g : Nat) (xs : List Tree) (G : World') : Option (Tree × World') :=
  (rf g (xs.map .t) [.wld G]).bind fun r => withW (rdH r.2) fun G' => (toTree (fun _ => true) (rdH r.2) depth r.1).bind fun y => some (y, G')

/-- The same of a call that begins a world of its own. -/
def rootOf (rf : Nat → List AV → Heap → Option (AV × Heap)) (g : Nat) (xs : List Tree) : Option Tree :=
  bif noWs xs then (wldOf rf g xs []).bind fun r => bif noW r.1 then some r.1 else none else none

def pureE (root : Nat → Bool) (rf : Nat → List AV → Heap → Option (AV × Heap)) (g : Nat) (xs : List Tree) : Option Tree :=
  bif root g then rootOf rf g xs else pureOf rf g xs

def start (n : Nat) (args : List AV) : List AV := args ++ List.replicate (n - args.length) .undef

/-- A call over a heap: by the summary where there is one. -/
def Env.rf (E : Env) (rf : Nat → List AV → Heap → Option (AV × Heap)) (g : Nat) (args : List AV) (H : Heap) : Option (AV × Heap) :=
  bif E.has g then E.sum g args H else rf g args H

def Env.ok (E : Env) (g : Nat) (args : List AV) (H : Heap) : Bool := bif E.has g then E.cond g args H else true

def runFn (E : Env) : Nat → Nat → List AV → Heap → Option (AV × Heap)
  | 0, _, _, _ => none
  | k + 1, f, args, H => match E.code f with
    | none => bif E.has f && E.cond f args H then E.sum f args H else none
    | some fi => evC ⟨pureE E.root (runFn E k), E.rf (runFn E k), E.ok, wldOf (runFn E k)⟩ k H.length fi.body ⟨start fi.ntmps args, H⟩ fun e st => match e with
      | .exit _ => none
      | .normal => resA st fi.res fun l => some (oneA l, st.H)
      | .ret => resA st fi.res fun l => some (oneA l, st.H)

def evP (E : Env) (k : Nat) (g : Nat) (xs : List Tree) : Option Tree := pureE E.root (runFn E k) g xs

def evW (E : Env) (k : Nat) (g : Nat) (xs : List Tree) (G : World') : Option (Tree × World') := wldOf (runFn E k) g xs G

end Go.Proofs.Dw
end

/-
  THE ABSTRACT WALK, 3: from the model's code to the code that is reckoned: 'compile'. Where it answers 'none', nothing is claimed.
-/
section
namespace Go.Proofs.Dw

def valSh : Value → Sh
  | .bool _ => .bool
  | .int k _ => .int k
  | .string _ => .str
  | .slice .. => .slc
  | _ => .any

def tyZero (P : Program) (t : TypeId) : Option Value :=
  match P.info? t with
  | some i => i.zero
  | none => none

def tySize (P : Program) (t : TypeId) : Option Nat :=
  match P.info? t with
  | some i => some i.size
  | none => none

def tyBytes (P : Program) (t : TypeId) : Option Nat :=
  match P.info? t with
  | some i => some i.bytes
  | none => none

def tyAgg (P : Program) (t : TypeId) : Option Bool :=
  match P.underlying t with
  | some (.struct _) => some true
  | some (.array _ _) => some true
  | some _ => some false
  | none => none

/-- The shape of a type: an aggregate's is its cells, as its zero value has them; its width is the type's size. -/
def shOf (P : Program) (t : TypeId) : Option Sh :=
  match tyAgg P t, tyZero P t, tySize P t with
  | some true, some (.agg cs), some n => bif Nat.beq cs.size n then some (.agg (cs.toList.map valSh)) else none
  | some false, some z, some n => bif Nat.beq n 1 && z.oneCell' then some (valSh z) else none
  | _, _, _ => none

def shsOf (P : Program) : List TypeId → Option (List Sh)
  | [] => some []
  | t :: r => match shOf P t, shsOf P r with
    | some s, some l => some (s :: l)
    | _, _ => none

/-- The shape of what a call gives. -/
def shRes (P : Program) (t : TypeId) : Option Sh :=
  match P.underlying t with
  | some (.tuple ts) => match shsOf P ts.toList with
    | some l => some (.tup l)
    | none => none
  | _ => shOf P t

def cellAV : Value → Option AV
  | .bool b => some (.t (.bool b))
  | .int k n => some (.t (.int k n))
  | .string s => some (.t (.str s.data.toList))
  | .slice none 0 0 => some .nilS
  | .pointer none => some (.t .nilp)
  | .nilFunc => some (.t .nilfn)
  | .map none => some (.t .nilm)
  | .nilIface => some (.t .nili)
  | _ => none

def avOf : Value → Option AV
  | .agg cs => match mapO cellAV cs.toList with
    | some l => some (mkAgg l)
    | none => none
  | v => cellAV v

def tyZeroAV (P : Program) (t : TypeId) : Option AV :=
  match tyZero P t with
  | some z => avOf z
  | none => none

def compOpd : Operand → Option Opd
  | .tmp t => some (.s t)
  | .const v => match avOf v with
    | some a => some (.c a)
    | none => none
  | .func f => some (.f f)
  | .global _ => none

def compOpds (l : List Operand) : Option (List Opd) := mapO compOpd l

def compOpt : Option Operand → Option (Option Opd)
  | none => some none
  | some x => match compOpd x with
    | some y => some (some y)
    | none => none

/-- A function that a call enters. -/
def callable (P : Program) (f : Nat) : Bool :=
  match P.funcs[f]? with
  | some fn => fn.body.isSome && !(fn.name == "runtime.NumGoroutine")
  | none => false

/-- Flat types that '==' compares cell by cell. -/
def eqScalar (P : Program) (t : TypeId) : Option Sh :=
  match P.underlying t with
  | some .bool => some .bool
  | some (.int k) => some (.int k)
  | some .string => some .str
  | _ => none

/-- A struct whose fields are scalars, one behind the other. -/
def eqFields (P : Program) : Nat → List Field → Option (List Sh)
  | _, [] => some []
  | i, f :: r => bif f.offset == i && !(f.name == "_") then
      (match eqScalar P f.type, eqFields P (i + 1) r with
       | some s, some l => some (s :: l)
       | _, _ => none) else none

def eqCls (P : Program) (t : TypeId) : Option EqC :=
  match P.underlying t with
  | some .bool => some .bool
  | some (.struct fs) => bif !P.stoodInHeld t && !P.eqGuardType P.depth t then (eqFields P 0 fs.toList).map .agg else none
  | some (.array n e) => bif (match tySize P e with | some 1 => true | _ => false) && !P.eqGuardType P.depth t then (eqScalar P e).map fun s => .agg (List.replicate n s) else none
  | some (.pointer e) => (match tySize P e with
    | some (_ + 1) => some .wptr
    | _ => some .ptr)
  | some (.func _ _ _) => some .fn
  | _ => none

def compPlaces (P : Program) : List Field → Option (List (Nat × Sh))
  | [] => some []
  | f :: r => match shOf P f.type, compPlaces P r with
    | some s, some l => some ((f.offset, s) :: l)
    | _, _ => none

def compParts (pl : Nat → Option (Nat × Sh)) : List (Nat × Operand) → Option (List (Nat × Sh × Opd))
  | [] => some []
  | (i, x) :: r => match pl i, compOpd x, compParts pl r with
    | some (o, s), some y, some l => some ((o, s, y) :: l)
    | _, _, _ => none

def compElems : List (Nat × Operand) → Option (List (Nat × Opd))
  | [] => some []
  | (i, x) :: r => match compOpd x, compElems r with
    | some y, some l => some ((i, y) :: l)
    | _, _ => none

def elemTy (P : Program) (t : TypeId) : Option TypeId :=
  match P.underlying t with
  | some (.slice e) => some e
  | _ => none

def compBuiltin (P : Program) (b : Builtin) (ats : Array TypeId) (args : List Opd) : Option IOp :=
  match b, args with
  | .len, [x] => match ats[0]? with
    | some t => match P.underlying t with
      | some (.slice _) => some (.len x)
      | some .string => some (.lens x)
      | some (.map _ _) => some (.wlen x)
      | _ => none
    | none => none
  | .cap, [x] => match ats[0]? with
    | some t => match P.underlying t with
      | some (.slice _) => some (.cap x)
      | _ => none
    | none => none
  | .min, [x, y] => some (.mn x y)
  | .max, [x, y] => some (.mx x y)
  | .append, [x, y] => match ats.toList with
    | [t, u] => match elemTy P t with
      | some e => match shOf P e, tyBytes P e, P.underlying u with
        | some s, some n, some (.int _) => match tyZeroAV P e with
          | some z => bif Nat.beq n 0 || Nat.beq s.width 0 then none else some (.appz s n z x y)
          | none => none
        | some s, some n, some (.slice _) => bif Nat.beq n 0 || Nat.beq s.width 0 then none else some (.app s n x y)
        | _, _, _ => none
      | none => none
    | _ => none
  | .clear, [x] => match ats.toList with
    | [t] => match elemTy P t with
      | some e => match shOf P e, tyZeroAV P e with
        | some s, some z => bif Nat.beq s.width 0 then none else some (.clr s z x)
        | _, _ => none
      | none => none
    | _ => none
  | _, _ => none

/-- slices.Clone's text: of which slice type, if it is that. -/
def cloneBody : Code → Option TypeId
  | .seq (.region _ a false) (.seq (.seq (.region _ b false) (.cond (.tmp 4) (.seq (.region _ c false) .ret) .skip)) (.seq (.region _ d false) .ret)) =>
    match a.toList, b.toList, c.toList, d.toList with
    | [⟨some 2, .assign (.const (.slice none 0 0)), _, _, _, none⟩],
      [⟨some 3, .move (.tmp 0), _, _, _, none⟩, ⟨some 4, .binOp .eql t1 (.tmp 3) (.const (.slice none 0 0)) _, _, _, _, none⟩],
      [⟨some 2, .assign (.const (.slice none 0 0)), _, _, _, none⟩],
      [⟨some 5, .buildSlice t2 0 ps, _, _, _, none⟩, ⟨some 6, .move (.tmp 0), _, _, _, none⟩,
       ⟨some 7, .call ⟨.builtin .append, as, ats⟩, _, _, _, none⟩, ⟨some 2, .assign (.tmp 7), _, _, _, none⟩] =>
      match as.toList, ats.toList, ps.toList with
      | [.tmp 5, .tmp 6], [t3, t4], [] => bif Nat.beq t1 t2 && (Nat.beq t2 t3 && Nat.beq t3 t4) then some t1 else none
      | _, _, _ => none
    | _, _, _, _ => none
  | _ => none

def cloneOf (P : Program) (g : Nat) : Option TypeId :=
  match P.funcs[g]? with
  | some fn => match fn.body with
    | some b => match cloneBody b, fn.results.toList with
      | some t, [.tmp 2] => bif Nat.beq fn.ntmps 8 && !(fn.name == "runtime.NumGoroutine") then some t else none
      | _, _ => none
    | none => none
  | none => none

/-- A function without a body that the model answers by itself: bits.Add64 (false), bits.Sub64 (true). -/
def carryOf (P : Program) (g : Nat) : Option Bool :=
  match P.funcs[g]? with
  | some fn => match fn.body with
    | some _ => none
    | none => bif fn.name == "math/bits.Add64" && fn.origin == "" then some false else bif fn.name == "math/bits.Sub64" && fn.origin == "" then some true else none
  | none => none

def keyC (P : Program) (t : TypeId) : Option KeyC :=
  match P.underlying t with
  | some (.int _) => some .int
  | some .string => some .str
  | some (.pointer e) => (match tySize P e with
    | some (_ + 1) => some .ptr
    | _ => none)
  | some (.array n e) => (match tySize P e, P.underlying e with
    | some 1, some (.pointer e') => (match tySize P e' with
      | some (_ + 1) => some (.arr n)
      | _ => none)
    | _, _ => none)
  | _ => none

def KeyC.now : KeyC → Bool
  | .int => true
  | .str => true
  | _ => false

/-- How a function is reckoned: 'rs': the slots whose calls are handed a heap of their own; 'wt': the types whose values are objects of the world; 'ws': the slots whose calls are handed the world; 'ms': the slots whose calls are handed a heap of their own and, where marked, arguments that nothing writes any more. -/
structure Cfg where
  rs : List Nat
  wt : List Nat
  ws : List Nat
  ms : List (Nat × List Bool)
  gk : List (Nat × GK) := []

/-- A shape in the world's words. -/
def wsh (cf : Cfg) (P : Program) (t : TypeId) : Option Sh :=
  match shOf P t with
  | some .any => (match P.underlying t with
    | some (.pointer e) => bif memN cf.wt e then some .wp else some .any
    | some (.map _ _) => bif memN cf.wt t then some .wm else some .any
    | _ => some .any)
  | s => s

/-- Are variables of the type objects of the world? -/
def wboxes (cf : Cfg) (P : Program) (t : TypeId) : Bool :=
  memN cf.wt t && (match P.underlying t with
    | some (.map _ _) => false
    | _ => true)

def wres (cf : Cfg) (P : Program) (t : TypeId) : Option Sh :=
  match P.underlying t with
  | some (.tuple _) => shRes P t
  | _ => wsh cf P t

def Cfg.isW (cf : Cfg) (d : Option Nat) : Bool :=
  match d with
  | some d => memN cf.ws d
  | none => memN cf.ws 1000000

def maskOf : List (Nat × List Bool) → Nat → Option (List Bool)
  | [], _ => none
  | (d, m) :: r, e => bif Nat.beq d e then some m else maskOf r e

def gkOf : List (Nat × GK) → Nat → Option GK
  | [], _ => none
  | (d, m) :: r, e => bif Nat.beq d e then some m else gkOf r e

def Cfg.gkind (cf : Cfg) (d : Option Nat) : Option GK :=
  match d with
  | some d => gkOf cf.gk d
  | none => gkOf cf.gk 1000000

def Cfg.mask (cf : Cfg) (d : Option Nat) : Option (List Bool) :=
  match d with
  | some d => maskOf cf.ms d
  | none => maskOf cf.ms 1000000

def compCall (P : Program) (md : Bool) (g : Nat) (t : TypeId) (args : List Opd) : Option IOp :=
  match carryOf P g, args with
  | some b, [x, y, z] => some (.carry b x y z)
  | some _, _ => none
  | none, args => match cloneOf P g, args with
    | some t, [x] => match elemTy P t with
      | some e => match shOf P e, tyBytes P e with
        | some s, some n => bif Nat.beq n 0 || Nat.beq s.width 0 then none else some (.clone s n x)
        | _, _ => none
      | none => none
    | some _, _ => none
    | none, args => bif callable P g then (shRes P t).map fun s => .call md g s args else none

def compOp (P : Program) (rs : Cfg) (o : Oper) : Option IOp :=
  match o.op with
  | .move x => (compOpd x).map .mov
  | .assign x => (compOpd x).map .mov
  | .nilCheck x => (compOpd x).map .nonnil
  | .pick c a b => match compOpd c, compOpd a, compOpd b with
    | some c, some a, some b => some (.pick c a b)
    | _, _, _ => none
  | .alloc t => match shOf P t, tyZeroAV P t with
    | some s, some z => bif memN rs.wt t then some (.wnew s z) else some (.new s z)
    | _, _ => none
  | .makeMap t q => (match q with
    | none => some .wmk
    | some (.const (.int _ _)) => (match P.underlying t with
      | some (.map _ _) => some .wmk
      | _ => none)
    | _ => none)
  | .lookup t x k ok => (match P.underlying t with
    | some (.map key elem) => (match keyC P key, tyZeroAV P elem, wsh rs P elem, compOpd x, compOpd k with
      | some q, some z, some s, some x, some k => some (.wget q ok s z x k)
      | _, _, _, _, _ => none)
    | _ => none)
  | .mapUpdate t m k v => (match P.underlying t with
    | some (.map key _) => (match keyC P key, compOpd m, compOpd k, compOpd v with
      | some q, some m, some k, some v => some (.wput q m k v)
      | _, _, _, _ => none)
    | _ => none)
  | .insert t m k v => (match P.underlying t with
    | some (.map key _) => (match keyC P key, compOpd m, compOpd k, compOpd v with
      | some q, some m, some k, some v => some (.wput q m k v)
      | _, _, _, _ => none)
    | _ => none)
  | .box t x => match shOf P t, compOpd x with
    | some s, some x => bif wboxes rs P t then some (.wbox s x) else some (.box s x)
    | _, _ => none
  | .build t ps => match tyZero P t with
    | some (.agg cs) => match mapO cellAV cs.toList with
      | some z => match P.underlying t with
        | some (.struct fs) => match compPlaces P fs.toList with
          | some pl => (compParts (fun i => nth pl i) ps.toList).map (.build z)
          | none => none
        | some (.array _ e) => match shOf P e with
          | some s => (compParts (fun i => some (i * s.width, s)) ps.toList).map (.build z)
          | none => none
        | _ => none
      | none => none
    | _ => none
  | .buildSlice t n ps => match elemTy P t with
    | some e => match shOf P e, tyZeroAV P e, compElems ps.toList with
      | some s, some z, some l => bif Nat.ble (n * s.width) 16777216 && Nat.ble 1 s.width then some (.bsl s z n l) else none
      | _, _, _ => none
    | none => none
  | .load t x => match wsh rs P t, compOpd x with
    | some s, some x => some (.ld s x)
    | _, _ => none
  | .store t x v => match shOf P t, compOpd x, compOpd v with
    | some s, some x, some v => some (.st s x v)
    | _, _, _ => none
  | .binOp b t x y _ => match compOpd x, compOpd y with
    | some x, some y => match b with
      | .eql => (match P.underlying t with
        | some (.int _) => some (.bin .eql x y)
        | some .string => some (.bin .eql x y)
        | some (.interface _) => bif x.isC || y.isC then some (.eqs false .ifc x y) else none
        | _ => (eqCls P t).map fun q => .eqs false q x y)
      | .neq => (match P.underlying t with
        | some (.int _) => some (.bin .neq x y)
        | some .string => some (.bin .neq x y)
        | some (.interface _) => bif x.isC || y.isC then some (.eqs true .ifc x y) else none
        | _ => (eqCls P t).map fun q => .eqs true q x y)
      | b => some (.bin b x y)
    | _, _ => none
  | .unOp u _ x => (compOpd x).map (.un u)
  | .convert s d x => match P.underlying s, P.underlying d, compOpd x with
    | some _, some (.int k), some x => some (.conv k x)
    | _, _, _ => none
  | .makeInterface t x => (match P.underlying t with
    | none => none
    | some (.interface _) => none
    | some _ => (compOpd x).map (.mki t))
  | .panic x => (compOpd x).map .pan
  | .typeAssert x _ t ok => (match P.underlying t with
    | none => none
    | some (.interface _) => none
    | some _ => (match tyZeroAV P t, wsh rs P t, compOpd x with
      | some z, some s, some x => some (.tas ok t s z x)
      | _, _, _ => none))
  | .makeFunc (.func g) a b => match compOpds a.toList, compOpds b.toList with
    | some a, some b => some (.mkf g a b)
    | _, _ => none
  | .makeSlice t l c => match elemTy P t with
    | some e => match shOf P e, tyBytes P e, tyZeroAV P e with
      | some s, some n, some z => match compOpd l, compOpd c with
        | some l, some c => bif Nat.ble 1 s.width then some (.mks s n z l c) else none
        | _, _ => none
      | _, _, _ => none
    | none => none
  | .slice t x lo hi mx => match compOpd x, compOpt lo, compOpt hi with
    | some x, some lo, some hi => match P.underlying t with
      | some (.slice e) => match mx with
        | none => (shOf P e).map fun s => .sub s x lo hi none
        | some mx => match hi, compOpd mx with
          | some hi, some mx => (shOf P e).map fun s => .sub s x lo (some hi) (some mx)
          | _, _ => none
      | some .string => match mx with
        | none => some (.subs x lo hi)
        | some _ => none
      | _ => none
    | _, _, _ => none
  | .fieldAddr s x f => match P.underlying s, compOpd x with
    | some (.struct fs), some x => match fs[f]? with
      | some fl => match tySize P fl.type with
        | some (_ + 1) => some (.fa fl.offset x)
        | _ => none
      | none => none
    | _, _ => none
  | .field s x f => match P.underlying s, compOpd x with
    | some (.struct fs), some x => match fs[f]? with
      | some fl => (shOf P fl.type).map fun s => .fld fl.offset s x
      | none => none
    | _, _ => none
  | .indexAddr t x i => match P.underlying t, compOpd x, compOpd i with
    | some (.slice e), some x, some i => (wsh rs P e).map fun s => .ia s x i
    | some (.array n e), some x, some i => (shOf P e).map fun s => .iaa s n x i
    | _, _, _ => none
  | .index t x i => match P.underlying t, compOpd x, compOpd i with
    | some .string, some x, some i => some (.ixs x i)
    | some (.array n e), some x, some i => (shOf P e).map fun s => .ixa s n x i
    | _, _, _ => none
  | .extract x n => match rs.mask o.dst with
    | some [] => (compOpd x).map (.extf n)
    | _ => (compOpd x).map (.ext n)
  | .call c => match compOpds c.args.toList with
    | some args => match c.callee with
      | .value (.func g) => bif rs.isW o.dst then (wres rs P o.type).map fun s => .callw g s args
          else match rs.mask o.dst with
            | some m => bif callable P g then (match rs.gkind o.dst with
              | some k => (shRes P o.type).map fun s => .callg k s m g args
              | none => some (.callm m g args)) else none
            | none => compCall P (match o.dst with | some d => memN rs.rs d | none => false) g o.type args
      | .value x => match compOpd x with
        | some x => bif rs.isW o.dst then (wres rs P o.type).map fun s => .callvw x s args else (shRes P o.type).map fun s => .callv x s args
        | none => none
      | .builtin b => compBuiltin P b c.argTypes args
      | .invoke _ _ => none
    | none => none
  | _ => none

def compOper (P : Program) (rs : Cfg) (ops : Array Oper) (o : Oper) : Option IOper :=
  match (match compOp P rs o with | some p => some p | none => some .fail) with
  | none => none
  | some p => match o.guard with
    | none => some ⟨o.dst, none, p⟩
    | some (j, b) => match ops[j]? with
      | some q => match q.dst with
        | some d => some ⟨o.dst, some (d, b), p⟩
        | none => none
      | none => none

/-- In a region that draws its order: what one operation writes, another one that nothing orders against it neither reads nor writes. -/
def pairOk (a b : IOper) : Bool :=
  match a.dst with
  | some d => !memN b.looks d && (match b.dst with
    | some e => !Nat.beq d e
    | none => true)
  | none => true

def slotsFrom (i : Nat) (a : IOper) : List Nat → List IOper → Bool
  | m :: bef, b :: r => bif Nat.testBit m i || (pairOk a b && pairOk b a) then slotsFrom i a bef r else false
  | _, _ => true

def slotsClear : Nat → List Nat → List IOper → Bool
  | i, _ :: bef, a :: r => bif slotsFrom i a bef r then slotsClear (i + 1) bef r else false
  | _, _, _ => true

/-- For each operation, as bits, those that come ahead of it in every order. -/
def befBits (acc : List Nat) : List Nat → Nat
  | [] => 0
  | e :: r => befBits acc r ||| (2 ^ e ||| (match nth acc e with | some m => m | none => 0))

def befGo : List (List Nat) → List Nat → List Nat
  | [], acc => acc
  | a :: r, acc => befGo r (acc ++ [befBits acc a])

/-- What an operation waits for. -/
def afterOf (o : Oper) : List Nat := (o.after.toList.filter (Region.binds .any)).map (·.on)

/-- One more that can come, behind those of 'done'. -/
def readyIn (done : List Nat) : Nat → List (List Nat) → Option Nat
  | _, [] => none
  | i, a :: r => bif !memN done i && subN a done then some i else readyIn done (i + 1) r

/-- All come up, whatever the order is. -/
def acyc (afs : List (List Nat)) : Nat → List Nat → Bool
  | 0, done => subN (upTo afs.length) done
  | n + 1, done => match readyIn done 0 afs with
    | some i => acyc afs n (i :: done)
    | none => subN (upTo afs.length) done

def comp (P : Program) (rs : Cfg) : Code → List (List Nat) → Option (ICode × List (List Nat))
  | .skip, h => some (.skip, h)
  | .region _ ops draw, h => match mapO (compOper P rs ops) ops.toList with
    | none => none
    | some l => match draw with
      | false => some (.reg l, h)
      | true =>
        bif acyc (ops.toList.map afterOf) ops.size [] && slotsClear 0 (befGo (ops.toList.map afterOf) []) l then some (.dreg l (befGo (ops.toList.map afterOf) []), h) else none
  | .seq a b, h => match comp P rs a h with
    | none => none
    | some (x, h) => match comp P rs b h with
      | none => none
      | some (y, h) => some (.seq x y, h)
  | .cond c a b, h => match compOpd c, comp P rs a h with
    | some c, some (x, h) => match comp P rs b h with
      | none => none
      | some (y, h) => some (.cond c x y, h)
    | _, _ => none
  | .block id b, h => match comp P rs b h with
    | some (x, h) => some (.block id x, h)
    | none => none
  | .loop b, h => match h with
    | live :: h => match comp P rs b h with
      | some (x, h) => some (.loop live x, h)
      | none => none
    | [] => none
  | .exit id, h => some (.exit id, h)
  | .ret, h => some (.ret, h)
  | _, _ => none

def compRes (P : Program) : List ResultVar → Option (List IRes)
  | [] => some []
  | .tmp t :: r => (compRes P r).map (.slot t :: ·)
  | .cell a t :: r => match shOf P t, compRes P r with
    | some s, some l => some (.cell a s :: l)
    | _, _ => none

def lives : ICode → List (List Nat)
  | .seq a b => lives a ++ lives b
  | .cond _ a b => lives a ++ lives b
  | .block _ b => lives b
  | .loop l b => l :: lives b
  | _ => []

def refSlots : List IOper → List Nat
  | [] => []
  | ⟨some d, _, .call true _ _ _⟩ :: r => d :: refSlots r
  | _ :: r => refSlots r

def refsC : ICode → List Nat
  | .reg l => refSlots l
  | .dreg l _ => refSlots l
  | .seq a b => refsC a ++ refsC b
  | .cond _ a b => refsC a ++ refsC b
  | .block _ b => refsC b
  | .loop _ b => refsC b
  | _ => []

def compF (P : Program) (f : Nat) (live : List (List Nat)) (rs : Cfg) : Option FInfo :=
  match P.funcs[f]? with
  | none => none
  | some fn => match fn.body with
    | none => none
    | some c => bif callable P f then
        (match comp P rs c live, compRes P fn.results.toList with
         | some (b, []), some r => some ⟨fn.ntmps, b, r⟩
         | _, _ => none) else none

end Go.Proofs.Dw
end

/-
  THE ABSTRACT WALK, 4: what an abstract value says of a value of the model, and what an abstract heap says of the model's memory.
  'I': the blocks that nothing writes any more. 'φ': where a block of the abstract heap lies (the model's block, how many elements it has room for).
-/
section
namespace Go.Proofs.Dw

/-! ### objects -/
def HObj.alive : HObj → Bool
  | .unborn => false
  | .dead => false
  | .wld _ => false
  | _ => true
def HObj.mut : HObj → Bool
  | .mix _ _ => true
  | .tre _ _ => true
  | _ => false
def HObj.isFroz : HObj → Bool
  | .froz _ _ => true
  | _ => false
def HObj.els : HObj → List AV
  | .mix _ es => es
  | .tre _ es => es.map .t
  | .froz _ es => es.map .t
  | _ => []
def HObj.width (o : HObj) : Nat := o.sh.width

theorem HObj.alive_cases {o : HObj} (h : o.alive = true) : o.mut = true ∨ o.isFroz = true := by
  cases o <;> simp_all [HObj.alive, HObj.mut, HObj.isFroz]
theorem HObj.mut_alive {o : HObj} (h : o.mut = true) : o.alive = true := by
  cases o <;> simp_all [HObj.alive, HObj.mut]
theorem HObj.froz_alive {o : HObj} (h : o.isFroz = true) : o.alive = true := by
  cases o <;> simp_all [HObj.alive, HObj.isFroz]
theorem HObj.froz_not_mut {o : HObj} (h : o.isFroz = true) : o.mut = false := by
  cases o <;> simp_all [HObj.mut, HObj.isFroz]
theorem HObj.alive_not_dead {o : HObj} (h : o.alive = true) : o ≠ .dead := by
  cases o <;> simp_all [HObj.alive]

/-- All its cells are one-celled. -/
def Tree.fl (x : Tree) : Bool := x.cells.all Tree.isSc
def AV.fl (x : AV) : Bool := x.cells.all AV.isSc

/-- What nothing writes any more ('fz'), and where the objects of the world lie ('ps'). -/
structure Fz where
  fz : Nat → Prop
  ps : Nat → Option Nat

instance : CoeFun Fz fun _ => Nat → Prop := ⟨Fz.fz⟩

def Fz.Le (I I' : Fz) : Prop := (∀ g, I g → I' g) ∧ ∀ id g, I.ps id = some g → I'.ps id = some g

/-! ### trees -/
inductive RepT (w : World) (I : Fz) : Tree → Value → Prop where
  | bool (b : Bool) : RepT w I (.bool b) (.bool b)
  | int (k : IntKind) (n : Int) : RepT w I (.int k n) (.int k n)
  | str (s : List UInt8) : RepT w I (.str s) (.string ⟨s.toArray⟩)
  | agg (cs : List Tree) (vs : Array Value) (hl : vs.size = cs.length) (hf : ∀ x ∈ cs, x.isSc = true) (h : ∀ (i : Nat) x v, cs[i]? = some x → vs[i]? = some v → RepT w I x v) : RepT w I (.agg cs) (.agg vs)
  | slc0 (a : Option Addr) (c : Nat) : RepT w I (.slc []) (.slice a 0 c)
  | slc (es : List Tree) (b o c k : Nat) (val : Nat → Nat → Value) (hI : I b) (hc : es.length ≤ c) (hk : ∀ (i : Nat) x, es[i]? = some x → x.cells.length = k) (hf : ∀ x ∈ es, x.fl = true)
      (hcell : ∀ (i j : Nat) x y, es[i]? = some x → x.cells[j]? = some y → w.cell? ⟨b, o + i * k + j, none⟩ = some (val i j))
      (h : ∀ (i j : Nat) x y, es[i]? = some x → x.cells[j]? = some y → RepT w I y (val i j)) : RepT w I (.slc es) (.slice (some ⟨b, o, none⟩) es.length c)
  | ptr (e : Tree) (j b o : Nat) (val : Nat → Value) (hI : I b) (hf : e.fl = true)
      (hcell : ∀ (i : Nat) y, e.cells[i]? = some y → w.cell? ⟨b, o + i, none⟩ = some (val i))
      (h : ∀ (i : Nat) y, e.cells[i]? = some y → RepT w I y (val i)) : RepT w I (.ptr e j) (.pointer (some ⟨b, o + j, none⟩))
  | nilp : RepT w I .nilp (.pointer none)
  | fn (f : Nat) (a c : List Tree) (va vc : Array Value) (ha : va.size = a.length) (hc : vc.size = c.length)
      (h1 : ∀ (i : Nat) x v, a[i]? = some x → va[i]? = some v → RepT w I x v) (h2 : ∀ (i : Nat) x v, c[i]? = some x → vc[i]? = some v → RepT w I x v) :
      RepT w I (.fn f a c) (.func (.func f) va vc)
  | nilfn : RepT w I .nilfn .nilFunc
  | tup (cs : List Tree) (vs : Array Value) (hl : vs.size = cs.length) (h : ∀ (i : Nat) x v, cs[i]? = some x → vs[i]? = some v → RepT w I x v) : RepT w I (.tup cs) (.tuple vs)
  | wp (id off g : Nat) (h : I.ps id = some g) : RepT w I (.wp id off) (.pointer (some ⟨g, off, none⟩))
  | wm (id g : Nat) (h : I.ps id = some g) : RepT w I (.wm id) (.map (some g))
  | nilm : RepT w I .nilm (.map none)
  | ifc (t : Nat) (x : Tree) (v : Value) (h : RepT w I x v) : RepT w I (.ifc t x) (.iface t v)
  | nili : RepT w I .nili .nilIface

theorem RepT.mono {w w' : World} {I I' : Fz} {x : Tree} {v : Value} (h : RepT w I x v) (hL : I.Le I')
    (hw : ∀ b o, I b → w'.cell? ⟨b, o, none⟩ = w.cell? ⟨b, o, none⟩) : RepT w' I' x v := by
  induction h with
  | bool b => exact .bool b
  | int k n => exact .int k n
  | str s => exact .str s
  | agg cs vs hl hf _ ih => exact .agg cs vs hl hf ih
  | slc0 a c => exact .slc0 a c
  | slc es b o c k val hb hc hk hf hcell _ ih => exact .slc es b o c k val (hL.1 _ hb) hc hk hf (fun i j x y hx hy => (hw _ _ hb).trans (hcell i j x y hx hy)) ih
  | ptr e j b o val hb hf hcell _ ih => exact .ptr e j b o val (hL.1 _ hb) hf (fun i y hy => (hw _ _ hb).trans (hcell i y hy)) ih
  | nilp => exact .nilp
  | fn f a c va vc ha hc _ _ ih1 ih2 => exact .fn f a c va vc ha hc ih1 ih2
  | nilfn => exact .nilfn
  | tup cs vs hl _ ih => exact .tup cs vs hl ih
  | wp id off g h => exact .wp id off g (hL.2 id g h)
  | wm id g h => exact .wm id g (hL.2 id g h)
  | nilm => exact .nilm
  | ifc t x v _ ih => exact .ifc t x v ih
  | nili => exact .nili

/-! ### what a slot holds -/
abbrev Phi := Nat → Option (Nat × Nat)

inductive RepA (φ : Phi) (rd : Rd) (w : World) (I : Fz) : AV → Value → Prop where
  | t (x : Tree) (v : Value) (h : RepT w I x v) : RepA φ rd w I (.t x) v
  | any (v : Value) : RepA φ rd w I .any v
  | sc (v : Value) (h : v.oneCell' = true) : RepA φ rd w I .sc v
  | undef : RepA φ rd w I .undef Go.undef
  | nilS : RepA φ rd w I .nilS (.slice none 0 0)
  | clip (es : List Tree) (a : Option Addr) (h : RepT w I (.slc es) (.slice a es.length es.length)) : RepA φ rd w I (.clip es) (.slice a es.length es.length)
  | hrefD (b i j : Nat) (A : Addr) (h : rd b = .dead) : RepA φ rd w I (.href b i j) (.pointer (some A))
  | hslD (b : Nat) (k : Option Nat) (A : Option Addr) (n c : Nat) (h : rd b = .dead) : RepA φ rd w I (.hsl b k) (.slice A n c)
  | hsubD (b off len : Nat) (A : Option Addr) (n c : Nat) (h : rd b = .dead) : RepA φ rd w I (.hsub b off len) (.slice A n c)
  | href (b i j g C : Nat) (h : (rd b).alive = true) (hφ : φ b = some (g, C)) : RepA φ rd w I (.href b i j) (.pointer (some ⟨g, i * (rd b).width + j, none⟩))
  | hsl (b : Nat) (k : Option Nat) (g C c : Nat) (h : (rd b).alive = true) (hφ : φ b = some (g, C)) (h1 : (rd b).els.length ≤ c) (h2 : c ≤ C) (hk : ∀ n, k = some n → n = c) :
      RepA φ rd w I (.hsl b k) (.slice (some ⟨g, 0, none⟩) (rd b).els.length c)
  | hsl0 (b : Nat) (k : Option Nat) (a : Option Addr) (h : (rd b).alive = true) (h0 : (rd b).els.length = 0) (hk : ∀ n, k = some n → n = 0) : RepA φ rd w I (.hsl b k) (.slice a 0 0)
  | hsub (b off len g C c : Nat) (h : (rd b).alive = true) (hφ : φ b = some (g, C)) (h1 : len ≤ c) (h2 : off + c ≤ C) :
      RepA φ rd w I (.hsub b off len) (.slice (some ⟨g, off * (rd b).width, none⟩) len c)
  | hsub0 (b off : Nat) (a : Option Addr) (h : (rd b).alive = true) : RepA φ rd w I (.hsub b off 0) (.slice a 0 0)
  | agg (cs : List AV) (vs : Array Value) (hl : vs.size = cs.length) (hf : ∀ x ∈ cs, x.isSc = true) (h : ∀ (i : Nat) x v, cs[i]? = some x → vs[i]? = some v → RepA φ rd w I x v) : RepA φ rd w I (.agg cs) (.agg vs)
  | fn (f : Nat) (a c : List AV) (va vc : Array Value) (ha : va.size = a.length) (hc : vc.size = c.length)
      (h1 : ∀ (i : Nat) x v, a[i]? = some x → va[i]? = some v → RepA φ rd w I x v) (h2 : ∀ (i : Nat) x v, c[i]? = some x → vc[i]? = some v → RepA φ rd w I x v) :
      RepA φ rd w I (.fn f a c) (.func (.func f) va vc)
  | tup (cs : List AV) (vs : Array Value) (hl : vs.size = cs.length) (h : ∀ (i : Nat) x v, cs[i]? = some x → vs[i]? = some v → RepA φ rd w I x v) : RepA φ rd w I (.tup cs) (.tuple vs)

/-- A row of elements as it lies in a block of the model. -/
structure Row (φ : Phi) (rd : Rd) (w : World) (I : Fz) (g C : Nat) (s : Sh) (es : List AV) : Prop where
  mk ::
  lies : ∃ arr T, w.heap[g]? = some (.cells arr T (0, 0)) ∧ C * s.width ≤ arr.size ∧ es.length ≤ C ∧
    ∀ (i : Nat) x, es[i]? = some x → (x.cells.length = s.width ∧ x.fl = true) ∧ ∀ (j : Nat) y, x.cells[j]? = some y → ∃ v, arr[i * s.width + j]? = some v ∧ RepA φ rd w I y v

/-- An object of the world as it lies in a block of the model. -/
inductive ObjOk (w : World) (I : Fz) (g : Nat) : WObj → Prop where
  | dead : ObjOk w I g .dead
  | cells (cs : List Tree) (arr : Array Value) (T : TypeId) (h : w.heap[g]? = some (.cells arr T (0, 0))) (hl : cs.length ≤ arr.size)
      (hc : ∀ (i : Nat) x, cs[i]? = some x → x.isSc = true ∧ ∃ v, arr[i]? = some v ∧ RepT w I x v) : ObjOk w I g (.cells cs)
  | map (es : List (Tree × Tree)) (ms : Array MapEntry) (n : Nat) (h : w.heap[g]? = some (.map ms n)) (hl : ms.size = es.length)
      (hc : ∀ (i : Nat) p m, es[i]? = some p → ms[i]? = some m → RepT w I p.1 m.key ∧ RepT w I p.2 m.val) : ObjOk w I g (.map es)

def WldOk (w : World) (I : Fz) (G : World') : Prop :=
  (∀ id o, G[id]? = some o → ∃ g, I.ps id = some g ∧ ObjOk w I g o) ∧ ∀ id g, I.ps id = some g → id < G.length

def HasW (rd : Rd) : Prop := ∃ b G, rd b = .wld G

/-- What a block of the world may be. -/
def PsKind (w : World) (g : Nat) : Prop := (∃ arr T, w.heap[g]? = some (.cells arr T (0, 0))) ∨ ∃ ms n, w.heap[g]? = some (.map ms n)

theorem PsKind.of {w w' : World} {g : Nat} (h : PsKind w g) (e : w'.heap[g]? = w.heap[g]?) : PsKind w' g := by
  rcases h with ⟨arr, T, h⟩ | ⟨ms, n, h⟩
  · exact .inl ⟨arr, T, e.trans h⟩
  · exact .inr ⟨ms, n, e.trans h⟩

/-- The world's blocks lie apart from all others. -/
structure WOk (φ : Phi) (I : Fz) (rd : Rd) (w : World) : Prop where
  psI : ∀ id g, I.ps id = some g → ¬ I g ∧ g < w.heap.size ∧ PsKind w g
  psinj : ∀ id id' g, I.ps id = some g → I.ps id' = some g → id = id'
  psM : ∀ b g C id, (rd b).mut = true → φ b = some (g, C) → I.ps id = some g → False
  wld : ∀ b G, rd b = .wld G → b = 0 ∧ WldOk w I G

structure Sim (φ : Phi) (I : Fz) (rd : Rd) (w : World) : Prop where
  blk : ∀ b, (rd b).alive = true → ((rd b).els = [] ∧ φ b = none) ∨
    ∃ g C, φ b = some (g, C) ∧ ((rd b).mut = true → ¬ I g) ∧ ((rd b).isFroz = true → I g) ∧ Row φ rd w I g C (rd b).sh (rd b).els
  inj : ∀ b b' g C C', (rd b).mut = true → (rd b').mut = true → φ b = some (g, C) → φ b' = some (g, C') → b = b'
  old : ∀ g, I g → g < w.heap.size
  wok : WOk φ I rd w

/-- What is asked of what nothing writes, and of the world's places. -/
structure FzOk (I : Fz) (w : World) : Prop where
  old : ∀ g, I g → g < w.heap.size
  psI : ∀ id g, I.ps id = some g → ¬ I g ∧ g < w.heap.size ∧ PsKind w g
  psinj : ∀ id id' g, I.ps id = some g → I.ps id' = some g → id = id'

theorem Sim.fzOk {φ : Phi} {I : Fz} {rd : Rd} {w : World} (s : Sim φ I rd w) : FzOk I w := ⟨s.old, s.wok.psI, s.wok.psinj⟩

/-- What a step has done to the world. -/
structure WExt (I : Fz) (rd : Rd) (w : World) (I' : Fz) (rd' : Rd) : Prop where
  psub : ∀ id g, I.ps id = some g → I'.ps id = some g
  psnew : ∀ id g, I'.ps id = some g → I.ps id = some g ∨ (HasW rd ∧ w.heap.size ≤ g)
  hasw : HasW rd' → HasW rd

/-- What a step has done: seen from before it. -/
structure Ext (φ : Phi) (I : Fz) (rd : Rd) (w : World) (φ' : Phi) (I' : Fz) (rd' : Rd) (w' : World) : Prop where
  dead : ∀ b, rd b = .dead → rd' b = .dead
  keep : ∀ b, (rd b).alive = true → rd' b = .dead ∨ ((rd' b).alive = true ∧ φ' b = φ b ∧ (rd' b).sh = (rd b).sh ∧ (rd' b).els.length = (rd b).els.length)
  sub : ∀ g, I g → I' g
  inew : ∀ g, I' g → I g ∨ w.heap.size ≤ g ∨ ∃ b C, (rd b).mut = true ∧ φ b = some (g, C)
  mnew : ∀ b g C, (rd' b).mut = true → φ' b = some (g, C) → w.heap.size ≤ g ∨ ∃ b0 C0, (rd b0).mut = true ∧ φ b0 = some (g, C0)
  frame : ∀ g, g < w.heap.size → (∀ b C, (rd b).mut = true → φ b = some (g, C) → False) → (HasW rd → ∀ id, I.ps id = some g → False) → w'.heap[g]? = w.heap[g]?
  size : w.heap.size ≤ w'.heap.size
  os : w'.os = w.os
  tape : w'.tape = w.tape
  output : w'.output = w.output
  wx : WExt I rd w I' rd'

theorem cell_of_heap {w w' : World} {b : Nat} (h : w'.heap[b]? = w.heap[b]?) (o : Nat) : w'.cell? ⟨b, o, none⟩ = w.cell? ⟨b, o, none⟩ := by
  simp [World.cell?, h]

/-- What nothing writes stays. -/
theorem Ext.keepI {φ φ' : Phi} {I I' : Fz} {rd rd' : Rd} {w w' : World} (h : Ext φ I rd w φ' I' rd' w') (s : Sim φ I rd w) (b o : Nat) (hI : I b) :
    w'.cell? ⟨b, o, none⟩ = w.cell? ⟨b, o, none⟩ := by
  refine cell_of_heap (h.frame b (s.old b hI) (fun b0 C hm hφ => ?_) fun _ id hp => (s.wok.psI id b hp).1 hI) o
  rcases s.blk b0 (HObj.mut_alive hm) with ⟨_, h0⟩ | ⟨g, C', h1, h2, _⟩
  · rw [h0] at hφ; cases hφ
  · rw [h1] at hφ; cases hφ; exact h2 hm hI

theorem RepT.ext {φ φ' : Phi} {I I' : Fz} {rd rd' : Rd} {w w' : World} {x : Tree} {v : Value} (h : Ext φ I rd w φ' I' rd' w') (s : Sim φ I rd w) (r : RepT w I x v) :
    RepT w' I' x v := r.mono ⟨h.sub, h.wx.psub⟩ fun b o hI => h.keepI s b o hI

theorem RepA.ext {φ φ' : Phi} {I I' : Fz} {rd rd' : Rd} {w w' : World} {x : AV} {v : Value} (h : Ext φ I rd w φ' I' rd' w') (s : Sim φ I rd w) (r : RepA φ rd w I x v) :
    RepA φ' rd' w' I' x v := by
  induction r with
  | t x v hx => exact .t x v (hx.ext h s)
  | any v => exact .any v
  | sc v h => exact .sc v h
  | undef => exact .undef
  | nilS => exact .nilS
  | clip es a hx => exact .clip es a (hx.ext h s)
  | hrefD b i j A hd => exact .hrefD b i j A (h.dead b hd)
  | hslD b k A n c hd => exact .hslD b k A n c (h.dead b hd)
  | hsubD b off len A n c hd => exact .hsubD b off len A n c (h.dead b hd)
  | href b i j g C ha hφ =>
    rcases h.keep b ha with hd | ⟨h1, h2, h3, _⟩
    · exact .hrefD b i j _ hd
    · have e : (rd b).width = (rd' b).width := by simp [HObj.width, h3]
      rw [e]; exact .href b i j g C h1 (h2.trans hφ)
  | hsl b k g C c ha hφ h1 h2 hk =>
    rcases h.keep b ha with hd | ⟨h3, h4, _, h5⟩
    · exact .hslD b k _ _ _ hd
    · rw [← h5]; exact .hsl b k g C c h3 (h4.trans hφ) (h5 ▸ h1) h2 hk
  | hsl0 b k a ha h0 hk =>
    rcases h.keep b ha with hd | ⟨h3, _, _, h5⟩
    · exact .hslD b k _ _ _ hd
    · exact .hsl0 b k a h3 (h5.trans h0) hk
  | hsub b off len g C c ha hφ h1 h2 =>
    rcases h.keep b ha with hd | ⟨h3, h4, h5, _⟩
    · exact .hsubD b off len _ _ _ hd
    · have e : (rd b).width = (rd' b).width := by simp [HObj.width, h5]
      rw [e]; exact .hsub b off len g C c h3 (h4.trans hφ) h1 h2
  | hsub0 b off a ha =>
    rcases h.keep b ha with hd | ⟨h3, _⟩
    · exact .hsubD b off 0 _ _ _ hd
    · exact .hsub0 b off a h3
  | agg cs vs hl hf _ ih => exact .agg cs vs hl hf ih
  | fn f a c va vc h1 h2 _ _ ih1 ih2 => exact .fn f a c va vc h1 h2 ih1 ih2
  | tup cs vs hl _ ih => exact .tup cs vs hl ih

theorem Ext.refl (φ : Phi) (I : Fz) (rd : Rd) (w : World) : Ext φ I rd w φ I rd w where
  dead _ h := h
  keep _ h := .inr ⟨h, rfl, rfl, rfl⟩
  sub _ h := h
  inew _ h := .inl h
  mnew b g C hm hφ := .inr ⟨b, C, hm, hφ⟩
  frame _ _ _ _ := rfl
  size := Nat.le_refl _
  os := rfl
  tape := rfl
  output := rfl
  wx := ⟨fun _ _ h => h, fun _ _ h => .inl h, id⟩

theorem Ext.trans {φ φ' φ'' : Phi} {I I' I'' : Fz} {rd rd' rd'' : Rd} {w w' w'' : World} (h : Ext φ I rd w φ' I' rd' w') (k : Ext φ' I' rd' w' φ'' I'' rd'' w'') :
    Ext φ I rd w φ'' I'' rd'' w'' where
  dead b hb := k.dead b (h.dead b hb)
  keep b hb := by
    rcases h.keep b hb with hd | ⟨h1, h2, h3, h4⟩
    · exact .inl (k.dead b hd)
    · rcases k.keep b h1 with kd | ⟨k1, k2, k3, k4⟩
      · exact .inl kd
      · exact .inr ⟨k1, k2.trans h2, k3.trans h3, k4.trans h4⟩
  sub g hg := k.sub g (h.sub g hg)
  inew g hg := by
    rcases k.inew g hg with h1 | h1 | ⟨b, C, h1, h2⟩
    · exact h.inew g h1
    · exact .inr (.inl (Nat.le_trans h.size h1))
    · rcases h.mnew b g C h1 h2 with h3 | h3
      · exact .inr (.inl h3)
      · exact .inr (.inr h3)
  mnew b g C hm hφ := by
    rcases k.mnew b g C hm hφ with h1 | ⟨b0, C0, h1, h2⟩
    · exact .inl (Nat.le_trans h.size h1)
    · exact h.mnew b0 g C0 h1 h2
  frame g hg hn hp := by
    refine (k.frame g (Nat.lt_of_lt_of_le hg h.size) (fun b C hm hφ => ?_) fun hw id hi => ?_).trans (h.frame g hg hn hp)
    · rcases h.mnew b g C hm hφ with h1 | ⟨b0, C0, h1, h2⟩
      · omega
      · exact hn b0 C0 h1 h2
    · rcases h.wx.psnew id g hi with h1 | ⟨_, h1⟩
      · exact hp (h.wx.hasw hw) id h1
      · omega
  size := Nat.le_trans h.size k.size
  os := k.os.trans h.os
  tape := k.tape.trans h.tape
  output := k.output.trans h.output
  wx := ⟨fun id g hg => k.wx.psub id g (h.wx.psub id g hg), fun id g hg => by
    rcases k.wx.psnew id g hg with h1 | ⟨hw, h1⟩
    · exact h.wx.psnew id g h1
    · exact .inr ⟨h.wx.hasw hw, Nat.le_trans h.size h1⟩, fun hw => h.wx.hasw (k.wx.hasw hw)⟩

/-- What a step of the world comes to. -/
structure WStep (I : Fz) (w : World) (I' : Fz) (G' : World') (w' : World) : Prop where
  fz : FzOk I' w'
  wld : WldOk w' I' G'
  sub : ∀ b, I b → I' b
  inew : ∀ b, I' b → I b ∨ w.heap.size ≤ b
  psub : ∀ id g, I.ps id = some g → I'.ps id = some g
  psnew : ∀ id g, I'.ps id = some g → I.ps id = some g ∨ w.heap.size ≤ g
  frame : ∀ g, g < w.heap.size → (∀ id, I.ps id = some g → False) → w'.heap[g]? = w.heap[g]?
  size : w.heap.size ≤ w'.heap.size
  os : w'.os = w.os
  tape : w'.tape = w.tape
  output : w'.output = w.output

/-- The world's count of drawn answers says nothing. -/
theorem cell_drawn (w : World) (n : Nat) (a : Addr) : ({ w with drawn := n } : World).cell? a = w.cell? a := rfl

theorem Row.ext {φ φ' : Phi} {I I' : Fz} {rd rd' : Rd} {w w' : World} {g C : Nat} {s : Sh} {es : List AV} (h : Ext φ I rd w φ' I' rd' w') (sm : Sim φ I rd w)
    (r : Row φ rd w I g C s es) (hg : w'.heap[g]? = w.heap[g]?) : Row φ' rd' w' I' g C s es := by
  obtain ⟨arr, T, h1, h2, h3, h4⟩ := r.lies
  refine ⟨arr, T, hg.trans h1, h2, h3, fun i x hx => ⟨(h4 i x hx).1, fun j y hy => ?_⟩⟩
  obtain ⟨v, hv, hr⟩ := (h4 i x hx).2 j y hy
  exact ⟨v, hv, hr.ext h sm⟩

theorem ObjOk.ext {φ φ' : Phi} {I I' : Fz} {rd rd' : Rd} {w w' : World} {g : Nat} {o : WObj} (E : Ext φ I rd w φ' I' rd' w') (sm : Sim φ I rd w) (h : ObjOk w I g o) (hg : w'.heap[g]? = w.heap[g]?) : ObjOk w' I' g o := by
  cases h with
  | dead => exact .dead
  | cells cs arr T h hl hc =>
    refine .cells cs arr T (hg.trans h) hl fun i x hx => ?_
    obtain ⟨h1, v, h2, h3⟩ := hc i x hx
    exact ⟨h1, v, h2, h3.ext E sm⟩
  | map es ms n h hl hc => exact .map es ms n (hg.trans h) hl fun i p m hp hm => ⟨(hc i p m hp hm).1.ext E sm, (hc i p m hp hm).2.ext E sm⟩

theorem WldOk.ext {φ φ' : Phi} {I I' : Fz} {rd rd' : Rd} {w w' : World} {G : World'} (E : Ext φ I rd w φ' I' rd' w') (sm : Sim φ I rd w) (h : WldOk w I G)
    (hps : ∀ id g, I'.ps id = some g → I.ps id = some g) (hh : ∀ id g, I.ps id = some g → w'.heap[g]? = w.heap[g]?) : WldOk w' I' G :=
  ⟨fun id o ho => by
    obtain ⟨g, h1, h2⟩ := h.1 id o ho
    exact ⟨g, E.wx.psub id g h1, h2.ext E sm (hh id g h1)⟩, fun id g hg => h.2 id g (hps id g hg)⟩

/-- The world is as it was. -/
structure WSame (I : Fz) (rd : Rd) (w : World) (I' : Fz) (rd' : Rd) (w' : World) : Prop where
  ps : ∀ id g, I'.ps id = some g → I.ps id = some g
  wld : ∀ b G, rd' b = .wld G → rd b = .wld G
  heap : ∀ id g, I.ps id = some g → w'.heap[g]? = w.heap[g]?

theorem WSame.wx {I I' : Fz} {rd rd' : Rd} {w w' : World} (h : WSame I rd w I' rd' w') (hs : ∀ id g, I.ps id = some g → I'.ps id = some g) : WExt I rd w I' rd' :=
  ⟨hs, fun id g hg => .inl (h.ps id g hg), fun ⟨b, G, hb⟩ => ⟨b, G, h.wld b G hb⟩⟩

theorem HObj.mut_wld {o : HObj} {G : World'} (h : o = .wld G) (hm : o.mut = true) : False := by subst h; cases hm

/-- A step that leaves the world alone. -/
theorem WOk.ext {φ φ' : Phi} {I I' : Fz} {rd rd' : Rd} {w w' : World} (E : Ext φ I rd w φ' I' rd' w') (sm : Sim φ I rd w)
    (hps : ∀ id g, I'.ps id = some g → I.ps id = some g) (hw : ∀ b G, rd' b = .wld G → rd b = .wld G) (hh : ∀ id g, I.ps id = some g → w'.heap[g]? = w.heap[g]?) : WOk φ' I' rd' w' where
  psI id g hg := by
    have h0 := hps id g hg
    obtain ⟨h1, h2, h3⟩ := sm.wok.psI id g h0
    refine ⟨fun hI => ?_, Nat.lt_of_lt_of_le h2 E.size, h3.of (hh id g h0)⟩
    rcases E.inew g hI with h | h | ⟨b, C, hm, hφ⟩
    · exact h1 h
    · omega
    · exact sm.wok.psM b g C id hm hφ h0
  psinj id id' g h h' := sm.wok.psinj id id' g (hps _ _ h) (hps _ _ h')
  psM b g C id hm hφ hp := by
    have h0 := hps id g hp
    rcases E.mnew b g C hm hφ with h | ⟨b0, C0, h1, h2⟩
    · have := (sm.wok.psI id g h0).2.1; omega
    · exact sm.wok.psM b0 g C0 id h1 h2 h0
  wld b G hb := ⟨(sm.wok.wld b G (hw b G hb)).1, (sm.wok.wld b G (hw b G hb)).2.ext E sm hps hh⟩

end Go.Proofs.Dw
end

/-
  THE ABSTRACT WALK, 5: operands, loads, values.
-/
section
namespace Go.Proofs.Dw

theorem bif_some {α : Type} {c : Bool} {x : Option α} {r : α} (h : (bif c then x else none) = some r) : c = true ∧ x = some r := by
  cases c <;> simp_all
theorem bif_none {α : Type} {c : Bool} {x : Option α} {r : α} (h : (bif c then none else x) = some r) : c = false ∧ x = some r := by
  cases c <;> simp_all

theorem Addr.add_none (b o n : Nat) : (⟨b, o, none⟩ : Addr).add n = ⟨b, o + n, none⟩ := by
  unfold Addr.add; split <;> simp_all

theorem Tree.cells_len_sc {x : Tree} (h : x.isSc = true) : x.cells = [x] := by
  cases x <;> simp_all [Tree.isSc, Tree.cells]

theorem AV.cells_t (x : Tree) : (AV.t x).cells = x.cells.map .t := by
  cases x <;> simp [AV.cells, Tree.cells]

theorem AV.cells_sc {v : AV} (h : v.isSc = true) : v.cells = [v] := by
  cases v <;> simp_all [AV.isSc, AV.cells]
  rename_i x
  cases x <;> simp_all [Tree.isSc]

theorem allT_some : ∀ {cs : List AV} {xs : List Tree}, allT cs = some xs → cs = xs.map .t
  | [], xs, h => by simp [allT] at h; subst h; rfl
  | .t x :: r, xs, h => by
    simp only [allT] at h
    split at h
    · rename_i ys hy; cases h; rw [allT_some hy]; rfl
    · cases h
  | .any :: _, _, h => by simp [allT] at h
  | .sc :: _, _, h => by simp [allT] at h
  | .undef :: _, _, h => by simp [allT] at h
  | .nilS :: _, _, h => by simp [allT] at h
  | .clip _ :: _, _, h => by simp [allT] at h
  | .href _ _ _ :: _, _, h => by simp [allT] at h
  | .hsl _ _ :: _, _, h => by simp [allT] at h
  | .hsub _ _ _ :: _, _, h => by simp [allT] at h
  | .agg _ :: _, _, h => by simp [allT] at h
  | .fn _ _ _ :: _, _, h => by simp [allT] at h
  | .tup _ :: _, _, h => by simp [allT] at h

section
variable {φ : Phi} {rd : Rd} {w : World} {I : Fz}

/-- Lists of values. -/
def RepL (φ : Phi) (rd : Rd) (w : World) (I : Fz) (xs : List AV) (vs : List Value) : Prop :=
  vs.length = xs.length ∧ ∀ (i : Nat) x v, xs[i]? = some x → vs[i]? = some v → RepA φ rd w I x v

def RepTL (w : World) (I : Fz) (xs : List Tree) (vs : List Value) : Prop :=
  vs.length = xs.length ∧ ∀ (i : Nat) x v, xs[i]? = some x → vs[i]? = some v → RepT w I x v

theorem RepL.nil : RepL φ rd w I [] [] := ⟨rfl, fun i x v h => by simp at h⟩

theorem RepL.cons {x : AV} {v : Value} {xs : List AV} {vs : List Value} (h : RepA φ rd w I x v) (hs : RepL φ rd w I xs vs) : RepL φ rd w I (x :: xs) (v :: vs) := by
  refine ⟨by simp [hs.1], fun i y u hy hu => ?_⟩
  cases i with
  | zero => simp at hy hu; subst hy; subst hu; exact h
  | succ i => exact hs.2 i y u (by simpa using hy) (by simpa using hu)

theorem RepL.append {xs ys : List AV} {vs us : List Value} (h : RepL φ rd w I xs vs) (k : RepL φ rd w I ys us) : RepL φ rd w I (xs ++ ys) (vs ++ us) := by
  refine ⟨by simp [h.1, k.1], fun i x v hx hv => ?_⟩
  rcases Nat.lt_or_ge i xs.length with hi | hi
  · rw [List.getElem?_append_left hi] at hx
    rw [List.getElem?_append_left (by rw [h.1]; exact hi)] at hv
    exact h.2 i x v hx hv
  · rw [List.getElem?_append_right hi] at hx
    rw [List.getElem?_append_right (by rw [h.1]; exact hi), h.1] at hv
    exact k.2 _ x v hx hv

theorem RepL.ofT {xs : List Tree} {vs : List Value} (h : RepTL w I xs vs) : RepL φ rd w I (xs.map .t) vs := by
  refine ⟨by simp [h.1], fun i x v hx hv => ?_⟩
  rw [List.getElem?_map] at hx
  cases hq : xs[i]? with
  | none => simp [hq] at hx
  | some y => simp [hq] at hx; subst hx; exact .t _ _ (h.2 i y v hq hv)

theorem RepA.tree {x : Tree} {v : Value} (h : RepA φ rd w I (.t x) v) : RepT w I x v := by cases h; assumption

theorem RepL.toT {xs : List Tree} {vs : List Value} (h : RepL φ rd w I (xs.map .t) vs) : RepTL w I xs vs :=
  ⟨by simpa using h.1, fun i x v hx hv => (h.2 i (.t x) v (by simp [hx]) hv).tree⟩

theorem mkAgg_rep {cs : List AV} {vs : Array Value} (h : RepL φ rd w I cs vs.toList) (hf : ∀ x ∈ cs, x.isSc = true) : RepA φ rd w I (mkAgg cs) (.agg vs) := by
  unfold mkAgg
  split
  · rename_i xs hx
    rw [allT_some hx] at h hf
    have h' := h.toT
    exact .t _ _ (.agg xs vs (by simpa using h'.1) (fun x hx => hf (.t x) (List.mem_map.2 ⟨x, hx, rfl⟩)) fun i x v hx hv => h'.2 i x v hx (by simpa using hv))
  · exact .agg cs vs (by simpa using h.1) hf fun i x v hx hv => h.2 i x v hx (by simpa using hv)

theorem mkTup_rep {cs : List AV} {vs : Array Value} (h : RepL φ rd w I cs vs.toList) : RepA φ rd w I (mkTup cs) (.tuple vs) := by
  unfold mkTup
  split
  · rename_i xs hx
    rw [allT_some hx] at h
    have h' := h.toT
    exact .t _ _ (.tup xs vs (by simpa using h'.1) fun i x v hx hv => h'.2 i x v hx (by simpa using hv))
  · exact .tup cs vs (by simpa using h.1) fun i x v hx hv => h.2 i x v hx (by simpa using hv)

/-! ### constants -/
theorem mapO_some {β γ : Type} {f : β → Option γ} : ∀ {l : List β} {r : List γ}, mapO f l = some r → r.length = l.length ∧ ∀ (i : Nat) x y, l[i]? = some x → r[i]? = some y → f x = some y
  | [], r, h => by simp [mapO] at h; subst h; exact ⟨rfl, fun i x y h => by simp at h⟩
  | x :: l, r, h => by
    simp only [mapO] at h
    split at h
    · rename_i y hy
      split at h
      · rename_i r' hr'
        cases h
        obtain ⟨h1, h2⟩ := mapO_some hr'
        refine ⟨by simp [h1], fun i a b ha hb => ?_⟩
        cases i with
        | zero => simp at ha hb; subst ha; subst hb; exact hy
        | succ i => exact h2 i a b (by simpa using ha) (by simpa using hb)
      · cases h
    · cases h

theorem cellAV_rep {v : Value} {a : AV} (h : cellAV v = some a) : RepA φ rd w I a v := by
  unfold cellAV at h
  split at h <;> first | cases h | skip
  · exact .t _ _ (.bool _)
  · exact .t _ _ (.int _ _)
  · rename_i s
    have := RepT.str (w := w) (I := I) s.data.toList
    exact .t _ _ (by simpa using this)
  · exact .nilS
  · exact .t _ _ .nilp
  · exact .t _ _ .nilfn
  · exact .t _ _ .nilm
  · exact .t _ _ .nili

theorem cellAVs_rep {l : List Value} {r : List AV} (h : mapO cellAV l = some r) : RepL φ rd w I r l := by
  obtain ⟨h1, h2⟩ := mapO_some h
  exact ⟨h1.symm, fun i x v hx hv => cellAV_rep (h2 i v x hv hx)⟩

theorem cellAV_sc {v : Value} {a : AV} (h : cellAV v = some a) : a.isSc = true := by
  unfold cellAV at h
  split at h <;> first | cases h | skip
  all_goals rfl

theorem cellAVs_sc {l : List Value} {r : List AV} (h : mapO cellAV l = some r) : ∀ x ∈ r, x.isSc = true := by
  obtain ⟨h1, h2⟩ := mapO_some h
  intro x hx
  obtain ⟨i, hi, rfl⟩ := List.mem_iff_getElem.1 hx
  exact cellAV_sc (h2 i (l[i]'(by omega)) _ (by simp) (by simp))

theorem avOf_rep {v : Value} {a : AV} (h : avOf v = some a) : RepA φ rd w I a v := by
  unfold avOf at h
  split at h
  · rename_i cs
    split at h
    · rename_i l hl; cases h; exact mkAgg_rep (cellAVs_rep hl) (cellAVs_sc hl)
    · cases h
  · exact cellAV_rep h

/-! ### slots -/
def RepS (φ : Phi) (rd : Rd) (w : World) (I : Fz) (ts : List AV) (tm : Array Value) : Prop := RepL φ rd w I ts tm.toList

theorem slot_rep : ∀ {ts : List AV} {l : List Value}, RepL φ rd w I ts l → ∀ i, RepA φ rd w I (slot ts i) (l.getD i Go.undef)
  | [], _, _, _ => by simp only [slot]; exact .any _
  | x :: r, [], h, _ => by have := h.1; simp at this
  | x :: r, v :: l, h, 0 => by simp only [slot, List.getD_cons_zero]; exact h.2 0 x v rfl rfl
  | x :: r, v :: l, h, i + 1 => by
    simp only [slot, List.getD_cons_succ]
    exact slot_rep ⟨by have := h.1; simpa using this, fun j y u hy hu => h.2 (j + 1) y u (by simpa using hy) (by simpa using hu)⟩ i

theorem getD_toList (a : Array Value) (i : Nat) (d : Value) : a.getD i d = a.toList.getD i d := by
  simp [Array.getD_eq_getD_getElem?, List.getD]

theorem ev_rep {ts : List AV} {a : Act} (hs : RepS φ rd w I ts a.tmps) {x : Operand} {y : Opd} (h : compOpd x = some y) : RepA φ rd w I (ev ts y) (a.eval x) := by
  unfold compOpd at h
  split at h
  · cases h; simp only [ev, Act.eval]; rw [getD_toList]; exact slot_rep hs _
  · split at h
    · rename_i hv; cases h; simp only [ev, Act.eval]; exact avOf_rep hv
    · cases h
  · cases h; simp only [ev, Act.eval]; exact .t _ _ (.fn _ [] [] #[] #[] rfl rfl (fun i x v h => by simp at h) (fun i x v h => by simp at h))
  · cases h

theorem evs_rep {ts : List AV} {a : Act} (hs : RepS φ rd w I ts a.tmps) : ∀ {l : List Operand} {r : List Opd}, compOpds l = some r → RepL φ rd w I (evs ts r) (l.map a.eval)
  | [], r, h => by simp [compOpds, mapO] at h; subst h; exact .nil
  | x :: l, r, h => by
    simp only [compOpds, mapO] at h
    split at h
    · rename_i y hy
      split at h
      · rename_i r' hr'
        cases h
        exact .cons (ev_rep hs hy) (evs_rep hs (l := l) hr')
      · cases h
    · cases h

theorem putS_rep {ts : List AV} {a : Act} (hs : RepS φ rd w I ts a.tmps) (d : Option Nat) {x : AV} {v : Value} (h : RepA φ rd w I x v) : RepS φ rd w I (putS ts d x) (a.put d v).tmps := by
  cases d with
  | none => exact hs
  | some d =>
    unfold RepS RepL at *
    simp only [putS, setN_eq, Act.put, Array.toList_setIfInBounds, List.length_set]
    refine ⟨hs.1, fun i y u hy hu => ?_⟩
    rw [List.getElem?_set] at hy hu
    by_cases hd : d = i
    · subst hd
      simp only [if_true] at hy hu
      split at hy
      · split at hu
        · cases hy; cases hu; exact h
        · cases hu
      · cases hy
    · simp only [if_neg hd] at hy hu
      exact hs.2 i y u hy hu

/-! ### types -/
theorem run_isAgg' {P : Program} {t : TypeId} {b : Bool} (h : tyAgg P t = some b) (w : World) : (isAgg t).run P w = .ok b w := by
  unfold tyAgg at h
  unfold isAgg underlying
  cases hu : P.underlying t with
  | none => simp [hu] at h
  | some d => cases d <;> simp_all

theorem run_sizeOf' {P : Program} {t : TypeId} {n : Nat} (h : tySize P t = some n) (w : World) : (sizeOf t).run P w = .ok n w := by
  unfold tySize at h
  unfold sizeOf typeInfo
  cases hu : P.info? t with
  | none => simp [hu] at h
  | some d => simp_all

theorem run_zeroValue' {P : Program} {t : TypeId} {z : Value} (h : tyZero P t = some z) (w : World) : (zeroValue t).run P w = .ok z w := by
  unfold tyZero at h
  unfold zeroValue typeInfo
  cases hu : P.info? t with
  | none => simp [hu] at h
  | some d => simp_all

theorem run_underlying' {P : Program} {t : TypeId} {d : TypeDesc} (h : P.underlying t = some d) (w : World) : (underlying t).run P w = .ok d w := by
  unfold underlying; simp [h]

/-- What a shape says of its type. -/
theorem shOf_spec {P : Program} {t : TypeId} {s : Sh} (h : shOf P t = some s) :
    tySize P t = some s.width ∧ ((∃ l, s = .agg l ∧ tyAgg P t = some true) ∨ (tyAgg P t = some false ∧ s.width = 1 ∧ ∀ l, s ≠ .agg l)) := by
  unfold shOf at h
  split at h
  · rename_i n h1 h2 h3
    obtain ⟨hb, h⟩ := bif_some h
    have := Nat.eq_of_beq_eq_true hb
    cases h
    exact ⟨by simp [Sh.width, h3, this], .inl ⟨_, rfl, h1⟩⟩
  · rename_i z n h1 h2 h3
    · obtain ⟨hb, h⟩ := bif_some h
      simp only [Bool.and_eq_true] at hb
      have := Nat.eq_of_beq_eq_true hb.1
      cases h
      have hw : (valSh z).width = 1 := by unfold valSh; split <;> rfl
      refine ⟨by rw [hw, h3, this], .inr ⟨h1, hw, fun l => ?_⟩⟩
      unfold valSh; split <;> simp
  · cases h

/-! ### cells in memory -/
/-- From place o of block b on, the cells of a list of values lie. -/
def CellsAt (φ : Phi) (rd : Rd) (w : World) (I : Fz) (b o : Nat) (cs : List AV) : Prop :=
  ∀ (k : Nat) y, cs[k]? = some y → ∃ v, w.cell? ⟨b, o + k, none⟩ = some v ∧ RepA φ rd w I y v

theorem CellsAt.drop {b o : Nat} {cs : List AV} (h : CellsAt φ rd w I b o cs) (j : Nat) : CellsAt φ rd w I b (o + j) (cs.drop j) := by
  intro k y hy
  rw [List.getElem?_drop] at hy
  have := h (j + k) y hy
  rwa [← Nat.add_assoc] at this

theorem CellsAt.take {b o : Nat} {cs : List AV} (h : CellsAt φ rd w I b o cs) (n : Nat) : CellsAt φ rd w I b o (cs.take n) := by
  intro k y hy
  rw [List.getElem?_take] at hy
  split at hy
  · exact h k y hy
  · cases hy

/-- What lies there, as a list. -/
theorem CellsAt.values {b : Nat} : ∀ {cs : List AV} {o : Nat}, CellsAt φ rd w I b o cs → ∃ vs : List Value, RepL φ rd w I cs vs ∧ ∀ (j : Nat) v, vs[j]? = some v → w.cell? ⟨b, o + j, none⟩ = some v
  | [], _, _ => ⟨[], .nil, fun j v h => by simp at h⟩
  | x :: cs, o, h => by
    obtain ⟨v, hv, hr⟩ := h 0 x rfl
    obtain ⟨vs, h1, h2⟩ := CellsAt.values (cs := cs) (o := o + 1) (fun k y hy => by
      have := h (k + 1) y (by simpa using hy)
      rwa [show o + (k + 1) = o + 1 + k by omega] at this)
    refine ⟨v :: vs, .cons hr h1, fun j u hu => ?_⟩
    cases j with
    | zero => simp at hu; subst hu; exact hv
    | succ j => have := h2 j u (by simpa using hu); rwa [show o + (j + 1) = o + 1 + j by omega]

theorem run_loadVar_sc {P : Program} {t : TypeId} (h : tyAgg P t = some false) (a : Addr) (v : Value) (hc : w.cell? a = some v) : (loadVar t a).run P w = .ok v w := by
  simp [loadVar, run_isAgg' h, hc]

theorem run_loadVar_agg {P : Program} {t : TypeId} (h : tyAgg P t = some true) (b o : Nat) (vs : List Value) (hs : tySize P t = some vs.length)
    (hc : ∀ (j : Nat) v, vs[j]? = some v → w.cell? ⟨b, o + j, none⟩ = some v) : (loadVar t ⟨b, o, none⟩).run P w = .ok (.agg vs.toArray) w := by
  have := run_loadCells_list (P := P) w ⟨b, o, none⟩ vs (fun j v hv => by rw [Addr.add_none]; exact hc j v hv)
  simp [loadVar, run_isAgg' h, run_sizeOf' hs, this]

theorem sc_take_drop {cs : List AV} (hf : ∀ x ∈ cs, x.isSc = true) (j n : Nat) : ∀ x ∈ (cs.drop j).take n, x.isSc = true :=
  fun x hx => hf x (List.mem_of_mem_drop (List.mem_of_mem_take hx))

theorem loadBy_run {α : Type} {P : Program} {t : TypeId} {s : Sh} (hs : shOf P t = some s) {b o j : Nat} {cs : List AV} (hc : CellsAt φ rd w I b o cs) (hf : ∀ x ∈ cs, x.isSc = true) {K : AV → Option α} {r : α}
    (h : loadBy s j cs K = some r) : ∃ x v, K x = some r ∧ (loadVar t ⟨b, o + j, none⟩).run P w = .ok v w ∧ RepA φ rd w I x v := by
  obtain ⟨h1, h2⟩ := shOf_spec hs
  rcases h2 with ⟨l, rfl, h2⟩ | ⟨h2, h3, h4⟩
  · simp only [loadBy] at h
    cases hb : Nat.ble (j + l.length) cs.length with
    | false => simp [hb] at h
    | true =>
      simp only [hb, cond_true] at h
      have hle := Nat.le_of_ble_eq_true hb
      obtain ⟨vs, hv1, hv2⟩ := ((hc.drop j).take l.length).values
      have hlen : vs.length = l.length := by rw [hv1.1, List.length_take, List.length_drop]; omega
      exact ⟨_, _, h, run_loadVar_agg h2 b (o + j) vs (by rw [h1, hlen]; rfl) hv2, mkAgg_rep (by simpa using hv1) (sc_take_drop hf _ _)⟩
  · have hsc : ∀ {x : AV}, nth cs j = some x → ∃ v, w.cell? ⟨b, o + j, none⟩ = some v ∧ RepA φ rd w I x v := fun hx => hc j _ (by rw [← nth_eq]; exact hx)
    have key : (match nth cs j with
      | some (.t x) => bif s.ok x then K (.t (s.open x)) else none
      | some v => bif v.isSc then K v else none
      | none => none) = some r := by
      cases s <;> first | exact absurd rfl (h4 _) | exact h
    split at key
    · rename_i x hx
      cases hok : s.ok x with
      | false => simp [hok] at key
      | true =>
        simp only [hok, cond_true, Sh.open_eq s x hok] at key
        obtain ⟨v, hv, hr⟩ := hsc hx
        exact ⟨_, v, key, run_loadVar_sc h2 _ v hv, hr⟩
    · rename_i x _ hx
      cases hok : x.isSc with
      | false => simp [hok] at key
      | true =>
        simp only [hok, cond_true] at key
        obtain ⟨v, hv, hr⟩ := hsc hx
        exact ⟨_, v, key, run_loadVar_sc h2 _ v hv, hr⟩
    · cases key

/-- The elements of a block. -/
theorem elemOf_some {α : Type} {o : HObj} {i : Nat} {K : AV → Option α} {r : α} (h : elemOf o i K = some r) : o.alive = true ∧ ∃ e, o.els[i]? = some e ∧ K e = some r := by
  unfold elemOf at h
  split at h
  · cases h
  · cases h
  · cases h
  · rename_i s es
    rw [nth_eq] at h
    cases he : es[i]? with
    | none => simp [he] at h
    | some e => simp [he] at h; exact ⟨rfl, e, he, h⟩
  all_goals
    rename_i s es
    rw [nth_eq] at h
    cases he : es[i]? with
    | none => simp [he] at h
    | some e =>
      simp only [he, Option.bind_some] at h
      cases hok : s.ok e with
      | false => simp [hok] at h
      | true =>
        simp only [hok, cond_true, Sh.open_eq s e hok] at h
        exact ⟨rfl, .t e, by simp [HObj.els, he], h⟩

theorem Sim.elem {b i : Nat} {e : AV} (s : Sim φ I rd w) (ha : (rd b).alive = true) (he : (rd b).els[i]? = some e) :
    ∃ g C, φ b = some (g, C) ∧ (e.cells.length = (rd b).width ∧ ∀ x ∈ e.cells, x.isSc = true) ∧ CellsAt φ rd w I g (i * (rd b).width) e.cells := by
  rcases s.blk b ha with ⟨h0, _⟩ | ⟨g, C, h1, _, _, hr⟩
  · rw [h0] at he; simp at he
  · obtain ⟨arr, T, h2, h3, h4, h5⟩ := hr.lies
    refine ⟨g, C, h1, ⟨(h5 i e he).1.1, List.all_eq_true.1 (h5 i e he).1.2⟩, fun k y hy => ?_⟩
    obtain ⟨v, hv, hrep⟩ := (h5 i e he).2 k y hy
    exact ⟨v, by simp only [World.cell?, h2]; exact hv, hrep⟩

theorem RepT.ptrCells {e : Tree} {j : Nat} {v : Value} (h : RepT w I (.ptr e j) v) : ∃ b o, v = .pointer (some ⟨b, o + j, none⟩) ∧ CellsAt φ rd w I b o (AV.cells (.t e)) ∧ ∀ x ∈ AV.cells (.t e), x.isSc = true := by
  cases h with
  | ptr e j b o val hI hf hcell hv =>
    refine ⟨b, o, rfl, fun k y hy => ?_, fun x hx => ?_⟩
    rotate_left
    · rw [AV.cells_t, List.mem_map] at hx
      obtain ⟨y, hy, rfl⟩ := hx
      exact List.all_eq_true.1 hf y hy
    rw [AV.cells_t, List.getElem?_map] at hy
    cases hq : e.cells[k]? with
    | none => simp [hq] at hy
    | some x => simp [hq] at hy; subst hy; exact ⟨val k, hcell k x hq, .t _ _ (hv k x hq)⟩

end

end Go.Proofs.Dw
end

/-
  THE ABSTRACT WALK, 6: operations that leave the world alone.
-/
section
namespace Go.Proofs.Dw

section
variable {φ : Phi} {rd : Rd} {w : World} {I : Fz}

/-- The operation comes to a value that an abstract one tells, the world is as it was. -/
def Gives (φ : Phi) (rd : Rd) (w : World) (I : Fz) (P : Program) (o : Oper) (a : Act) {α : Type} (K : AV → Delta → Option α) (r : α) : Prop :=
  ∃ x v, K x Delta.none = some r ∧ (execOp a.eval o).run P w = .ok (.value v) w ∧ RepA φ rd w I x v

theorem run_value {α : Type} (P : Program) (w : World) (s : Sem α) (f : α → Next) (x : α) (h : s.run P w = .ok x w) : (do let y ← s; pure (f y) : Sem Next).run P w = .ok (f x) w := by
  simp [h]

theorem asI_some {α : Type} {v : AV} {K : IntKind → Int → Option α} {r : α} (h : asI v K = some r) : ∃ k n, v = .t (.int k n) ∧ K k n = some r := by
  unfold asI at h; split at h
  · exact ⟨_, _, rfl, h⟩
  · cases h
theorem asB_some {α : Type} {v : AV} {K : Bool → Option α} {r : α} (h : asB v K = some r) : ∃ b, v = .t (.bool b) ∧ K b = some r := by
  unfold asB at h; split at h
  · exact ⟨_, rfl, h⟩
  · cases h
theorem RepA.int_inv {k : IntKind} {n : Int} {v : Value} (h : RepA φ rd w I (.t (.int k n)) v) : v = .int k n := by
  have := h.tree; cases this; rfl
theorem RepA.bool_inv {b : Bool} {v : Value} (h : RepA φ rd w I (.t (.bool b)) v) : v = .bool b := by
  have := h.tree; cases this; rfl
theorem RepA.str_inv {s : List UInt8} {v : Value} (h : RepA φ rd w I (.t (.str s)) v) : v = .string ⟨s.toArray⟩ := by
  have := h.tree; cases this; rfl
theorem RepA.int (k : IntKind) (n : Int) : RepA φ rd w I (.t (.int k n)) (.int k n) := .t _ _ (.int k n)
theorem RepA.bool (b : Bool) : RepA φ rd w I (.t (.bool b)) (.bool b) := .t _ _ (.bool b)
theorem RepA.str (s : List UInt8) : RepA φ rd w I (.t (.str s)) (.string ⟨s.toArray⟩) := .t _ _ (.str s)

theorem RepT.agg_inv {cs : List Tree} {v : Value} (h : RepT w I (.agg cs) v) : ∃ vs : Array Value, v = .agg vs ∧ RepTL w I cs vs.toList ∧ ∀ x ∈ cs, x.isSc = true := by
  cases h with
  | agg cs vs hl hf h => exact ⟨vs, rfl, ⟨by simpa using hl, fun i x v hx hv => h i x v hx (by simpa using hv)⟩, hf⟩

theorem RepA.agg_inv {cs : List AV} {v : Value} (h : RepA φ rd w I (.agg cs) v) : ∃ vs : Array Value, v = .agg vs ∧ RepL φ rd w I cs vs.toList ∧ ∀ x ∈ cs, x.isSc = true := by
  cases h with
  | agg cs vs hl hf h => exact ⟨vs, rfl, ⟨by simpa using hl, fun i x v hx hv => h i x v hx (by simpa using hv)⟩, hf⟩

theorem RepA.tagg_inv {cs : List Tree} {v : Value} (h : RepA φ rd w I (.t (.agg cs)) v) : ∃ vs : Array Value, v = .agg vs ∧ RepL φ rd w I (cs.map .t) vs.toList ∧ ∀ x ∈ cs.map AV.t, x.isSc = true := by
  obtain ⟨vs, h1, h2, h3⟩ := h.tree.agg_inv
  refine ⟨vs, h1, .ofT h2, fun x hx => ?_⟩
  obtain ⟨y, hy, rfl⟩ := List.mem_map.1 hx
  exact h3 y hy

theorem RepA.href_inv {b i j : Nat} {v : Value} (h : RepA φ rd w I (.href b i j) v) (ha : (rd b).alive = true) : ∃ g C, φ b = some (g, C) ∧ v = .pointer (some ⟨g, i * (rd b).width + j, none⟩) := by
  cases h with
  | hrefD _ _ _ _ hd => rw [hd] at ha; cases ha
  | href _ _ _ g C h1 h2 => exact ⟨g, C, h2, rfl⟩

theorem RepA.href_ptr {b i j : Nat} {v : Value} (h : RepA φ rd w I (.href b i j) v) : ∃ A : Addr, v = .pointer (some A) ∧ ∀ n, RepA φ rd w I (.href b i (j + n)) (.pointer (some (A.add n))) := by
  cases h with
  | hrefD _ _ _ A hd => exact ⟨A, rfl, fun n => .hrefD _ _ _ _ hd⟩
  | href _ _ _ g C h1 h2 => exact ⟨_, rfl, fun n => by rw [Addr.add_none, Nat.add_assoc]; exact .href _ _ _ g C h1 h2⟩

theorem RepA.hsl_inv {b : Nat} {k : Option Nat} {v : Value} (h : RepA φ rd w I (.hsl b k) v) (ha : (rd b).alive = true) :
    (∃ g C c, φ b = some (g, C) ∧ v = .slice (some ⟨g, 0, none⟩) (rd b).els.length c ∧ (rd b).els.length ≤ c ∧ c ≤ C ∧ ∀ n, k = some n → n = c) ∨
    (∃ A, v = .slice A 0 0 ∧ (rd b).els.length = 0 ∧ ∀ n, k = some n → n = 0) := by
  cases h with
  | hslD _ _ _ _ _ hd => rw [hd] at ha; cases ha
  | hsl _ _ g C c h1 h2 h3 h4 h5 => exact .inl ⟨g, C, c, h2, rfl, h3, h4, h5⟩
  | hsl0 _ _ A h1 h2 h3 => exact .inr ⟨A, rfl, h2, h3⟩

theorem RepA.hsub_inv {b off len : Nat} {v : Value} (h : RepA φ rd w I (.hsub b off len) v) (ha : (rd b).alive = true) :
    (∃ g C c, φ b = some (g, C) ∧ v = .slice (some ⟨g, off * (rd b).width, none⟩) len c ∧ len ≤ c ∧ off + c ≤ C) ∨ (∃ A, v = .slice A 0 0 ∧ len = 0) := by
  cases h with
  | hsubD _ _ _ _ _ _ hd => rw [hd] at ha; cases ha
  | hsub _ _ _ g C c h1 h2 h3 h4 => exact .inl ⟨g, C, c, h2, rfl, h3, h4⟩
  | hsub0 _ _ A h1 => exact .inr ⟨A, rfl, rfl⟩

theorem RepT.ptr_inv {e : Tree} {j : Nat} {v : Value} (h : RepT w I (.ptr e j) v) : ∃ (b o : Nat) (val : Nat → Value), I b ∧ e.fl = true ∧ (∀ (i : Nat) y, e.cells[i]? = some y → w.cell? ⟨b, o + i, none⟩ = some (val i)) ∧
    (∀ (i : Nat) y, e.cells[i]? = some y → RepT w I y (val i)) ∧ v = .pointer (some ⟨b, o + j, none⟩) := by
  cases h with
  | ptr e j b o val hI hf hcell hv => exact ⟨b, o, val, hI, hf, hcell, hv, rfl⟩

variable {P : Program} {o : Oper} {ts : List AV} {a : Act} (hs : RepS φ rd w I ts a.tmps) {α : Type} {K : AV → Delta → Option α} {r : α}
include hs

theorem do_mov {x : Operand} {y : Opd} (ho : o.op = .move x ∨ o.op = .assign x) (hx : compOpd x = some y) (h : K (ev ts y) .none = some r) : Gives φ rd w I P o a K r := by
  refine ⟨_, a.eval x, h, ?_, ev_rep hs hx⟩
  rcases ho with ho | ho <;> simp [execOp, ho]

theorem do_nonnil {x : Operand} {y : Opd} (ho : o.op = .nilCheck x) (hx : compOpd x = some y)
    (h : (match ev ts y with | .href b i j => K (.href b i j) .none | .t (.ptr e j) => K (.t (.ptr e j)) .none | _ => none) = some r) : Gives φ rd w I P o a K r := by
  have hr := ev_rep hs hx
  split at h
  · rename_i b i j e
    rw [e] at hr
    obtain ⟨A, hv, _⟩ := hr.href_ptr
    refine ⟨_, _, h, ?_, hr⟩
    simp [execOp, ho, hv]
  · rename_i e j q
    rw [q] at hr
    obtain ⟨b, o', hv, _⟩ := (hr.tree).ptrCells (φ := φ) (rd := rd)
    refine ⟨_, _, h, ?_, hr⟩
    simp [execOp, ho, hv]
  · cases h

theorem do_pick {c x y : Operand} {c' x' y' : Opd} (ho : o.op = .pick c x y) (hc : compOpd c = some c') (hx : compOpd x = some x') (hy : compOpd y = some y')
    (h : (asB (ev ts c') fun t => bif t then K (ev ts x') .none else K (ev ts y') .none) = some r) : Gives φ rd w I P o a K r := by
  obtain ⟨b, hb, h⟩ := asB_some h
  have hcv := ev_rep hs hc
  rw [hb] at hcv
  have hcv := hcv.bool_inv
  cases b with
  | true => exact ⟨_, _, h, by simp [execOp, ho, hcv, asBool], ev_rep hs hx⟩
  | false => exact ⟨_, _, h, by simp [execOp, ho, hcv, asBool], ev_rep hs hy⟩

theorem do_ld {t : TypeId} {x : Operand} {y : Opd} {s : Sh} (sm : Sim φ I rd w) (ho : o.op = .load t x) (ht : shOf P t = some s) (hx : compOpd x = some y)
    (h : (match ev ts y with
      | .href b i j => elemOf (rd b) i fun e => loadBy s j e.cells fun v => K v .none
      | .t (.ptr e j) => loadBy s j (AV.cells (.t e)) fun v => K v .none
      | _ => none) = some r) : Gives φ rd w I P o a K r := by
  have hr := ev_rep hs hx
  split at h
  · rename_i b i j e
    rw [e] at hr
    obtain ⟨ha, el, hel, h⟩ := elemOf_some h
    obtain ⟨g, C, h2, hv⟩ := hr.href_inv ha
    obtain ⟨g', C', h3, hsc, h4⟩ := sm.elem ha hel
    rw [h2] at h3; cases h3
    obtain ⟨x', v', k1, k2, k3⟩ := loadBy_run ht h4 hsc.2 h
    refine ⟨x', v', k1, ?_, k3⟩
    simp [execOp, ho, hv, Instr.loadAt, Instr.sureAddr, k2]
  · rename_i e j q
    rw [q] at hr
    obtain ⟨b, o', hv, hc, hsc⟩ := (hr.tree).ptrCells (φ := φ) (rd := rd)
    obtain ⟨x', v', k1, k2, k3⟩ := loadBy_run ht hc hsc h
    refine ⟨x', v', k1, ?_, k3⟩
    simp [execOp, ho, hv, Instr.loadAt, Instr.sureAddr, k2]
  · cases h

/-! ### numbers and strings -/
omit hs in
theorem intOp_run (b : BinOp) (k : IntKind) (m n : Int) {K' : AV → Option α} (h : intOp b k m n K' = some r) :
    ∃ x v, K' x = some r ∧ (∀ t, (binOp b t (.int k m) (.int k n)).run P w = .ok v w) ∧ RepA φ rd w I x v := by
  unfold intOp at h
  cases b <;> simp only at h <;> (try cases h; done)
  case quo =>
    obtain ⟨hz, h⟩ := bif_none h
    exact ⟨_, _, h, fun t => by simp [binOp, Op.intDiv, of_decide_eq_false hz], .int k _⟩
  case rem =>
    obtain ⟨hz, h⟩ := bif_none h
    exact ⟨_, _, h, fun t => by simp [binOp, Op.intDiv, of_decide_eq_false hz], .int k _⟩
  case add => exact ⟨_, _, h, fun t => by simp [binOp, Op.intArith], .int k _⟩
  case sub => exact ⟨_, _, h, fun t => by simp [binOp, Op.intArith], .int k _⟩
  case mul => exact ⟨_, _, h, fun t => by simp [binOp, Op.intArith], .int k _⟩
  case and =>
    rw [gate_eq, gate_eq] at h
    exact ⟨_, _, h, fun t => by simp [binOp, Op.intBits], .int k _⟩
  case or =>
    rw [gate_eq, gate_eq] at h
    exact ⟨_, _, h, fun t => by simp [binOp, Op.intBits], .int k _⟩
  case xor =>
    rw [gate_eq, gate_eq] at h
    exact ⟨_, _, h, fun t => by simp [binOp, Op.intBits], .int k _⟩
  case eql => exact ⟨_, _, h, fun t => by simp [binOp, Op.intCmp], .bool _⟩
  case neq => exact ⟨_, _, h, fun t => by simp [binOp, Op.intCmp], .bool _⟩
  case lss => exact ⟨_, _, h, fun t => by simp [binOp, Op.intCmp], .bool _⟩
  case leq => exact ⟨_, _, h, fun t => by simp [binOp, Op.intCmp], .bool _⟩
  case gtr => exact ⟨_, _, h, fun t => by simp [binOp, Op.intCmp], .bool _⟩
  case geq => exact ⟨_, _, h, fun t => by simp [binOp, Op.intCmp], .bool _⟩

omit hs in
theorem shiftOp_run (b : BinOp) (hb : b = .shl ∨ b = .shr) (k k' : IntKind) (m n : Int) {K' : AV → Option α} (h : shiftOp b k m n K' = some r) :
    ∃ x v, K' x = some r ∧ (∀ t, (binOp b t (.int k m) (.int k' n)).run P w = .ok v w) ∧ RepA φ rd w I x v := by
  unfold shiftOp at h
  obtain ⟨hz, h⟩ := bif_none h
  have hz := of_decide_eq_false hz
  rcases hb with rfl | rfl
  · exact ⟨_, _, h, fun t => by simp [binOp, Op.shift, hz], .int k _⟩
  · exact ⟨_, _, h, fun t => by simp [binOp, Op.shift, hz], .int k _⟩

omit hs in
theorem strOp_run (b : BinOp) (m n : List UInt8) {K' : AV → Option α} (h : strOp b m n K' = some r) :
    ∃ x v, K' x = some r ∧ (∀ t, (binOp b t (.string ⟨m.toArray⟩) (.string ⟨n.toArray⟩)).run P w = .ok v w) ∧ RepA φ rd w I x v := by
  have tl : ∀ l : List UInt8, (⟨l.toArray⟩ : ByteArray).toList = l := fun l => by rw [ByteArray.toList_eq]
  unfold strOp at h
  cases b <;> simp only at h <;> (try cases h; done)
  case add =>
    obtain ⟨hz, h⟩ := bif_some h
    have hz := of_decide_eq_true hz
    have hsz : ∀ l : List UInt8, (⟨l.toArray⟩ : ByteArray).size = l.length := fun l => by simp [ByteArray.size]
    have hle : ¬ (((⟨m.toArray⟩ : ByteArray).size + (⟨n.toArray⟩ : ByteArray).size : Nat) : Int) > IntKind.i64.max := by
      rw [hsz, hsz]
      have : IntKind.i64.max = 9223372036854775807 := by decide
      rw [this]; omega
    refine ⟨_, .string ⟨(m ++ n).toArray⟩, h, fun t => ?_, .str _⟩
    simp only [binOp, Op.stringOp, if_neg hle, Sem.run_pure]
    congr 2
  case eql => exact ⟨_, _, h, fun t => by simp only [binOp, Op.stringOp, tl, Sem.run_pure], .bool _⟩
  case neq => exact ⟨_, _, h, fun t => by simp only [binOp, Op.stringOp, tl, Sem.run_pure], .bool _⟩
  case lss => exact ⟨_, _, h, fun t => by simp only [binOp, Op.stringOp, tl, Sem.run_pure], .bool _⟩
  case leq => exact ⟨_, _, h, fun t => by simp only [binOp, Op.stringOp, tl, Sem.run_pure], .bool _⟩
  case gtr => exact ⟨_, _, h, fun t => by simp only [binOp, Op.stringOp, tl, Sem.run_pure], .bool _⟩
  case geq => exact ⟨_, _, h, fun t => by simp only [binOp, Op.stringOp, tl, Sem.run_pure], .bool _⟩

omit hs in
theorem eqGuard_run (b : BinOp) (t : TypeId) (x y : Operand) (u v : Value) (h : ∀ p q, ¬ (u = .agg p ∧ v = .agg q)) (h2 : ¬ (u = .nilIface)) : (eqGuard b t x y u v).run P w = .ok () w := by
  unfold eqGuard
  cases b <;> simp
  all_goals
    split
    · exact absurd rfl h2
    · exact absurd ⟨rfl, rfl⟩ (h _ _)
    · rfl

theorem do_bin {b : BinOp} {t t' : TypeId} {x y : Operand} {x' y' : Opd} (ho : o.op = .binOp b t x y t') (hx : compOpd x = some x') (hy : compOpd y = some y')
    (h : binA b (ev ts x') (ev ts y') (fun v => K v .none) = some r) : Gives φ rd w I P o a K r := by
  have rx := ev_rep hs hx
  have ry := ev_rep hs hy
  unfold binA at h
  split at h
  · rename_i k m k' n e1 e2
    rw [e1] at rx; rw [e2] at ry
    have rx := rx.int_inv; have ry := ry.int_inv
    have hg := eqGuard_run (P := P) (w := w) b t x y (.int k m) (.int k' n) (by simp) (by simp)
    split at h
    · obtain ⟨z, v, k1, k2, k3⟩ := shiftOp_run (P := P) (φ := φ) (rd := rd) (w := w) (I := I) .shl (.inl rfl) k k' m n h
      exact ⟨z, v, k1, by simp [execOp, ho, rx, ry, hg, k2], k3⟩
    · obtain ⟨z, v, k1, k2, k3⟩ := shiftOp_run (P := P) (φ := φ) (rd := rd) (w := w) (I := I) .shr (.inr rfl) k k' m n h
      exact ⟨z, v, k1, by simp [execOp, ho, rx, ry, hg, k2], k3⟩
    · obtain ⟨hk, h'⟩ := bif_some h
      have hk := kindEq_eq hk
      subst hk
      obtain ⟨z, v, k1, k2, k3⟩ := intOp_run (P := P) (φ := φ) (rd := rd) (w := w) (I := I) b k m n h'
      exact ⟨z, v, k1, by simp [execOp, ho, rx, ry, hg, k2], k3⟩
  · rename_i m n e1 e2
    rw [e1] at rx; rw [e2] at ry
    have rx := rx.str_inv; have ry := ry.str_inv
    have hg := eqGuard_run (P := P) (w := w) b t x y (.string ⟨m.toArray⟩) (.string ⟨n.toArray⟩) (by simp) (by simp)
    obtain ⟨z, v, k1, k2, k3⟩ := strOp_run (P := P) (φ := φ) (rd := rd) (w := w) (I := I) b m n h
    exact ⟨z, v, k1, by simp [execOp, ho, rx, ry, hg, k2], k3⟩
  · cases h

theorem do_un {u : UnOp} {t : TypeId} {x : Operand} {x' : Opd} (ho : o.op = .unOp u t x) (hx : compOpd x = some x')
    (h : unA u (ev ts x') (fun v => K v .none) = some r) : Gives φ rd w I P o a K r := by
  have rx := ev_rep hs hx
  unfold unA at h
  split at h
  · rename_i b e
    rw [e] at rx
    have rx := rx.bool_inv
    exact ⟨_, _, h, by simp [execOp, ho, rx, Op.unary], .bool _⟩
  · rename_i k n e
    rw [e] at rx
    have rx := rx.int_inv
    refine ⟨_, _, h, ?_, .int k _⟩
    simp [execOp, ho, rx, Op.unary, Op.intArith]
  · cases h

theorem do_conv {d s : TypeId} {k : IntKind} {x : Operand} {x' : Opd} (ho : o.op = .convert s d x) (hd : P.underlying d = some (.int k)) (hsrc : (P.underlying s).isSome = true) (hx : compOpd x = some x')
    (h : (asI (ev ts x') fun _ n => K (.t (.int k (k.wrap n))) .none) = some r) : Gives φ rd w I P o a K r := by
  have rx := ev_rep hs hx
  obtain ⟨k', n, e, h⟩ := asI_some h
  rw [e] at rx
  have rx := rx.int_inv
  obtain ⟨sd, hsd⟩ := Option.isSome_iff_exists.1 hsrc
  refine ⟨_, _, h, ?_, .int k _⟩
  simp [execOp, ho, rx, convert, run_underlying' hd, run_underlying' hsd, Conv.intToInt]

theorem do_mkf {g : Nat} {f c : Array Operand} {f' c' : List Opd} (ho : o.op = .makeFunc (.func g) f c) (hf : compOpds f.toList = some f') (hc : compOpds c.toList = some c')
    (h : (match allT (evs ts f'), allT (evs ts c') with | some a', some b' => K (.t (.fn g a' b')) .none | _, _ => K (.fn g (evs ts f') (evs ts c')) .none) = some r) : Gives φ rd w I P o a K r := by
  have rf := evs_rep hs hf
  have rc := evs_rep hs hc
  have hrun : (execOp a.eval o).run P w = .ok (.value (.func (.func g) (f.map a.eval) (c.map a.eval))) w := by simp [execOp, ho, Instr.makeFunc]
  have lf : (f.map a.eval).toList = f.toList.map a.eval := by simp
  have lc : (c.map a.eval).toList = c.toList.map a.eval := by simp
  rw [← lf] at rf
  rw [← lc] at rc
  split at h
  · rename_i a' b' e1 e2
    rw [allT_some e1] at rf
    rw [allT_some e2] at rc
    have rf := rf.toT; have rc := rc.toT
    exact ⟨_, _, h, hrun, .t _ _ (.fn g a' b' _ _ (by simpa using rf.1) (by simpa using rc.1) (fun i x v hx hv => rf.2 i x v hx (by simpa using hv)) (fun i x v hx hv => rc.2 i x v hx (by simpa using hv)))⟩
  · exact ⟨_, _, h, hrun, .fn g _ _ _ _ (by simpa using rf.1) (by simpa using rc.1) (fun i x v hx hv => rf.2 i x v hx (by simpa using hv)) (fun i x v hx hv => rc.2 i x v hx (by simpa using hv))⟩

theorem do_fa {s : TypeId} {x : Operand} {x' : Opd} {f : Nat} {fs : Array Field} {fl : Field} {n : Nat} (ho : o.op = .fieldAddr s x f) (hu : P.underlying s = some (.struct fs)) (hfl : fs[f]? = some fl)
    (hn : tySize P fl.type = some (n + 1)) (hx : compOpd x = some x')
    (h : (match ev ts x' with | .href b i j => K (.href b i (j + fl.offset)) .none | .t (.ptr e j) => K (.t (.ptr e (j + fl.offset))) .none | _ => none) = some r) : Gives φ rd w I P o a K r := by
  have hr := ev_rep hs hx
  have hp : ∀ A : Addr, (fieldPlace A fl).run P w = .ok (A.add fl.offset) w := fun A => by
    simp [fieldPlace, run_sizeOf' hn]
  split at h
  · rename_i b i j e
    rw [e] at hr
    obtain ⟨A, hv, hA⟩ := hr.href_ptr
    refine ⟨_, _, h, ?_, hA fl.offset⟩
    simp [execOp, ho, hv, Instr.fieldAt, run_underlying' hu, hfl, Instr.sureAddr, hp]
  · rename_i e j q
    rw [q] at hr
    obtain ⟨b, o', val, hI, hf, hcell, hval, hv⟩ := hr.tree.ptr_inv
    · refine ⟨_, _, h, ?_, .t _ _ (.ptr e (j + fl.offset) b o' val hI hf hcell hval)⟩
      simp [execOp, ho, hv, Instr.fieldAt, run_underlying' hu, hfl, Instr.sureAddr, hp, Addr.add_none, Nat.add_assoc]
  · cases h

end

end Go.Proofs.Dw
end

/-
  THE ABSTRACT WALK, 7: more operations that leave the world alone: fields, elements, slices, lengths.
-/
section
namespace Go.Proofs.Dw

theorem objEls_some {o : HObj} {l : Els} (h : objEls o = some l) : o.alive = true ∧ l.toAV = o.els ∧ l.length = o.els.length := by
  cases o <;> simp_all [objEls, HObj.alive, HObj.els] <;> subst h <;> simp [Els.toAV, Els.length]

section
variable {φ : Phi} {rd : Rd} {w : World} {I : Fz}

theorem RepT.slc_inv {es : List Tree} {v : Value} (h : RepT w I (.slc es) v) : ∃ A c, v = .slice A es.length c ∧ es.length ≤ c ∧
    (es = [] ∨ ∃ (b o k : Nat) (val : Nat → Nat → Value), A = some ⟨b, o, none⟩ ∧ I b ∧ (∀ (i : Nat) x, es[i]? = some x → x.cells.length = k) ∧ (∀ x ∈ es, x.fl = true) ∧
      (∀ (i j : Nat) x y, es[i]? = some x → x.cells[j]? = some y → w.cell? ⟨b, o + i * k + j, none⟩ = some (val i j)) ∧
      (∀ (i j : Nat) x y, es[i]? = some x → x.cells[j]? = some y → RepT w I y (val i j))) := by
  cases h with
  | slc0 a c => exact ⟨a, c, rfl, by simp, .inl rfl⟩
  | slc _ b o c k val hI hc hk hf hcell h => exact ⟨_, c, rfl, hc, .inr ⟨b, o, k, val, rfl, hI, hk, hf, hcell, h⟩⟩

theorem partBy_run {α : Type} {P : Program} {t : TypeId} {s : Sh} (hs : shOf P t = some s) {off : Nat} {cs : List AV} {vs : Array Value} (hc : RepL φ rd w I cs vs.toList) (hf : ∀ x ∈ cs, x.isSc = true) {K : AV → Option α} {r : α}
    (h : loadBy s off cs K = some r) : ∃ x v, K x = some r ∧ (part t vs off).run P w = .ok v w ∧ RepA φ rd w I x v := by
  obtain ⟨h1, h2⟩ := shOf_spec hs
  rcases h2 with ⟨l, rfl, h2⟩ | ⟨h2, h3, h4⟩
  · simp only [loadBy] at h
    obtain ⟨hb, h⟩ := bif_some h
    have hle := Nat.le_of_ble_eq_true hb
    refine ⟨_, .agg (vs.extract off (off + l.length)), h, by simp [part, run_isAgg' h2, run_sizeOf' h1, Sh.width], mkAgg_rep ?_ (sc_take_drop hf _ _)⟩
    have hvl : vs.size = cs.length := by simpa using hc.1
    refine ⟨by simp; omega, fun i x v hx hv => ?_⟩
    have hi : i < l.length := by
      rw [List.getElem?_take] at hx
      split at hx
      · assumption
      · cases hx
    rw [List.getElem?_take, if_pos hi, List.getElem?_drop] at hx
    refine hc.2 (off + i) x v hx ?_
    rw [Array.getElem?_toList] at hv ⊢
    rw [Array.getElem?_extract] at hv
    rwa [if_pos (by omega)] at hv
  · have key : (match nth cs off with
      | some (.t x) => bif s.ok x then K (.t (s.open x)) else none
      | some v => bif v.isSc then K v else none
      | none => none) = some r := by
      cases s <;> first | exact absurd rfl (h4 _) | exact h
    have hsc : ∀ {x : AV}, nth cs off = some x → ∃ v, vs[off]? = some v ∧ RepA φ rd w I x v := fun {x} hx => by
      rw [nth_eq] at hx
      have hlt : off < cs.length := (List.getElem?_eq_some_iff.1 hx).1
      have hv : vs[off]? = some (vs[off]'(by have := hc.1; simp at this; omega)) := by simp [Array.getElem?_eq_getElem, (by have := hc.1; simp at this; omega : off < vs.size)]
      exact ⟨_, hv, hc.2 off x _ hx (by simp)⟩
    split at key
    · rename_i x hx
      obtain ⟨hok, key⟩ := bif_some key
      rw [Sh.open_eq s x hok] at key
      obtain ⟨v, hv, hr⟩ := hsc hx
      exact ⟨_, v, key, by simp [part, run_isAgg' h2, hv], hr⟩
    · rename_i x _ hx
      obtain ⟨hok, key⟩ := bif_some key
      obtain ⟨v, hv, hr⟩ := hsc hx
      exact ⟨_, v, key, by simp [part, run_isAgg' h2, hv], hr⟩
    · cases key

/-- A length as it stands in the value. -/
theorem lenOf_some {α : Type} {v : AV} {val : Value} (hr : RepA φ rd w I v val) {K : Nat → Option α} {r : α} (h : lenOf rd v K = some r) :
    ∃ n A c, K n = some r ∧ val = .slice A n c ∧ n ≤ c ∧ (∀ b k, v = .hsl b k → (rd b).alive = true ∧ n = (rd b).els.length) ∧ (∀ b off len, v = .hsub b off len → (rd b).alive = true ∧ n = len) := by
  unfold lenOf at h
  split at h
  · obtain ⟨A, c, h1, h2, _⟩ := hr.tree.slc_inv
    exact ⟨_, A, c, h, h1, h2, by simp, by simp⟩
  · cases hr; exact ⟨_, _, _, h, rfl, Nat.le_refl _, by simp, by simp⟩
  · cases hr; exact ⟨_, _, _, h, rfl, Nat.le_refl _, by simp, by simp⟩
  · split at h
    · rename_i l hl
      obtain ⟨ha, _, hlen⟩ := objEls_some hl
      rw [hlen] at h
      rcases hr.hsl_inv ha with ⟨g, C, c, _, hv, h1, _⟩ | ⟨A, hv, h0, _⟩
      · exact ⟨_, _, c, h, hv, h1, by intro b k hb; cases hb; exact ⟨ha, rfl⟩, by simp⟩
      · refine ⟨_, A, 0, h, ?_, by omega, by intro b k hb; cases hb; exact ⟨ha, rfl⟩, by simp⟩
        rw [h0]; exact hv
    · cases h
  · split at h
    · rename_i l hl
      obtain ⟨ha, _, hlen⟩ := objEls_some hl
      rcases hr.hsub_inv ha with ⟨g, C, c, _, hv, h1, _⟩ | ⟨A, hv, h0⟩
      · exact ⟨_, _, c, h, hv, h1, by simp, by intro b off len hb; cases hb; exact ⟨ha, rfl⟩⟩
      · subst h0; exact ⟨_, A, 0, h, hv, Nat.le_refl _, by simp, by intro b off len hb; cases hb; exact ⟨ha, rfl⟩⟩
    · cases h
  · cases h

variable {P : Program} {o : Oper} {ts : List AV} {a : Act} (hs : RepS φ rd w I ts a.tmps) {α : Type} {K : AV → Delta → Option α} {r : α}
include hs

theorem do_fld {s : TypeId} {x : Operand} {x' : Opd} {f : Nat} {fs : Array Field} {fl : Field} {sh : Sh} (ho : o.op = .field s x f) (hu : P.underlying s = some (.struct fs)) (hf : fs[f]? = some fl)
    (hn : shOf P fl.type = some sh) (hx : compOpd x = some x')
    (h : (match ev ts x' with
      | .t (.agg cs) => loadBy sh fl.offset (cs.map .t) fun v => K v .none
      | .agg cs => loadBy sh fl.offset cs fun v => K v .none
      | _ => none) = some r) : Gives φ rd w I P o a K r := by
  have hr := ev_rep hs hx
  split at h
  · rename_i cs e
    rw [e] at hr
    obtain ⟨vs, hv, hl, hsc⟩ := hr.tagg_inv
    obtain ⟨y, v, k1, k2, k3⟩ := partBy_run hn hl hsc h
    exact ⟨y, v, k1, by simp [execOp, ho, hv, Instr.field, run_underlying' hu, hf, asAgg, k2], k3⟩
  · rename_i cs e
    rw [e] at hr
    obtain ⟨vs, hv, hl, hsc⟩ := hr.agg_inv
    obtain ⟨y, v, k1, k2, k3⟩ := partBy_run hn hl hsc h
    exact ⟨y, v, k1, by simp [execOp, ho, hv, Instr.field, run_underlying' hu, hf, asAgg, k2], k3⟩
  · cases h

theorem do_ixa {t e : TypeId} {n : Nat} {x i : Operand} {x' i' : Opd} {s : Sh} (ho : o.op = .index t x i) (hu : P.underlying t = some (.array n e)) (he : shOf P e = some s)
    (hx : compOpd x = some x') (hi : compOpd i = some i')
    (h : (asI (ev ts i') fun _ i => bif decide (0 ≤ i) && decide (i < n) then
      (match ev ts x' with
       | .t (.agg cs) => loadBy s (i.toNat * s.width) (cs.map .t) fun v => K v .none
       | .agg cs => loadBy s (i.toNat * s.width) cs fun v => K v .none
       | _ => none) else none) = some r) : Gives φ rd w I P o a K r := by
  have hr := ev_rep hs hx
  have hri := ev_rep hs hi
  obtain ⟨k, j, e1, h⟩ := asI_some h
  rw [e1] at hri
  have hri := hri.int_inv
  obtain ⟨hb, h⟩ := bif_some h
  have hb : 0 ≤ j ∧ j < n := by simpa using hb
  have hz := (shOf_spec he).1
  split at h
  · rename_i cs e
    rw [e] at hr
    obtain ⟨vs, hv, hl, hsc⟩ := hr.tagg_inv
    obtain ⟨y, v, k1, k2, k3⟩ := partBy_run he hl hsc h
    exact ⟨y, v, k1, by simp [execOp, ho, hv, hri, Instr.index, asIntOf, run_underlying' hu, run_sizeOf' hz, hb, k2], k3⟩
  · rename_i cs e
    rw [e] at hr
    obtain ⟨vs, hv, hl, hsc⟩ := hr.agg_inv
    obtain ⟨y, v, k1, k2, k3⟩ := partBy_run he hl hsc h
    exact ⟨y, v, k1, by simp [execOp, ho, hv, hri, Instr.index, asIntOf, run_underlying' hu, run_sizeOf' hz, hb, k2], k3⟩
  · cases h

theorem do_ixs {t : TypeId} {x i : Operand} {x' i' : Opd} (ho : o.op = .index t x i) (hu : P.underlying t = some .string)
    (hx : compOpd x = some x') (hi : compOpd i = some i')
    (h : (asI (ev ts i') fun _ i => match ev ts x' with
      | .t (.str s) => bif decide (0 ≤ i) then (nth s i.toNat).bind fun b => K (.t (.int .u8 b.toNat)) .none else none
      | _ => none) = some r) : Gives φ rd w I P o a K r := by
  have hr := ev_rep hs hx
  have hri := ev_rep hs hi
  obtain ⟨k, j, e1, h⟩ := asI_some h
  rw [e1] at hri
  have hri := hri.int_inv
  split at h
  · rename_i s e
    rw [e] at hr
    have hr := hr.str_inv
    obtain ⟨hb, h⟩ := bif_some h
    have hb : 0 ≤ j := by simpa using hb
    rw [nth_eq] at h
    cases hq : s[j.toNat]? with
    | none => simp [hq] at h
    | some b =>
      simp only [hq, Option.bind_some] at h
      have hlt : j.toNat < s.length := (List.getElem?_eq_some_iff.1 hq).1
      have hsz : (⟨s.toArray⟩ : ByteArray).size = s.length := by simp [ByteArray.size]
      have hg : (⟨s.toArray⟩ : ByteArray)[j.toNat]'(by rw [hsz]; exact hlt) = b := by
        have : s[j.toNat] = b := (List.getElem?_eq_some_iff.1 hq).2
        rw [← this]; rfl
      refine ⟨_, _, h, ?_, .int .u8 _⟩
      have := run_index_string (P := P) w t ⟨s.toArray⟩ k j hu
      rw [dif_pos ⟨hb, by rw [hsz]; omega⟩] at this
      simp only [execOp, ho, hr, hri]
      simp [this, hg]
  · cases h

theorem do_iaa {t e : TypeId} {n : Nat} {x i : Operand} {x' i' : Opd} {s : Sh} (ho : o.op = .indexAddr t x i) (hu : P.underlying t = some (.array n e)) (he : shOf P e = some s)
    (hx : compOpd x = some x') (hi : compOpd i = some i')
    (h : (asI (ev ts i') fun _ i => bif decide (0 ≤ i) && decide (i < n) then
      (match ev ts x' with
       | .href b k j => K (.href b k (j + i.toNat * s.width)) .none
       | .t (.ptr e j) => K (.t (.ptr e (j + i.toNat * s.width))) .none
       | _ => none) else none) = some r) : Gives φ rd w I P o a K r := by
  have hr := ev_rep hs hx
  have hri := ev_rep hs hi
  obtain ⟨k, j, e1, h⟩ := asI_some h
  rw [e1] at hri
  have hri := hri.int_inv
  obtain ⟨hb, h⟩ := bif_some h
  have hb : 0 ≤ j ∧ j < n := by simpa using hb
  have hz := (shOf_spec he).1
  split at h
  · rename_i b q p e
    rw [e] at hr
    obtain ⟨A, hv, hA⟩ := hr.href_ptr
    exact ⟨_, _, h, by simp [execOp, ho, hv, hri, Instr.indexAt, Instr.sureAddr, asIntOf, run_underlying' hu, run_sizeOf' hz, hb], hA _⟩
  · rename_i e q p
    rw [p] at hr
    obtain ⟨b, o', val, hI, hf, hcell, hval, hv⟩ := hr.tree.ptr_inv
    refine ⟨_, _, h, ?_, .t _ _ (.ptr e (q + j.toNat * s.width) b o' val hI hf hcell hval)⟩
    simp [execOp, ho, hv, hri, Instr.indexAt, Instr.sureAddr, asIntOf, run_underlying' hu, run_sizeOf' hz, hb, Addr.add_none, Nat.add_assoc]
  · cases h

omit hs in
/-- The address of an element of a slice of trees. -/
theorem RepT.elemPtr {es : List Tree} {A : Option Addr} {n c : Nat} (h : RepT w I (.slc es) (.slice A n c)) {i : Nat} {e : Tree} (he : es[i]? = some e) {s : Sh} (hok : s.ok e = true) :
    ∃ p : Addr, A = some p ∧ i < n ∧ RepT w I (.ptr e 0) (.pointer (some (p.add (i * s.width)))) := by
  obtain ⟨A', c', hv, _, hcase⟩ := h.slc_inv
  cases hv
  have hlt : i < es.length := (List.getElem?_eq_some_iff.1 he).1
  rcases hcase with h0 | ⟨b, o, k, val, rfl, hI, hk, hf, hcell, hval⟩
  · subst h0; simp at hlt
  · have hw : s.width = k := (Sh.ok_width hok).symm.trans (hk i e he)
    refine ⟨_, rfl, hlt, ?_⟩
    rw [Addr.add_none, hw]
    exact .ptr e 0 b (o + i * k) (val i) hI (hf e (List.mem_of_getElem? he)) (fun j y hy => hcell i j e y he hy) (fun j y hy => hval i j e y he hy)

theorem do_ia {t e : TypeId} {x i : Operand} {x' i' : Opd} {s : Sh} (ho : o.op = .indexAddr t x i) (hu : P.underlying t = some (.slice e)) (he : shOf P e = some s)
    (hx : compOpd x = some x') (hi : compOpd i = some i')
    (h : (asI (ev ts i') fun _ i => match ev ts x' with
    | .t (.slc es) => bif decide (0 ≤ i) then (nth es i.toNat).bind fun e => bif s.ok e then K (.t (.ptr (s.open e) 0)) .none else none else none
    | .clip es => bif decide (0 ≤ i) then (nth es i.toNat).bind fun e => bif s.ok e then K (.t (.ptr (s.open e) 0)) .none else none else none
    | .hsl b _ => match objEls (rd b) with
      | some l => bif decide (0 ≤ i) && (decide (i < l.length) && Nat.beq (rd b).sh.width s.width) then K (.href b i.toNat 0) .none else none
      | none => none
    | .hsub b off len => match objEls (rd b) with
      | some _ => bif decide (0 ≤ i) && (decide (i < len) && Nat.beq (rd b).sh.width s.width) then K (.href b (off + i.toNat) 0) .none else none
      | none => none
    | _ => none) = some r) : Gives φ rd w I P o a K r := by
  have hr := ev_rep hs hx
  have hri := ev_rep hs hi
  obtain ⟨k, j, e1, h⟩ := asI_some h
  rw [e1] at hri
  have hri := hri.int_inv
  have hz := (shOf_spec he).1
  have tree : ∀ (es : List Tree) (A : Option Addr) (n c : Nat), a.eval x = .slice A n c → RepT w I (.slc es) (.slice A n c) →
      (bif decide (0 ≤ j) then (nth es j.toNat).bind fun e => bif s.ok e then K (.t (.ptr (s.open e) 0)) .none else none else none) = some r → Gives φ rd w I P o a K r := by
    intro es A n c hv hT h
    obtain ⟨hb, h⟩ := bif_some h
    have hb : 0 ≤ j := by simpa using hb
    rw [nth_eq] at h
    cases hq : es[j.toNat]? with
    | none => simp [hq] at h
    | some el =>
      simp only [hq, Option.bind_some] at h
      obtain ⟨hok, h⟩ := bif_some h
      rw [Sh.open_eq s el hok] at h
      obtain ⟨p, rfl, hlt, hp⟩ := hT.elemPtr hq hok
      refine ⟨_, _, h, ?_, .t _ _ hp⟩
      have : 0 ≤ j ∧ j < n := ⟨hb, by omega⟩
      simp [execOp, ho, hv, hri, Instr.indexAt, asIntOf, run_underlying' hu, run_sizeOf' hz, this]
  split at h
  · rename_i es q
    rw [q] at hr
    obtain ⟨A, c, hv, _⟩ := hr.tree.slc_inv
    exact tree es A _ c hv (hv ▸ hr.tree) h
  · rename_i es q
    rw [q] at hr
    generalize hval : a.eval x = val at hr
    cases hr with
    | clip _ A hT => exact tree es A _ _ hval hT h
  · rename_i b q hq
    rw [hq] at hr
    split at h
    · rename_i l hl
      obtain ⟨ha, _, hlen⟩ := objEls_some hl
      obtain ⟨hb, h⟩ := bif_some h
      simp only [Bool.and_eq_true, decide_eq_true_eq] at hb
      obtain ⟨hb0, hb1, hb2⟩ := hb
      have hw : (rd b).width = s.width := Nat.eq_of_beq_eq_true hb2
      rcases hr.hsl_inv ha with ⟨g, C, c, hφ, hv, h1, _⟩ | ⟨A, hv, h0, _⟩
      · refine ⟨_, _, h, ?_, .href b j.toNat 0 g C ha hφ⟩
        have : 0 ≤ j ∧ j < ((rd b).els.length : Int) := ⟨hb0, by omega⟩
        simp [execOp, ho, hv, hri, Instr.indexAt, asIntOf, run_underlying' hu, run_sizeOf' hz, this, hw, Addr.add_none]
      · omega
    · cases h
  · rename_i b off len hq
    rw [hq] at hr
    split at h
    · rename_i l hl
      obtain ⟨ha, _, hlen⟩ := objEls_some hl
      obtain ⟨hb, h⟩ := bif_some h
      simp only [Bool.and_eq_true, decide_eq_true_eq] at hb
      obtain ⟨hb0, hb1, hb2⟩ := hb
      have hw : (rd b).width = s.width := Nat.eq_of_beq_eq_true hb2
      rcases hr.hsub_inv ha with ⟨g, C, c, hφ, hv, h1, _⟩ | ⟨A, hv, h0⟩
      · refine ⟨_, _, h, ?_, .href b (off + j.toNat) 0 g C ha hφ⟩
        have : 0 ≤ j ∧ j < (len : Int) := ⟨hb0, hb1⟩
        simp [execOp, ho, hv, hri, Instr.indexAt, asIntOf, run_underlying' hu, run_sizeOf' hz, this, hw, Addr.add_none, Nat.add_mul]
      · omega
    · cases h
  · cases h

theorem do_ext {x : Operand} {x' : Opd} {n : Nat} (ho : o.op = .extract x n) (hx : compOpd x = some x')
    (h : (match ev ts x' with
      | .t (.tup l) => (nth l n).bind fun y => K (.t y) .none
      | .tup l => (nth l n).bind fun y => K y .none
      | _ => none) = some r) : Gives φ rd w I P o a K r := by
  have hr := ev_rep hs hx
  split at h
  · rename_i l q
    rw [q] at hr
    have hr := hr.tree
    generalize hval : a.eval x = val at hr
    cases hr with
    | tup _ vs hl hv =>
      rw [nth_eq] at h
      cases hq : l[n]? with
      | none => simp [hq] at h
      | some y =>
        simp only [hq, Option.bind_some] at h
        have hlt : n < vs.size := by have := (List.getElem?_eq_some_iff.1 hq).1; omega
        refine ⟨_, vs[n], h, ?_, .t _ _ (hv n y _ hq (by simp [hlt]))⟩
        simp [execOp, ho, hval, Instr.extract, hlt]
  · rename_i l q
    rw [q] at hr
    generalize hval : a.eval x = val at hr
    cases hr with
    | tup _ vs hl hv =>
      rw [nth_eq] at h
      cases hq : l[n]? with
      | none => simp [hq] at h
      | some y =>
        simp only [hq, Option.bind_some] at h
        have hlt : n < vs.size := by have := (List.getElem?_eq_some_iff.1 hq).1; omega
        refine ⟨_, vs[n], h, ?_, hv n y _ hq (by simp [hlt])⟩
        simp [execOp, ho, hval, Instr.extract, hlt]
  · cases h

theorem do_len {t e : TypeId} {x : Operand} {x' : Opd} {cl : Call} (ho : o.op = .call cl) (hc : cl.callee = .builtin .len) (ha : cl.args.toList = [x]) (ht : cl.argTypes[0]? = some t)
    (hu : P.underlying t = some (.slice e)) (hx : compOpd x = some x')
    (h : lenOf rd (ev ts x') (fun n => K (.t (.int .i64 n)) .none) = some r) : Gives φ rd w I P o a K r := by
  have ha : cl.args = #[x] := by cases hq : cl.args; simp [hq] at ha; simp [ha]
  have hr := ev_rep hs hx
  obtain ⟨n, A, c, h, hv, _, _⟩ := lenOf_some hr h
  refine ⟨_, _, h, ?_, .int .i64 _⟩
  simp [execOp, ho, resolve, hc, ha, invoke, builtin, Builtin.len_, ht, hv, run_underlying' hu, goInt]

theorem do_lens {t : TypeId} {x : Operand} {x' : Opd} {cl : Call} (ho : o.op = .call cl) (hc : cl.callee = .builtin .len) (ha : cl.args.toList = [x]) (ht : cl.argTypes[0]? = some t)
    (hu : P.underlying t = some .string) (hx : compOpd x = some x')
    (h : (match ev ts x' with | .t (.str s) => K (.t (.int .i64 s.length)) .none | _ => none) = some r) : Gives φ rd w I P o a K r := by
  have ha : cl.args = #[x] := by cases hq : cl.args; simp [hq] at ha; simp [ha]
  have hr := ev_rep hs hx
  split at h
  · rename_i s e
    rw [e] at hr
    have hv := hr.str_inv
    have hsz : (⟨s.toArray⟩ : ByteArray).size = s.length := by simp [ByteArray.size]
    refine ⟨_, _, h, ?_, .int .i64 _⟩
    rw [← hsz]
    simp [execOp, ho, resolve, hc, ha, invoke, builtin, Builtin.len_, ht, hv, run_underlying' hu, goInt]
  · cases h

theorem do_cap {t e : TypeId} {x : Operand} {x' : Opd} {cl : Call} (ho : o.op = .call cl) (hc : cl.callee = .builtin .cap) (ha : cl.args.toList = [x]) (ht : cl.argTypes[0]? = some t)
    (hu : P.underlying t = some (.slice e)) (hx : compOpd x = some x')
    (h : (match ev ts x' with
      | .nilS => K (.t (.int .i64 0)) .none
      | .clip es => K (.t (.int .i64 es.length)) .none
      | .hsl b (some n) => match objEls (rd b) with
        | some _ => K (.t (.int .i64 n)) .none
        | none => none
      | _ => none) = some r) : Gives φ rd w I P o a K r := by
  have ha : cl.args = #[x] := by cases hq : cl.args; simp [hq] at ha; simp [ha]
  have hr := ev_rep hs hx
  have key : ∀ A n c, a.eval x = .slice A n c → K (.t (.int .i64 c)) .none = some r → Gives φ rd w I P o a K r := by
    intro A n c hv h
    refine ⟨_, _, h, ?_, .int .i64 _⟩
    simp [execOp, ho, resolve, hc, ha, invoke, builtin, Builtin.cap_, ht, hv, run_underlying' hu, goInt]
  split at h
  · rename_i e; rw [e] at hr; generalize hval : a.eval x = val at hr; cases hr; exact key _ _ _ hval h
  · rename_i e; rw [e] at hr; generalize hval : a.eval x = val at hr; cases hr; exact key _ _ _ hval h
  · rename_i b n e
    rw [e] at hr
    split at h
    · rename_i l hl
      obtain ⟨ha, _⟩ := objEls_some hl
      rcases hr.hsl_inv ha with ⟨g, C, c, _, hv, _, _, hk⟩ | ⟨A, hv, _, hk⟩
      · rw [hk n rfl] at h; exact key _ _ _ hv h
      · rw [hk n rfl] at h; exact key _ _ _ hv h
    · cases h
  · cases h

theorem do_mm {b : Builtin} {x y : Operand} {x' y' : Opd} {cl : Call} (ho : o.op = .call cl) (hc : cl.callee = .builtin b) (hb : b = .min ∨ b = .max) (ha : cl.args.toList = [x, y])
    (hx : compOpd x = some x') (hy : compOpd y = some y')
    (h : (asI (ev ts x') fun k m => asI (ev ts y') fun _ n => K (.t (.int k (if b = .min then imin m n else imax m n))) .none) = some r) : Gives φ rd w I P o a K r := by
  have ha : cl.args = #[x, y] := by cases hq : cl.args; simp [hq] at ha; simp [ha]
  have hrx := ev_rep hs hx
  have hry := ev_rep hs hy
  obtain ⟨k, m, e1, h⟩ := asI_some h
  obtain ⟨k', n, e2, h⟩ := asI_some h
  rw [e1] at hrx; rw [e2] at hry
  have hrx := hrx.int_inv; have hry := hry.int_inv
  refine ⟨_, _, h, ?_, .int k _⟩
  rcases hb with rfl | rfl
  · simp [execOp, ho, resolve, hc, ha, invoke, builtin, Builtin.min_, hrx, hry, Builtin.min2, imin]
  · simp [execOp, ho, resolve, hc, ha, invoke, builtin, Builtin.max_, hrx, hry, Builtin.max2, imax]

end

end Go.Proofs.Dw
end
