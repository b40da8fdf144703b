/- SIMPLE: what the functions that the law reaches come to, and why. -/
import Derived.Test.YtominoddfkpflaaDoorPart4
import Derived.Test.YtominoddfkpflaaDoorPart3
import Derived.Test.YtominoddfkpflaaDoorPart1
import Derived.Test.YtominoddfkpflaaDoorCw4
import Derived.Test.YtominoddfkpflaaDoorPart2
import Derived.Test.YtominoddfkpflaaDoorRows
import Derived.KernelRfl
import Derived.Test.YtominoddfkpflaaDoorCards
import Derived.Test.YtominoddfkpflaaDoorTie
import Derived.JoinedCond
import Derived.Deep.CondSized
import Derived.Deep.DeepHandedRow
import Derived.Lib.LaidTab
import Derived.WalkKit
import Derived.ProofKit
import Derived.OpenShut
import Derived.ChangeOld
import Derived.Below
import Derived.SizedLaws
import Derived.SevenTiedAt
set_option linter.unusedSimpArgs false
set_option linter.unusedVariables false

/-
  THE GRAPH 10: behind term's loop: printed by program (genrest.py).
-/
section
namespace Go.Proofs.Cw.Si
open Go.Proofs
abbrev A52 (k : GK) : List AV := [.href 0 0 0, .t (.str k.name), .t (.slc k.kids)]
abbrev A53 (a b : Nat) : List AV := [.href 0 0 0, .t (I (a : Nat)), .t (I (b : Nat))]
theorem formN {H' : Heap} {u : Int} (f : gForm (Sh.agg [Sh.slc]) shN H' = true) : (true && (isT (Sh.int .i64) (AV.t (I u)) && gForm (Sh.agg [Sh.slc]) shN H')) = true := by
 rw [f]; rfl
theorem formB {H' : Heap} {v : Bool} (f : gForm (Sh.agg [Sh.slc]) shN H' = true) : (true && (isT Sh.bool (AV.t (.bool v)) && gForm (Sh.agg [Sh.slc]) shN H')) = true := by
 rw [f]; rfl
section
variable {c : Nat} {s1 ctx : List Tree} {l : List Lam} {i : Int} {gr gr' : List GN} {H1 H2 H3 H4 H5 : Heap} {k : Int} {tn : List UInt8} {tl : List Tree} {v : Bool}
theorem grest_num {r : Nat} (h1 : EvH E c 52 (A52 .nat) (gHeap (rowsG gr)) (.t (I (r : Nat)), H1)) (ol : GOut H1 gr') :
  ∃ H9, (∀ n, c ≤ n → evZH (Tab.env tab) 2 n 25 5 (S25s false false s1 ctx i gr 4 k tn tl l []) = some (.t (.tup [I (r : Nat), .bool true]), H9)) ∧ GOut H9 gr' := by
 apply Exists.intro
 apply And.intro
 ·intro n hn
  show evZH (Tab.env tab) 2 n 25 5 (S25 s1 ctx i i (encLs l) ((encLs l).length : Nat) false (rowsG gr) 4 k tn tl (encLs l)) = _
  rw [z25]
  exact step_f rfl (step_f rfl (step_f rfl (step_t rfl (step_b (h1 n hn) (step_t (formN ol.form) rfl)))))
 ·exact ⟨rfl, ol.row⟩
theorem grest_numz {r : Nat} (h1 : EvH E c 52 (A52 .nat) zHeap (.t (I (r : Nat)), H1)) (ol : GOut H1 gr') :
  ∃ H9, (∀ n, c ≤ n → evZH (Tab.env tab) 1 n 25 5 (S25s true false s1 ctx i gr 4 k tn tl l []) = some (.t (.tup [I (r : Nat), .bool true]), H9)) ∧ GOut H9 gr' := by
 apply Exists.intro
 apply And.intro
 ·intro n hn
  show evZH (Tab.env tab) 1 n 25 5 (S25z s1 ctx i i (encLs l) ((encLs l).length : Nat) false 4 k tn tl (encLs l)) = _
  rw [z25z]
  exact step_f rfl (step_f rfl (step_f rfl (step_t rfl (step_b (h1 n hn) (step_t (formN ol.form) rfl)))))
 ·exact ⟨rfl, ol.row⟩
theorem grest_suc {r a : Nat} (h1 : EvH E c 52 (A52 .nat) (gHeap (rowsG gr)) (.t (I (r : Nat)), H1)) (f1 : gForm (Sh.agg [Sh.slc]) shN H1 = true) (h2 : EvH E c 53 (A53 a r) (gHeap (gRow H1)) (.t (.bool v), H2)) (ol : GOut H2 gr') :
  ∃ H9, (∀ n, c ≤ n → evZH (Tab.env tab) 2 n 25 5 (S25s false false s1 ctx i gr 5 k tn tl l [I (a : Nat)]) = some (.t (.tup [I (a : Nat), .bool v]), H9)) ∧ GOut H9 gr' := by
 apply Exists.intro
 apply And.intro
 ·intro n hn
  show evZH (Tab.env tab) 2 n 25 5 (S25x1 s1 ctx i i (encLs l) ((encLs l).length : Nat) false (rowsG gr) 5 k tn tl (encLs l) [I (a : Nat)]) = _
  rw [z25x1]
  exact step_f rfl (step_f rfl (step_f rfl (step_f rfl (step_t rfl (step_t rfl (step_b (y := I (a : Nat)) rfl (step_t rfl (step_t rfl (step_b (y := I (a : Nat)) rfl (step_t rfl (step_b (h1 n hn) (step_t (formN f1) (step_b (h2 n hn) (step_t (formB ol.form) rfl))))))))))))))
 ·exact ⟨rfl, ol.row⟩
theorem grest_sucz {r a : Nat} (h1 : EvH E c 52 (A52 .nat) (gHeap (rowsG gr)) (.t (I (r : Nat)), H1)) (f1 : gForm (Sh.agg [Sh.slc]) shN H1 = true) (h2 : EvH E c 53 (A53 a r) (gHeap (gRow H1)) (.t (.bool v), H2)) (ol : GOut H2 gr') :
  ∃ H9, (∀ n, c ≤ n → evZH (Tab.env tab) 1 n 25 5 (S25s true false s1 ctx i gr 5 k tn tl l [I (a : Nat)]) = some (.t (.tup [I (a : Nat), .bool v]), H9)) ∧ GOut H9 gr' := by
 apply Exists.intro
 apply And.intro
 ·intro n hn
  show evZH (Tab.env tab) 1 n 25 5 (S25zx1 s1 ctx i i (encLs l) ((encLs l).length : Nat) false (rowsG gr) 5 k tn tl (encLs l) [I (a : Nat)]) = _
  rw [z25zx1]
  exact step_f rfl (step_f rfl (step_f rfl (step_f rfl (step_t rfl (step_t rfl (step_b (y := I (a : Nat)) rfl (step_t rfl (step_t rfl (step_b (y := I (a : Nat)) rfl (step_t rfl (step_b (h1 n hn) (step_t (formN f1) (step_b (h2 n hn) (step_t (formB ol.form) rfl))))))))))))))
 ·exact ⟨rfl, ol.row⟩
theorem grest_pair {r a b : Nat} (h1 : EvH E c 52 (A52 (.bin false a b)) (gHeap (rowsG gr)) (.t (I (r : Nat)), H1)) (ol : GOut H1 gr') :
  ∃ H9, (∀ n, c ≤ n → evZH (Tab.env tab) 2 n 25 5 (S25s false false s1 ctx i gr 7 k tn tl l [I (a : Nat), I (b : Nat)]) = some (.t (.tup [I (r : Nat), .bool true]), H9)) ∧ GOut H9 gr' := by
 apply Exists.intro
 apply And.intro
 ·intro n hn
  show evZH (Tab.env tab) 2 n 25 5 (S25x1 s1 ctx i i (encLs l) ((encLs l).length : Nat) false (rowsG gr) 7 k tn tl (encLs l) [I (a : Nat), I (b : Nat)]) = _
  rw [z25x1]
  exact step_f rfl (step_f rfl (step_f rfl (step_f rfl (step_f rfl (step_f rfl (step_t rfl (step_t rfl (step_b (y := I (a : Nat)) rfl (step_t rfl (step_t rfl (step_b (y := I (b : Nat)) rfl (step_t rfl (step_b (h1 n hn) (step_t (formN ol.form) rfl))))))))))))))
 ·exact ⟨rfl, ol.row⟩
theorem grest_pairz {r a b : Nat} (h1 : EvH E c 52 (A52 (.bin false a b)) (gHeap (rowsG gr)) (.t (I (r : Nat)), H1)) (ol : GOut H1 gr') :
  ∃ H9, (∀ n, c ≤ n → evZH (Tab.env tab) 1 n 25 5 (S25s true false s1 ctx i gr 7 k tn tl l [I (a : Nat), I (b : Nat)]) = some (.t (.tup [I (r : Nat), .bool true]), H9)) ∧ GOut H9 gr' := by
 apply Exists.intro
 apply And.intro
 ·intro n hn
  show evZH (Tab.env tab) 1 n 25 5 (S25zx1 s1 ctx i i (encLs l) ((encLs l).length : Nat) false (rowsG gr) 7 k tn tl (encLs l) [I (a : Nat), I (b : Nat)]) = _
  rw [z25zx1]
  exact step_f rfl (step_f rfl (step_f rfl (step_f rfl (step_f rfl (step_f rfl (step_t rfl (step_t rfl (step_b (y := I (a : Nat)) rfl (step_t rfl (step_t rfl (step_b (y := I (b : Nat)) rfl (step_t rfl (step_b (h1 n hn) (step_t (formN ol.form) rfl))))))))))))))
 ·exact ⟨rfl, ol.row⟩
theorem grest_app {r p a b : Nat} (h1 : EvH E c 52 (A52 .var) (gHeap (rowsG gr)) (.t (I (r : Nat)), H1)) (f1 : gForm (Sh.agg [Sh.slc]) shN H1 = true) (h2 : EvH E c 52 (A52 (.bin true b r)) (gHeap (gRow H1)) (.t (I (p : Nat)), H2)) (f2 : gForm (Sh.agg [Sh.slc]) shN H2 = true) (h3 : EvH E c 53 (A53 a p) (gHeap (gRow H2)) (.t (.bool v), H3)) (ol : GOut H3 gr') :
  ∃ H9, (∀ n, c ≤ n → evZH (Tab.env tab) 2 n 25 5 (S25s false false s1 ctx i gr 3 k tn tl l [I (a : Nat), I (b : Nat)]) = some (.t (.tup [I (r : Nat), .bool v]), H9)) ∧ GOut H9 gr' := by
 apply Exists.intro
 apply And.intro
 ·intro n hn
  show evZH (Tab.env tab) 2 n 25 5 (S25x1 s1 ctx i i (encLs l) ((encLs l).length : Nat) false (rowsG gr) 3 k tn tl (encLs l) [I (a : Nat), I (b : Nat)]) = _
  rw [z25x1]
  exact step_f rfl (step_f rfl (step_t rfl (step_b (h1 n hn) (step_t (formN f1) (step_t rfl (step_b (y := I (a : Nat)) rfl (step_t rfl (step_t rfl (step_b (y := I (b : Nat)) rfl (step_t rfl (step_b (h2 n hn) (step_t (formN f2) (step_b (h3 n hn) (step_t (formB ol.form) rfl))))))))))))))
 ·exact ⟨rfl, ol.row⟩
theorem grest_appz {r p a b : Nat} (h1 : EvH E c 52 (A52 .var) (gHeap (rowsG gr)) (.t (I (r : Nat)), H1)) (f1 : gForm (Sh.agg [Sh.slc]) shN H1 = true) (h2 : EvH E c 52 (A52 (.bin true b r)) (gHeap (gRow H1)) (.t (I (p : Nat)), H2)) (f2 : gForm (Sh.agg [Sh.slc]) shN H2 = true) (h3 : EvH E c 53 (A53 a p) (gHeap (gRow H2)) (.t (.bool v), H3)) (ol : GOut H3 gr') :
  ∃ H9, (∀ n, c ≤ n → evZH (Tab.env tab) 1 n 25 5 (S25s true false s1 ctx i gr 3 k tn tl l [I (a : Nat), I (b : Nat)]) = some (.t (.tup [I (r : Nat), .bool v]), H9)) ∧ GOut H9 gr' := by
 apply Exists.intro
 apply And.intro
 ·intro n hn
  show evZH (Tab.env tab) 1 n 25 5 (S25zx1 s1 ctx i i (encLs l) ((encLs l).length : Nat) false (rowsG gr) 3 k tn tl (encLs l) [I (a : Nat), I (b : Nat)]) = _
  rw [z25zx1]
  exact step_f rfl (step_f rfl (step_t rfl (step_b (h1 n hn) (step_t (formN f1) (step_t rfl (step_b (y := I (a : Nat)) rfl (step_t rfl (step_t rfl (step_b (y := I (b : Nat)) rfl (step_t rfl (step_b (h2 n hn) (step_t (formN f2) (step_b (h3 n hn) (step_t (formB ol.form) rfl))))))))))))))
 ·exact ⟨rfl, ol.row⟩
theorem grest_iterno {r a b d : Nat} (h1 : EvH E c 52 (A52 .nat) (gHeap (rowsG gr)) (.t (I (r : Nat)), H1)) (f1 : gForm (Sh.agg [Sh.slc]) shN H1 = true) (h2 : EvH E c 53 (A53 a r) (gHeap (gRow H1)) (.t (.bool false), H2)) (ol : GOut H2 gr') :
  ∃ H9, (∀ n, c ≤ n → evZH (Tab.env tab) 2 n 25 5 (S25s false false s1 ctx i gr 6 k tn tl l [I (a : Nat), I (b : Nat), I (d : Nat)]) = some (.t (.tup [I (d : Nat), .bool false]), H9)) ∧ GOut H9 gr' := by
 apply Exists.intro
 apply And.intro
 ·intro n hn
  show evZH (Tab.env tab) 2 n 25 5 (S25x1 s1 ctx i i (encLs l) ((encLs l).length : Nat) false (rowsG gr) 6 k tn tl (encLs l) [I (a : Nat), I (b : Nat), I (d : Nat)]) = _
  rw [z25x1]
  exact step_f rfl (step_f rfl (step_f rfl (step_f rfl (step_f rfl (step_t rfl (step_t rfl (step_b (y := I (a : Nat)) rfl (step_t rfl (step_b (h1 n hn) (step_t (formN f1) (step_b (h2 n hn) (step_t (formB ol.form) (step_t rfl (step_b (y := I (d : Nat)) rfl (step_t rfl (step_f rfl rfl))))))))))))))))
 ·exact ⟨rfl, ol.row⟩
theorem grest_iternoz {r a b d : Nat} (h1 : EvH E c 52 (A52 .nat) (gHeap (rowsG gr)) (.t (I (r : Nat)), H1)) (f1 : gForm (Sh.agg [Sh.slc]) shN H1 = true) (h2 : EvH E c 53 (A53 a r) (gHeap (gRow H1)) (.t (.bool false), H2)) (ol : GOut H2 gr') :
  ∃ H9, (∀ n, c ≤ n → evZH (Tab.env tab) 1 n 25 5 (S25s true false s1 ctx i gr 6 k tn tl l [I (a : Nat), I (b : Nat), I (d : Nat)]) = some (.t (.tup [I (d : Nat), .bool false]), H9)) ∧ GOut H9 gr' := by
 apply Exists.intro
 apply And.intro
 ·intro n hn
  show evZH (Tab.env tab) 1 n 25 5 (S25zx1 s1 ctx i i (encLs l) ((encLs l).length : Nat) false (rowsG gr) 6 k tn tl (encLs l) [I (a : Nat), I (b : Nat), I (d : Nat)]) = _
  rw [z25zx1]
  exact step_f rfl (step_f rfl (step_f rfl (step_f rfl (step_f rfl (step_t rfl (step_t rfl (step_b (y := I (a : Nat)) rfl (step_t rfl (step_b (h1 n hn) (step_t (formN f1) (step_b (h2 n hn) (step_t (formB ol.form) (step_t rfl (step_b (y := I (d : Nat)) rfl (step_t rfl (step_f rfl rfl))))))))))))))))
 ·exact ⟨rfl, ol.row⟩
theorem grest_iter {r p a b d : Nat} (h1 : EvH E c 52 (A52 .nat) (gHeap (rowsG gr)) (.t (I (r : Nat)), H1)) (f1 : gForm (Sh.agg [Sh.slc]) shN H1 = true) (h2 : EvH E c 53 (A53 a r) (gHeap (gRow H1)) (.t (.bool true), H2)) (f2 : gForm (Sh.agg [Sh.slc]) shN H2 = true) (h3 : EvH E c 52 (A52 (.bin true d d)) (gHeap (gRow H2)) (.t (I (p : Nat)), H3)) (f3 : gForm (Sh.agg [Sh.slc]) shN H3 = true) (h4 : EvH E c 53 (A53 b p) (gHeap (gRow H3)) (.t (.bool v), H4)) (ol : GOut H4 gr') :
  ∃ H9, (∀ n, c ≤ n → evZH (Tab.env tab) 2 n 25 5 (S25s false false s1 ctx i gr 6 k tn tl l [I (a : Nat), I (b : Nat), I (d : Nat)]) = some (.t (.tup [I (d : Nat), .bool v]), H9)) ∧ GOut H9 gr' := by
 apply Exists.intro
 apply And.intro
 ·intro n hn
  show evZH (Tab.env tab) 2 n 25 5 (S25x1 s1 ctx i i (encLs l) ((encLs l).length : Nat) false (rowsG gr) 6 k tn tl (encLs l) [I (a : Nat), I (b : Nat), I (d : Nat)]) = _
  rw [z25x1]
  exact step_f rfl (step_f rfl (step_f rfl (step_f rfl (step_f rfl (step_t rfl (step_t rfl (step_b (y := I (a : Nat)) rfl (step_t rfl (step_b (h1 n hn) (step_t (formN f1) (step_b (h2 n hn) (step_t (formB f2) (step_t rfl (step_b (y := I (d : Nat)) rfl (step_t rfl (step_t rfl (step_t rfl (step_b (y := I (b : Nat)) rfl (step_t rfl (step_t rfl (step_b (y := I (d : Nat)) rfl (step_t rfl (step_t rfl (step_b (y := I (d : Nat)) rfl (step_t rfl (step_b (h3 n hn) (step_t (formN f3) (step_b (h4 n hn) (step_t (formB ol.form) rfl)))))))))))))))))))))))))))))
 ·exact ⟨rfl, ol.row⟩
theorem grest_iterz {r p a b d : Nat} (h1 : EvH E c 52 (A52 .nat) (gHeap (rowsG gr)) (.t (I (r : Nat)), H1)) (f1 : gForm (Sh.agg [Sh.slc]) shN H1 = true) (h2 : EvH E c 53 (A53 a r) (gHeap (gRow H1)) (.t (.bool true), H2)) (f2 : gForm (Sh.agg [Sh.slc]) shN H2 = true) (h3 : EvH E c 52 (A52 (.bin true d d)) (gHeap (gRow H2)) (.t (I (p : Nat)), H3)) (f3 : gForm (Sh.agg [Sh.slc]) shN H3 = true) (h4 : EvH E c 53 (A53 b p) (gHeap (gRow H3)) (.t (.bool v), H4)) (ol : GOut H4 gr') :
  ∃ H9, (∀ n, c ≤ n → evZH (Tab.env tab) 1 n 25 5 (S25s true false s1 ctx i gr 6 k tn tl l [I (a : Nat), I (b : Nat), I (d : Nat)]) = some (.t (.tup [I (d : Nat), .bool v]), H9)) ∧ GOut H9 gr' := by
 apply Exists.intro
 apply And.intro
 ·intro n hn
  show evZH (Tab.env tab) 1 n 25 5 (S25zx1 s1 ctx i i (encLs l) ((encLs l).length : Nat) false (rowsG gr) 6 k tn tl (encLs l) [I (a : Nat), I (b : Nat), I (d : Nat)]) = _
  rw [z25zx1]
  exact step_f rfl (step_f rfl (step_f rfl (step_f rfl (step_f rfl (step_t rfl (step_t rfl (step_b (y := I (a : Nat)) rfl (step_t rfl (step_b (h1 n hn) (step_t (formN f1) (step_b (h2 n hn) (step_t (formB f2) (step_t rfl (step_b (y := I (d : Nat)) rfl (step_t rfl (step_t rfl (step_t rfl (step_b (y := I (b : Nat)) rfl (step_t rfl (step_t rfl (step_b (y := I (d : Nat)) rfl (step_t rfl (step_t rfl (step_b (y := I (d : Nat)) rfl (step_t rfl (step_b (h3 n hn) (step_t (formN f3) (step_b (h4 n hn) (step_t (formB ol.form) rfl)))))))))))))))))))))))))))))
 ·exact ⟨rfl, ol.row⟩
theorem grest_fst {r p w a : Nat} (h1 : EvH E c 52 (A52 .var) (gHeap (rowsG gr)) (.t (I (r : Nat)), H1)) (f1 : gForm (Sh.agg [Sh.slc]) shN H1 = true) (h2 : EvH E c 52 (A52 .var) (gHeap (gRow H1)) (.t (I (p : Nat)), H2)) (f2 : gForm (Sh.agg [Sh.slc]) shN H2 = true) (h3 : EvH E c 52 (A52 (.bin false r p)) (gHeap (gRow H2)) (.t (I (w : Nat)), H3)) (f3 : gForm (Sh.agg [Sh.slc]) shN H3 = true) (h4 : EvH E c 53 (A53 a w) (gHeap (gRow H3)) (.t (.bool v), H4)) (ol : GOut H4 gr') :
  ∃ H9, (∀ n, c ≤ n → evZH (Tab.env tab) 2 n 25 5 (S25s false false s1 ctx i gr 8 k tn tl l [I (a : Nat)]) = some (.t (.tup [I (r : Nat), .bool v]), H9)) ∧ GOut H9 gr' := by
 apply Exists.intro
 apply And.intro
 ·intro n hn
  show evZH (Tab.env tab) 2 n 25 5 (S25x1 s1 ctx i i (encLs l) ((encLs l).length : Nat) false (rowsG gr) 8 k tn tl (encLs l) [I (a : Nat)]) = _
  rw [z25x1]
  exact step_f rfl (step_f rfl (step_f rfl (step_f rfl (step_f rfl (step_f rfl (step_f rfl (step_b (h1 n hn) (step_t (formN f1) (step_b (h2 n hn) (step_t (formN f2) (step_t rfl (step_b (y := I (r : Nat)) rfl (step_t rfl (step_t rfl (step_b (y := I (a : Nat)) rfl (step_t rfl (step_b (h3 n hn) (step_t (formN f3) (step_b (h4 n hn) (step_t (formB ol.form) rfl))))))))))))))))))))
 ·exact ⟨rfl, ol.row⟩
theorem grest_fstz {r p w a : Nat} (h1 : EvH E c 52 (A52 .var) (gHeap (rowsG gr)) (.t (I (r : Nat)), H1)) (f1 : gForm (Sh.agg [Sh.slc]) shN H1 = true) (h2 : EvH E c 52 (A52 .var) (gHeap (gRow H1)) (.t (I (p : Nat)), H2)) (f2 : gForm (Sh.agg [Sh.slc]) shN H2 = true) (h3 : EvH E c 52 (A52 (.bin false r p)) (gHeap (gRow H2)) (.t (I (w : Nat)), H3)) (f3 : gForm (Sh.agg [Sh.slc]) shN H3 = true) (h4 : EvH E c 53 (A53 a w) (gHeap (gRow H3)) (.t (.bool v), H4)) (ol : GOut H4 gr') :
  ∃ H9, (∀ n, c ≤ n → evZH (Tab.env tab) 1 n 25 5 (S25s true false s1 ctx i gr 8 k tn tl l [I (a : Nat)]) = some (.t (.tup [I (r : Nat), .bool v]), H9)) ∧ GOut H9 gr' := by
 apply Exists.intro
 apply And.intro
 ·intro n hn
  show evZH (Tab.env tab) 1 n 25 5 (S25zx1 s1 ctx i i (encLs l) ((encLs l).length : Nat) false (rowsG gr) 8 k tn tl (encLs l) [I (a : Nat)]) = _
  rw [z25zx1]
  exact step_f rfl (step_f rfl (step_f rfl (step_f rfl (step_f rfl (step_f rfl (step_f rfl (step_b (h1 n hn) (step_t (formN f1) (step_b (h2 n hn) (step_t (formN f2) (step_t rfl (step_b (y := I (r : Nat)) rfl (step_t rfl (step_t rfl (step_b (y := I (a : Nat)) rfl (step_t rfl (step_b (h3 n hn) (step_t (formN f3) (step_b (h4 n hn) (step_t (formB ol.form) rfl))))))))))))))))))))
 ·exact ⟨rfl, ol.row⟩
theorem grest_snd {r p w a : Nat} (h1 : EvH E c 52 (A52 .var) (gHeap (rowsG gr)) (.t (I (r : Nat)), H1)) (f1 : gForm (Sh.agg [Sh.slc]) shN H1 = true) (h2 : EvH E c 52 (A52 .var) (gHeap (gRow H1)) (.t (I (p : Nat)), H2)) (f2 : gForm (Sh.agg [Sh.slc]) shN H2 = true) (h3 : EvH E c 52 (A52 (.bin false r p)) (gHeap (gRow H2)) (.t (I (w : Nat)), H3)) (f3 : gForm (Sh.agg [Sh.slc]) shN H3 = true) (h4 : EvH E c 53 (A53 a w) (gHeap (gRow H3)) (.t (.bool v), H4)) (ol : GOut H4 gr') :
  ∃ H9, (∀ n, c ≤ n → evZH (Tab.env tab) 2 n 25 5 (S25s false false s1 ctx i gr 9 k tn tl l [I (a : Nat)]) = some (.t (.tup [I (p : Nat), .bool v]), H9)) ∧ GOut H9 gr' := by
 apply Exists.intro
 apply And.intro
 ·intro n hn
  show evZH (Tab.env tab) 2 n 25 5 (S25x1 s1 ctx i i (encLs l) ((encLs l).length : Nat) false (rowsG gr) 9 k tn tl (encLs l) [I (a : Nat)]) = _
  rw [z25x1]
  exact step_f rfl (step_f rfl (step_f rfl (step_f rfl (step_f rfl (step_f rfl (step_f rfl (step_b (h1 n hn) (step_t (formN f1) (step_b (h2 n hn) (step_t (formN f2) (step_t rfl (step_b (y := I (p : Nat)) rfl (step_t rfl (step_t rfl (step_b (y := I (a : Nat)) rfl (step_t rfl (step_b (h3 n hn) (step_t (formN f3) (step_b (h4 n hn) (step_t (formB ol.form) rfl))))))))))))))))))))
 ·exact ⟨rfl, ol.row⟩
theorem grest_sndz {r p w a : Nat} (h1 : EvH E c 52 (A52 .var) (gHeap (rowsG gr)) (.t (I (r : Nat)), H1)) (f1 : gForm (Sh.agg [Sh.slc]) shN H1 = true) (h2 : EvH E c 52 (A52 .var) (gHeap (gRow H1)) (.t (I (p : Nat)), H2)) (f2 : gForm (Sh.agg [Sh.slc]) shN H2 = true) (h3 : EvH E c 52 (A52 (.bin false r p)) (gHeap (gRow H2)) (.t (I (w : Nat)), H3)) (f3 : gForm (Sh.agg [Sh.slc]) shN H3 = true) (h4 : EvH E c 53 (A53 a w) (gHeap (gRow H3)) (.t (.bool v), H4)) (ol : GOut H4 gr') :
  ∃ H9, (∀ n, c ≤ n → evZH (Tab.env tab) 1 n 25 5 (S25s true false s1 ctx i gr 9 k tn tl l [I (a : Nat)]) = some (.t (.tup [I (p : Nat), .bool v]), H9)) ∧ GOut H9 gr' := by
 apply Exists.intro
 apply And.intro
 ·intro n hn
  show evZH (Tab.env tab) 1 n 25 5 (S25zx1 s1 ctx i i (encLs l) ((encLs l).length : Nat) false (rowsG gr) 9 k tn tl (encLs l) [I (a : Nat)]) = _
  rw [z25zx1]
  exact step_f rfl (step_f rfl (step_f rfl (step_f rfl (step_f rfl (step_f rfl (step_f rfl (step_b (h1 n hn) (step_t (formN f1) (step_b (h2 n hn) (step_t (formN f2) (step_t rfl (step_b (y := I (p : Nat)) rfl (step_t rfl (step_t rfl (step_b (y := I (a : Nat)) rfl (step_t rfl (step_b (h3 n hn) (step_t (formN f3) (step_b (h4 n hn) (step_t (formB ol.form) rfl))))))))))))))))))))
 ·exact ⟨rfl, ol.row⟩
theorem grest_lam {r a b : Nat} (hx : nth ctx (Int.toNat (IntKind.wrap .i64 ((ctx.length : Int) - 1))) = some (I (a : Nat))) (hi : (decide (0 ≤ IntKind.wrap .i64 ((ctx.length : Int) - 1)) && (decide (IntKind.wrap .i64 ((ctx.length : Int) - 1) < (ctx.length : Int)) && true)) = true) (h1 : EvH E c 52 (A52 (.bin true a b)) (gHeap (rowsG gr)) (.t (I (r : Nat)), H1)) (ol : GOut H1 gr') :
  ∃ H9, (∀ n, c ≤ n → evZH (Tab.env tab) 2 n 25 5 (S25s false true s1 ctx i gr 2 k tn tl l [I (b : Nat)]) = some (.t (.tup [I (r : Nat), .bool true]), H9)) ∧ GOut H9 gr' := by
 apply Exists.intro
 apply And.intro
 ·intro n hn
  show evZH (Tab.env tab) 2 n 25 5 (S25x3 s1 i i (encLs l) ((encLs l).length : Nat) false (rowsG gr) 2 k tn tl (encLs l) ctx [I (b : Nat)]) = _
  rw [y25x3]
  exact step_t hi (step_b hx (step_t rfl (step_t rfl (step_b (y := I (b : Nat)) rfl (step_t rfl (step_b (h1 n hn) (step_t (formN ol.form) rfl)))))))
 ·exact ⟨rfl, ol.row⟩
theorem grest_lamz {r a b : Nat} (hx : nth ctx (Int.toNat (IntKind.wrap .i64 ((ctx.length : Int) - 1))) = some (I (a : Nat))) (hi : (decide (0 ≤ IntKind.wrap .i64 ((ctx.length : Int) - 1)) && (decide (IntKind.wrap .i64 ((ctx.length : Int) - 1) < (ctx.length : Int)) && true)) = true) (h1 : EvH E c 52 (A52 (.bin true a b)) (gHeap (rowsG gr)) (.t (I (r : Nat)), H1)) (ol : GOut H1 gr') :
  ∃ H9, (∀ n, c ≤ n → evZH (Tab.env tab) 1 n 25 5 (S25s true true s1 ctx i gr 2 k tn tl l [I (b : Nat)]) = some (.t (.tup [I (r : Nat), .bool true]), H9)) ∧ GOut H9 gr' := by
 apply Exists.intro
 apply And.intro
 ·intro n hn
  show evZH (Tab.env tab) 1 n 25 5 (S25zx3 s1 i i (encLs l) ((encLs l).length : Nat) false (rowsG gr) 2 k tn tl (encLs l) ctx [I (b : Nat)]) = _
  rw [y25zx3]
  exact step_t hi (step_b hx (step_t rfl (step_t rfl (step_b (y := I (b : Nat)) rfl (step_t rfl (step_b (h1 n hn) (step_t (formN ol.form) rfl)))))))
 ·exact ⟨rfl, ol.row⟩
theorem grest_var {j : Nat} (hi : decide (0 ≤ IntKind.wrap .i64 (IntKind.wrap .i64 ((s1.length : Int) - 1) - k)) = true) (hx : nth s1 (Int.toNat (IntKind.wrap .i64 (IntKind.wrap .i64 ((s1.length : Int) - 1) - k))) = some (I (j : Nat))) :
  ∃ H9, (∀ n, c ≤ n → evZH (Tab.env tab) 2 n 25 5 (S25s false false s1 ctx i gr 1 k tn tl l []) = some (.t (.tup [I (j : Nat), .bool true]), H9)) ∧ GOut H9 gr := by
 apply Exists.intro
 apply And.intro
 ·intro n hn
  show evZH (Tab.env tab) 2 n 25 5 (S25 s1 ctx i i (encLs l) ((encLs l).length : Nat) false (rowsG gr) 1 k tn tl (encLs l)) = _
  rw [z25]
  exact step_t rfl (step_t hi (step_b hx (step_t rfl rfl)))
 ·exact ⟨rfl, rfl⟩
end
end Go.Proofs.Cw.Si
end

/-
  THE GRAPH 11: term.
-/
section
namespace Go.Proofs.Cw.Si
open Go.Proofs
section
variable {gr gr1 : List GN} {n : Nat} {o k : Int} {ty : Ty} {l : List Lam}
theorem ghead {ctx : List Tree} (ho : o ≠ 2) : evR (Tab.env tab) n 25 [.href 0 0 0, .t (.slc ctx), .t (encL (.mk o k ty l))] (gHeap (rowsG gr)) =
  M25 false false n n (evZH (Tab.env tab) 2 n 25 5) ctx ctx ((0 : Nat) : Int) gr o k ty.name (encTs ty.parts) l [] := by
 cases ty with
 | mk s u =>
 rw [cast0]
 show _ = M25_0 n n (evZH (Tab.env tab) 2 n 25 5) ctx ctx 0 (rowsG gr) o k s (encTs u) (encLs l)
 unfold M25_0
 rw [encL, r25]
 refine step_f (by simpa using ho) ?_
 exact evLH_cut (j := 4) (p := [1, 0]) 5 (by decide)
theorem gheadz {ctx : List Tree} (ho : o ≠ 2) : evR (Tab.env tab) n 25 [.href 0 0 0, .t (.slc ctx), .t (encL (.mk o k ty l))] zHeap =
  M25 true false n n (evZH (Tab.env tab) 1 n 25 5) ctx ctx ((0 : Nat) : Int) gr o k ty.name (encTs ty.parts) l [] := by
 cases ty with
 | mk s u =>
 rw [cast0]
 show _ = M25_0z n n (evZH (Tab.env tab) 1 n 25 5) ctx ctx 0 o k s (encTs u) (encLs l)
 unfold M25_0z
 rw [encL, r25z]
 refine step_f (by simpa using ho) ?_
 exact evLH_cut (j := 4) (p := [1, 0]) 5 (by decide)
theorem firstM (l : List Nat) : firstOk (Sh.int IntKind.i64) (marksT l) = true := by cases l <;> rfl
theorem marksT_app (l : List Nat) (a : Nat) : marksT (l ++ [a]) = marksT l ++ [I (a : Nat)] := by simp [marksT]
theorem gheadr {ctx : List Nat} {a c : Nat} {H1 : Heap} (h : EvH E c 52 (A52 .var) (gHeap (rowsG gr)) (.t (I (a : Nat)), H1)) (o1 : GOut H1 gr1) (hn : c ≤ n) (hc : ctx.length ≤ 1000000) :
  evR (Tab.env tab) n 25 [.href 0 0 0, .t (.slc (marksT ctx)), .t (encL (.mk 2 k ty l))] (gHeap (rowsG gr)) =
  M25 false true n n (evZH (Tab.env tab) 2 n 25 5) (marksT ctx) (marksT (ctx ++ [a])) ((0 : Nat) : Int) gr1 2 k ty.name (encTs ty.parts) l [] := by
 cases ty with
 | mk s u =>
 rw [cast0]
 show _ = M25_0c n n (evZH (Tab.env tab) 2 n 25 5) (marksT ctx) 0 (rowsG gr1) 2 k s (encTs u) (encLs l) (marksT (ctx ++ [a]))
 unfold M25_0c
 rw [encL, r25, marksT_app, ← o1.row]
 refine step_t rfl (step_t (firstM ctx) (step_t ?_ (step_b (h n hn) (step_t (formN o1.form) (step_t ?_ ?_)))))
 ·rw [marksT_len]; simp; omega
 ·rw [marksT_len]; simp; omega
 ·exact evLH_cut (j := 4) (p := [1, 0]) 5 (by decide)
theorem gheadrz {ctx : List Nat} {a c : Nat} {H1 : Heap} (h : EvH E c 52 (A52 .var) zHeap (.t (I (a : Nat)), H1)) (o1 : GOut H1 gr1) (hn : c ≤ n) (hc : ctx.length ≤ 1000000) :
  evR (Tab.env tab) n 25 [.href 0 0 0, .t (.slc (marksT ctx)), .t (encL (.mk 2 k ty l))] zHeap =
  M25 true true n n (evZH (Tab.env tab) 1 n 25 5) (marksT ctx) (marksT (ctx ++ [a])) ((0 : Nat) : Int) gr1 2 k ty.name (encTs ty.parts) l [] := by
 cases ty with
 | mk s u =>
 rw [cast0]
 show _ = M25_0zc n n (evZH (Tab.env tab) 1 n 25 5) (marksT ctx) 0 (rowsG gr1) 2 k s (encTs u) (encLs l) (marksT (ctx ++ [a]))
 unfold M25_0zc
 rw [encL, r25z, marksT_app, ← o1.row]
 refine step_t rfl (step_t (firstM ctx) (step_t ?_ (step_b (h n hn) (step_t (formN o1.form) (step_t ?_ ?_)))))
 ·rw [marksT_len]; simp; omega
 ·rw [marksT_len]; simp; omega
 ·exact evLH_cut (j := 4) (p := [1, 0]) 5 (by decide)
end
def hG : List GN → Heap
 | [] => zHeap
 | g :: r => gHeap (rowsG (g :: r))
theorem hG_ne {gr : List GN} (h : gr ≠ []) : hG gr = gHeap (rowsG gr) := by
 cases gr with
 | nil => exact absurd rfl h
 | cons g r => rfl
def Spec25 (ctx : List Nat) (t : Lam) : Prop := ∀ (gr : List GN), Gok gr → (∀ i, i ∈ ctx → i < gr.length) → gr.length + 3 * sizeL t ≤ 50000 →
 ∃ c v u H' gr', EvH E c 25 [.href 0 0 0, .t (.slc (marksT ctx)), .t (encL t)] (hG gr) (.t (.tup [I u, .bool v]), H') ∧ GOut H' gr' ∧
  ((v = false ∧ GNon gr ctx [t]) ∨ (v = true ∧ ∃ j : Nat, u = (j : Nat) ∧ GInf gr ctx [t] gr' [j]))
def Fits (z row : Bool) (gr : List GN) (us : List Nat) : Prop := H25 z row gr (marksT us) = hG gr
theorem fits_ne {z row : Bool} {gr : List GN} {us : List Nat} (h : gr ≠ []) (hu : z = true → row = false → us ≠ []) : Fits z row gr us := by
 unfold Fits
 rw [hG_ne h]
 cases z with
 | false => rfl
 | true =>
  cases row with
  | true => rfl
  | false =>
   cases us with
   | nil => exact absurd rfl (hu rfl rfl)
   | cons a r => rfl
theorem l25 {z row : Bool} {ctx : List Nat} {s1 : List Tree} {o k : Int} {tn : List UInt8} {tl : List Tree} {l : List Lam} (hl : l.length ≤ 100000) : ∀ (r : List Lam) (i : Nat), (∀ t, t ∈ r → Spec25 ctx t) → l.drop i = r →
  ∀ (us0 : List Nat) (gr : List GN), us0.length ≤ i → i ≤ l.length → Gok gr → (∀ i, i ∈ ctx → i < gr.length) → gr.length + 3 * sizeLs r ≤ 50000 → Fits z row gr us0 →
  ∃ c, (GNon gr ctx r ∧ ∃ H2 gr', GOut H2 gr' ∧ ∀ n q K, c ≤ n → c ≤ q → M25 z row n q K s1 (marksT ctx) (i : Nat) gr o k tn tl l (marksT us0) = some (.t (.tup [I 0, .bool false]), H2)) ∨
   ∃ us gr', GInf gr ctx r gr' us ∧ us.length = r.length ∧ ∀ n q K, c ≤ n → c ≤ q → M25 z row n q K s1 (marksT ctx) (i : Nat) gr o k tn tl l (marksT us0) =
    K (S25s z row s1 (marksT ctx) (l.length : Nat) gr' o k tn tl l (marksT (us0 ++ us)))
 | [], i, _, hd, us0, gr, hu, hil, g, hctx, hn, hf => by
  have e : i = l.length := by
   have := congrArg List.length hd
   simp at this; omega
  subst e
  refine ⟨1, .inr ⟨[], gr, GInf.refl g, rfl, fun n q K h1 h2 => ?_⟩⟩
  obtain ⟨q, rfl⟩ : ∃ p, q = Nat.succ p := ⟨q - 1, by omega⟩
  rw [k25_end, List.append_nil]
 | t :: r, i, hs, hd, us0, gr, hu, hil, g, hctx, hn, hf => by
  have hi : l[i]? = some t := by
   have := congrArg (·[0]?) hd
   simpa using this
  have hd2 : l.drop (i + 1) = r := by
   rw [← List.tail_drop, hd]; rfl
  have hlt : i < l.length := (List.getElem?_eq_some_iff.1 hi).1
  simp only [sizeLs] at hn
  obtain ⟨c1, v, u, H1, gr1, e, o1, ⟨rfl, no⟩ | ⟨rfl, j, rfl, a⟩⟩ := hs t List.mem_cons_self gr g hctx (by omega)
  ·unfold Fits at hf
   rw [← hf] at e
   obtain ⟨H2, o2, hk⟩ := k25_no (s1 := s1) (o := o) (k := k) (tn := tn) (tl := tl) hl hi e o1
   refine ⟨c1 + 1, .inl ⟨no.head, H2, gr1, o2, fun n q K h1 h2 => ?_⟩⟩
   obtain ⟨q, rfl⟩ : ∃ p, q = Nat.succ p := ⟨q - 1, by omega⟩
   exact hk n q K (by omega)
  ·have hhi := a.hi
   have hle := a.le
   have hj := a.kn j (by simp)
   simp only [sizeLs] at hhi
   unfold Fits at hf
   rw [← hf] at e
   have hne1 : gr1 ≠ [] := fun h => by rw [h] at hj; simp at hj
   obtain ⟨c2, h⟩ := l25 (z := z) (row := row) (s1 := s1) (o := o) (k := k) (tn := tn) (tl := tl) hl r (i + 1) (fun t ht => hs t (List.mem_cons_of_mem _ ht)) hd2 (us0 ++ [j]) gr1 (by simp; omega) (by omega) a.ok (fun x hx => by have := hctx x hx; omega) (by omega) (fits_ne hne1 (by simp))
   have step : ∀ n q K, c1 + c2 + 1 ≤ n → c1 + c2 + 1 ≤ q → ∃ p, c2 ≤ p ∧ M25 z row n q K s1 (marksT ctx) (i : Nat) gr o k tn tl l (marksT us0) = M25 z row n p K s1 (marksT ctx) ((i + 1 : Nat) : Int) gr1 o k tn tl l (marksT (us0 ++ [j])) := by
    intro n q K h1 h2
    obtain ⟨q, rfl⟩ : ∃ p, q = Nat.succ p := ⟨q - 1, by omega⟩
    refine ⟨q, by omega, ?_⟩
    rw [k25_ok hl hi (by rw [marksT_len]; omega) e o1 (by omega), marksT_app]
   rcases h with ⟨no, H2, gr2, o2, h⟩ | ⟨us, gr2, b, hul, h⟩
   ·refine ⟨c1 + c2 + 1, .inl ⟨GNon.tail hctx a no, H2, gr2, o2, fun n q K h1 h2 => ?_⟩⟩
    obtain ⟨p, hp, e⟩ := step n q K h1 h2
    rw [e]; exact h n p K (by omega) hp
   ·refine ⟨c1 + c2 + 1, .inr ⟨j :: us, gr2, a.cons hctx b, by simp [hul], fun n q K h1 h2 => ?_⟩⟩
    obtain ⟨p, hp, e⟩ := step n q K h1 h2
    rw [e, h n p K (by omega) hp, List.append_assoc]
    rfl
def GFin (gr : List GN) (ctx : List Nat) (t : Lam) (Z : Nat → Option (AV × Heap)) : Prop :=
 ∃ c v u H' gr', (∀ n, c ≤ n → Z n = some (.t (.tup [I u, .bool v]), H')) ∧ GOut H' gr' ∧ ((v = false ∧ GNon gr ctx [t]) ∨ (v = true ∧ ∃ j : Nat, u = (j : Nat) ∧ GInf gr ctx [t] gr' [j]))
def zm (z : Bool) : Nat := if z then 1 else 2
section
variable {gr gr1 : List GN} {ctx : List Nat} {z : Bool} {s1 cx : List Tree} {i : Int} {k : Int} {t : Ty} {tn : List UInt8} {tl : List Tree} {l : List Lam}
theorem gfin_suc {x : Lam} {a : Nat} (h : GInf gr ctx [x] gr1 [a]) (hl : gr1.length + 5 ≤ 100000) : GFin gr ctx (.mk 5 k t [x]) fun n => evZH (Tab.env tab) (zm z) n 25 5 (S25s z false s1 cx i gr1 5 k tn tl l (marksT [a])) := by
 have ha := h.kn a (by simp)
 obtain ⟨H1, e1, o1⟩ := s52 gr1 .nat (by omega)
 obtain ⟨v, gr3, ⟨c2, H2, e2, o2⟩, j⟩ := s53 (roots (gr1 ++ [⟨none, .nat⟩])) (gr := gr1 ++ [⟨none, .nat⟩]) (a := a) (b := gr1.length) (Nat.le_refl _) (add_ok h.ok fun p a b e => by cases e) (by simp; omega) (by simp)
 rw [← o1.row] at e2
 have e1' : EvH E (1 + c2) 52 (A52 .nat) (gHeap (rowsG gr1)) (.t (I (gr1.length : Nat)), H1) := fun n hn => e1 n (by omega)
 have e2' : EvH E (1 + c2) 53 (A53 a gr1.length) (gHeap (gRow H1)) (.t (.bool v), H2) := fun n hn => e2 n (by omega)
 refine ⟨1 + c2, v, (a : Nat), ?_⟩
 have fin := h.suc_all (k := k) (t := t) j
 have sem : (v = false ∧ GNon gr ctx [.mk 5 k t [x]]) ∨ (v = true ∧ ∃ j : Nat, ((a : Nat) : Int) = (j : Nat) ∧ GInf gr ctx [.mk 5 k t [x]] gr3 [j]) := fin.imp id fun h => ⟨h.1, a, rfl, h.2⟩
 cases z with
 | false =>
  obtain ⟨H9, h9, o9⟩ := grest_suc (s1 := s1) (ctx := cx) (l := l) (i := i) (k := k) (tn := tn) (tl := tl) e1' o1.form e2' o2
  exact ⟨H9, gr3, h9, o9, sem⟩
 | true =>
  obtain ⟨H9, h9, o9⟩ := grest_sucz (s1 := s1) (ctx := cx) (l := l) (i := i) (k := k) (tn := tn) (tl := tl) e1' o1.form e2' o2
  exact ⟨H9, gr3, h9, o9, sem⟩
theorem gfin_pair {x y : Lam} {a b : Nat} (h : GInf gr ctx [x, y] gr1 [a, b]) (hl : gr1.length + 5 ≤ 100000) : GFin gr ctx (.mk 7 k t [x, y]) fun n => evZH (Tab.env tab) (zm z) n 25 5 (S25s z false s1 cx i gr1 7 k tn tl l (marksT [a, b])) := by
 obtain ⟨H1, e1, o1⟩ := s52 gr1 (.bin false a b) (by omega)
 refine ⟨1, true, (gr1.length : Nat), ?_⟩
 cases z with
 | false =>
  obtain ⟨H9, h9, o9⟩ := grest_pair (s1 := s1) (ctx := cx) (l := l) (i := i) (k := k) (tn := tn) (tl := tl) e1 o1
  exact ⟨H9, _, h9, o9, .inr ⟨rfl, _, rfl, h.pair⟩⟩
 | true =>
  obtain ⟨H9, h9, o9⟩ := grest_pairz (s1 := s1) (ctx := cx) (l := l) (i := i) (k := k) (tn := tn) (tl := tl) e1 o1
  exact ⟨H9, _, h9, o9, .inr ⟨rfl, _, rfl, h.pair⟩⟩
theorem gfin_app {x y : Lam} {a b : Nat} (h : GInf gr ctx [x, y] gr1 [a, b]) (hl : gr1.length + 5 ≤ 100000) : GFin gr ctx (.mk 3 k t [x, y]) fun n => evZH (Tab.env tab) (zm z) n 25 5 (S25s z false s1 cx i gr1 3 k tn tl l (marksT [a, b])) := by
 have ha := h.kn a (by simp)
 have hb := h.kn b (by simp)
 have hlen : (gr1 ++ [⟨none, .var⟩] : List GN).length = gr1.length + 1 := by simp
 have g1 := add_ok h.ok (k := .var) fun p a b e => by cases e
 have g2 := add_ok g1 (k := .bin true b gr1.length) fun p a b e => by cases e; exact ⟨by omega, by omega⟩
 obtain ⟨H1, e1, o1⟩ := s52 gr1 .var (by omega)
 obtain ⟨H2, e2, o2⟩ := s52 (gr1 ++ [⟨none, .var⟩]) (.bin true b gr1.length) (by omega)
 rw [hlen] at e2
 obtain ⟨v, gr3, ⟨c3, H3, e3, o3⟩, j⟩ := s53 _ (a := a) (b := gr1.length + 1) (Nat.le_refl _) g2 (by simp; omega) (by simp)
 rw [← o1.row] at e2
 rw [← o2.row] at e3
 refine ⟨1 + c3, v, (gr1.length : Nat), ?_⟩
 have sem : (v = false ∧ GNon gr ctx [.mk 3 k t [x, y]]) ∨ (v = true ∧ ∃ j : Nat, ((gr1.length : Nat) : Int) = (j : Nat) ∧ GInf gr ctx [.mk 3 k t [x, y]] gr3 [j]) := (h.app_all (k := k) (t := t) j).imp id fun h => ⟨h.1, _, rfl, h.2⟩
 have e1' : EvH E (1 + c3) 52 (A52 .var) (gHeap (rowsG gr1)) (.t (I (gr1.length : Nat)), H1) := fun n hn => e1 n (by omega)
 have e2' : EvH E (1 + c3) 52 (A52 (.bin true b gr1.length)) (gHeap (gRow H1)) (.t (I ((gr1.length + 1 : Nat) : Int)), H2) := fun n hn => e2 n (by omega)
 have e3' : EvH E (1 + c3) 53 (A53 a (gr1.length + 1)) (gHeap (gRow H2)) (.t (.bool v), H3) := fun n hn => e3 n (by omega)
 cases z with
 | false =>
  obtain ⟨H9, h9, o9⟩ := grest_app (s1 := s1) (ctx := cx) (l := l) (i := i) (k := k) (tn := tn) (tl := tl) e1' o1.form e2' o2.form e3' o3
  exact ⟨H9, gr3, h9, o9, sem⟩
 | true =>
  obtain ⟨H9, h9, o9⟩ := grest_appz (s1 := s1) (ctx := cx) (l := l) (i := i) (k := k) (tn := tn) (tl := tl) e1' o1.form e2' o2.form e3' o3
  exact ⟨H9, gr3, h9, o9, sem⟩
theorem gfin_fst {x : Lam} {a : Nat} (h : GInf gr ctx [x] gr1 [a]) (hl : gr1.length + 5 ≤ 100000) : (GFin gr ctx (.mk 8 k t [x]) fun n => evZH (Tab.env tab) (zm z) n 25 5 (S25s z false s1 cx i gr1 8 k tn tl l (marksT [a]))) ∧
  GFin gr ctx (.mk 9 k t [x]) fun n => evZH (Tab.env tab) (zm z) n 25 5 (S25s z false s1 cx i gr1 9 k tn tl l (marksT [a])) := by
 have ha := h.kn a (by simp)
 have hlen : (gr1 ++ [⟨none, .var⟩] : List GN).length = gr1.length + 1 := by simp
 have hlen2 : (gr1 ++ [⟨none, .var⟩] ++ [⟨none, .var⟩] : List GN).length = gr1.length + 2 := by simp
 have g1 := add_ok h.ok (k := .var) fun p a b e => by cases e
 have g2 := add_ok g1 (k := .var) fun p a b e => by cases e
 have g3 := add_ok g2 (k := .bin false gr1.length (gr1.length + 1)) fun p a b e => by cases e; exact ⟨by omega, by omega⟩
 obtain ⟨H1, e1, o1⟩ := s52 gr1 .var (by omega)
 obtain ⟨H2, e2, o2⟩ := s52 (gr1 ++ [⟨none, .var⟩]) .var (by omega)
 obtain ⟨H3, e3, o3⟩ := s52 (gr1 ++ [⟨none, .var⟩] ++ [⟨none, .var⟩]) (.bin false gr1.length (gr1.length + 1)) (by omega)
 rw [hlen] at e2
 rw [hlen2] at e3
 obtain ⟨v, gr3, ⟨c4, H4, e4, o4⟩, j⟩ := s53 _ (a := a) (b := gr1.length + 2) (Nat.le_refl _) g3 (by simp; omega) (by simp)
 rw [← o1.row] at e2
 rw [← o2.row] at e3
 rw [← o3.row] at e4
 have e1' : EvH E (1 + c4) 52 (A52 .var) (gHeap (rowsG gr1)) (.t (I (gr1.length : Nat)), H1) := fun n hn => e1 n (by omega)
 have e2' : EvH E (1 + c4) 52 (A52 .var) (gHeap (gRow H1)) (.t (I ((gr1.length + 1 : Nat) : Int)), H2) := fun n hn => e2 n (by omega)
 have e3' : EvH E (1 + c4) 52 (A52 (.bin false gr1.length (gr1.length + 1))) (gHeap (gRow H2)) (.t (I ((gr1.length + 2 : Nat) : Int)), H3) := fun n hn => e3 n (by omega)
 have e4' : EvH E (1 + c4) 53 (A53 a (gr1.length + 2)) (gHeap (gRow H3)) (.t (.bool v), H4) := fun n hn => e4 n (by omega)
 have fin := h.fst_all (k := k) (t := t) j
 have s8 : (v = false ∧ GNon gr ctx [.mk 8 k t [x]]) ∨ (v = true ∧ ∃ j : Nat, ((gr1.length : Nat) : Int) = (j : Nat) ∧ GInf gr ctx [.mk 8 k t [x]] gr3 [j]) := fin.imp (fun h => ⟨h.1, h.2.1⟩) fun h => ⟨h.1, _, rfl, h.2.1⟩
 have s9 : (v = false ∧ GNon gr ctx [.mk 9 k t [x]]) ∨ (v = true ∧ ∃ j : Nat, ((gr1.length + 1 : Nat) : Int) = (j : Nat) ∧ GInf gr ctx [.mk 9 k t [x]] gr3 [j]) := fin.imp (fun h => ⟨h.1, h.2.2⟩) fun h => ⟨h.1, _, rfl, h.2.2⟩
 cases z with
 | false =>
  obtain ⟨H9, h9, o9⟩ := grest_fst (s1 := s1) (ctx := cx) (l := l) (i := i) (k := k) (tn := tn) (tl := tl) e1' o1.form e2' o2.form e3' o3.form e4' o4
  obtain ⟨H8, h8, o8⟩ := grest_snd (s1 := s1) (ctx := cx) (l := l) (i := i) (k := k) (tn := tn) (tl := tl) e1' o1.form e2' o2.form e3' o3.form e4' o4
  exact ⟨⟨1 + c4, v, _, H9, gr3, h9, o9, s8⟩, ⟨1 + c4, v, _, H8, gr3, h8, o8, s9⟩⟩
 | true =>
  obtain ⟨H9, h9, o9⟩ := grest_fstz (s1 := s1) (ctx := cx) (l := l) (i := i) (k := k) (tn := tn) (tl := tl) e1' o1.form e2' o2.form e3' o3.form e4' o4
  obtain ⟨H8, h8, o8⟩ := grest_sndz (s1 := s1) (ctx := cx) (l := l) (i := i) (k := k) (tn := tn) (tl := tl) e1' o1.form e2' o2.form e3' o3.form e4' o4
  exact ⟨⟨1 + c4, v, _, H9, gr3, h9, o9, s8⟩, ⟨1 + c4, v, _, H8, gr3, h8, o8, s9⟩⟩
theorem gfin_iter {x y w : Lam} {a b d : Nat} (h : GInf gr ctx [x, y, w] gr1 [a, b, d]) (hl : gr1.length + 5 ≤ 100000) : GFin gr ctx (.mk 6 k t [x, y, w]) fun n => evZH (Tab.env tab) (zm z) n 25 5 (S25s z false s1 cx i gr1 6 k tn tl l (marksT [a, b, d])) := by
 have ha := h.kn a (by simp)
 have hb := h.kn b (by simp)
 have hd := h.kn d (by simp)
 obtain ⟨H1, e1, o1⟩ := s52 gr1 .nat (by omega)
 obtain ⟨v, gr3, ⟨c2, H2, e2, o2⟩, j⟩ := s53 (roots (gr1 ++ [⟨none, .nat⟩])) (gr := gr1 ++ [⟨none, .nat⟩]) (a := a) (b := gr1.length) (Nat.le_refl _) (add_ok h.ok fun p a b e => by cases e) (by simp; omega) (by simp)
 rw [← o1.row] at e2
 rcases h.iter1_all (k := k) (t := t) j with ⟨rfl, no⟩ | ⟨rfl, g3, l3, i1, i2⟩
 ·refine ⟨1 + c2, false, (d : Nat), ?_⟩
  have e1' : EvH E (1 + c2) 52 (A52 .nat) (gHeap (rowsG gr1)) (.t (I (gr1.length : Nat)), H1) := fun n hn => e1 n (by omega)
  have e2' : EvH E (1 + c2) 53 (A53 a gr1.length) (gHeap (gRow H1)) (.t (.bool false), H2) := fun n hn => e2 n (by omega)
  cases z with
  | false =>
   obtain ⟨H9, h9, o9⟩ := grest_iterno (b := b) (d := d) (s1 := s1) (ctx := cx) (l := l) (i := i) (k := k) (tn := tn) (tl := tl) e1' o1.form e2' o2
   exact ⟨H9, gr3, h9, o9, .inl ⟨rfl, no⟩⟩
  | true =>
   obtain ⟨H9, h9, o9⟩ := grest_iternoz (b := b) (d := d) (s1 := s1) (ctx := cx) (l := l) (i := i) (k := k) (tn := tn) (tl := tl) e1' o1.form e2' o2
   exact ⟨H9, gr3, h9, o9, .inl ⟨rfl, no⟩⟩
 ·obtain ⟨H3, e3, o3⟩ := s52 gr3 (.bin true d d) (by omega)
  obtain ⟨v, gr5, ⟨c4, H4, e4, o4⟩, j2⟩ := s53 _ (a := b) (b := gr3.length) (Nat.le_refl _) (add_ok g3 (k := .bin true d d) fun p a b e => by cases e; exact ⟨by omega, by omega⟩) (by simp; omega) (by simp)
  rw [← o2.row] at e3
  rw [← o3.row] at e4
  refine ⟨1 + c2 + c4, v, (d : Nat), ?_⟩
  have sem : (v = false ∧ GNon gr ctx [.mk 6 k t [x, y, w]]) ∨ (v = true ∧ ∃ j : Nat, ((d : Nat) : Int) = (j : Nat) ∧ GInf gr ctx [.mk 6 k t [x, y, w]] gr5 [j]) := (h.iter2_all (k := k) (t := t) g3 l3 i1 i2 j2).imp id fun h => ⟨h.1, _, rfl, h.2⟩
  have e1' : EvH E (1 + c2 + c4) 52 (A52 .nat) (gHeap (rowsG gr1)) (.t (I (gr1.length : Nat)), H1) := fun n hn => e1 n (by omega)
  have e2' : EvH E (1 + c2 + c4) 53 (A53 a gr1.length) (gHeap (gRow H1)) (.t (.bool true), H2) := fun n hn => e2 n (by omega)
  have e3' : EvH E (1 + c2 + c4) 52 (A52 (.bin true d d)) (gHeap (gRow H2)) (.t (I (gr3.length : Nat)), H3) := fun n hn => e3 n (by omega)
  have e4' : EvH E (1 + c2 + c4) 53 (A53 b gr3.length) (gHeap (gRow H3)) (.t (.bool v), H4) := fun n hn => e4 n (by omega)
  cases z with
  | false =>
   obtain ⟨H9, h9, o9⟩ := grest_iter (s1 := s1) (ctx := cx) (l := l) (i := i) (k := k) (tn := tn) (tl := tl) e1' o1.form e2' o2.form e3' o3.form e4' o4
   exact ⟨H9, gr5, h9, o9, sem⟩
  | true =>
   obtain ⟨H9, h9, o9⟩ := grest_iterz (s1 := s1) (ctx := cx) (l := l) (i := i) (k := k) (tn := tn) (tl := tl) e1' o1.form e2' o2.form e3' o3.form e4' o4
   exact ⟨H9, gr5, h9, o9, sem⟩
end
end Go.Proofs.Cw.Si
end

/-
  THE GRAPH 12: term, all cases.
-/
section
namespace Go.Proofs.Cw.Si
open Go.Proofs
theorem s25 : ∀ (t : Lam) (ctx : List Nat), esh ctx.length t → ctx.length + sizeL t ≤ 1000000 → Spec25 ctx t
 | .mk o k ty l, ctx, hs, hc => by
  intro gr g hctx hn
  unfold esh at hs
  obtain ⟨h1, h2, h3⟩ := hs
  rw [sizeL_mk] at hc hn
  have hl := len_sizeLs l
  by_cases ho : o = 2
  ·subst ho
   rw [if_pos rfl] at h3
   obtain ⟨x, rfl⟩ : ∃ x, l = [x] := by
    rcases ops_of h1 with ⟨e, _⟩ | ⟨e, _⟩ | ⟨_, e⟩ | ⟨e, _⟩ | ⟨e, _⟩ | ⟨e, _⟩ | ⟨e, _⟩ | ⟨e, _⟩ | ⟨e, _⟩ <;> first | (exfalso; omega) | exact List.length_eq_one_iff.1 e
   have hsz := sizeLs_mem (List.mem_singleton.2 rfl : x ∈ [x])
   have g1 := add_ok g (k := .var) fun p a b e => by cases e
   have ih : ∀ t, t ∈ [x] → Spec25 (ctx ++ [gr.length]) t := fun t ht => by
    have : sizeL t < sizeL (.mk 2 k ty [x]) := by have := sizeLs_mem ht; rw [sizeL_mk]; omega
    have hsz := sizeLs_mem ht
    exact s25 t (ctx ++ [gr.length]) (by
     have := eshs_mem ht h3
     simpa using this) (by simp; omega)
   have hctx1 : ∀ i, i ∈ ctx ++ [gr.length] → i < (gr ++ [⟨none, .var⟩] : List GN).length := fun i hi => by
    rcases List.mem_append.1 hi with hi | hi
    ·have := hctx i hi; simp; omega
    ·rw [List.mem_singleton.1 hi]; simp
   obtain ⟨z, cz, hd⟩ : ∃ z cz, ∀ n, cz ≤ n → evR (Tab.env tab) n 25 [.href 0 0 0, .t (.slc (marksT ctx)), .t (encL (.mk 2 k ty [x]))] (hG gr) =
     M25 z true n n (evZH (Tab.env tab) (zm z) n 25 5) (marksT ctx) (marksT (ctx ++ [gr.length])) ((0 : Nat) : Int) (gr ++ [⟨none, .var⟩]) 2 k ty.name (encTs ty.parts) [x] [] := by
    cases gr with
    | nil =>
     obtain ⟨H1, e1, o1⟩ := s52z .var
     exact ⟨true, 1, fun n hn => gheadrz e1 o1 hn (by omega)⟩
    | cons a b =>
     obtain ⟨H1, e1, o1⟩ := s52 (a :: b) .var (by omega)
     exact ⟨false, 1, fun n hn => gheadr e1 o1 hn (by omega)⟩
   obtain ⟨c, h⟩ := l25 (z := z) (row := true) (s1 := marksT ctx) (o := 2) (k := k) (tn := ty.name) (tl := encTs ty.parts) (l := [x]) (by simp) [x] 0 ih rfl [] (gr ++ [⟨none, .var⟩]) (by simp) (by simp) g1 hctx1 (by simp only [List.length_append, List.length_singleton]; omega) (fits_ne (by simp) (by simp))
   rcases h with ⟨no, H2, gr', o2, h⟩ | ⟨us, gr', a, hu, h⟩
   ·refine ⟨c + cz + 1, false, 0, H2, gr', EvH.mk fun n hn => ?_, o2, .inl ⟨rfl, GInf.lam_no g hctx no⟩⟩
    rw [hd n (by omega)]
    exact h n n _ (by omega) (by omega)
   ·obtain ⟨b, rfl⟩ := List.length_eq_one_iff.1 (show us.length = 1 by simpa using hu)
    have hgl := a.hi
    simp only [List.length_append, List.length_singleton] at hgl
    obtain ⟨H3, e3, o3⟩ := s52 gr' (.bin true gr.length b) (by omega)
    have hlen : ((marksT (ctx ++ [gr.length])).length : Int) = ((ctx.length + 1 : Nat) : Int) := by rw [marksT_len]; simp
    have hw : IntKind.wrap .i64 (((marksT (ctx ++ [gr.length])).length : Int) - 1) = ((ctx.length : Nat) : Int) := by
     rw [hlen, w64 (by omega)]; omega
    have hx : nth (marksT (ctx ++ [gr.length])) (Int.toNat (IntKind.wrap .i64 (((marksT (ctx ++ [gr.length])).length : Int) - 1))) = some (I (gr.length : Nat)) := by
     rw [hw, Int.toNat_natCast]; exact nth_marks (by simp)
    have hi : (decide (0 ≤ IntKind.wrap .i64 (((marksT (ctx ++ [gr.length])).length : Int) - 1)) && (decide (IntKind.wrap .i64 (((marksT (ctx ++ [gr.length])).length : Int) - 1) < ((marksT (ctx ++ [gr.length])).length : Int)) && true)) = true := by
     rw [hw, hlen]; simp; omega
    have rest : ∃ H9, (∀ n, 1 ≤ n → evZH (Tab.env tab) (zm z) n 25 5 (S25s z true (marksT ctx) (marksT (ctx ++ [gr.length])) (([x] : List Lam).length : Nat) gr' 2 k ty.name (encTs ty.parts) [x] (marksT ([] ++ [b]))) = some (.t (.tup [I (gr'.length : Nat), .bool true]), H9)) ∧ GOut H9 (gr' ++ [⟨none, .bin true gr.length b⟩]) := by
     cases z with
     | false => exact grest_lam hx hi e3 o3
     | true => exact grest_lamz hx hi e3 o3
    obtain ⟨H9, h9, o9⟩ := rest
    refine ⟨c + cz + 2, true, _, H9, _, EvH.mk fun n hn => ?_, o9, .inr ⟨rfl, _, rfl, GInf.lam g hctx a⟩⟩
    rw [hd n (by omega)]
    exact (h n n _ (by omega) (by omega)).trans (h9 n (by omega))
  ·rw [if_neg ho] at h3
   have ih : ∀ t, t ∈ l → Spec25 ctx t := fun t ht => by
    have : sizeL t < sizeL (.mk o k ty l) := by have := sizeLs_mem ht; rw [sizeL_mk]; omega
    have hsz := sizeLs_mem ht
    exact s25 t ctx (eshs_mem ht h3) (by omega)
   obtain ⟨z, hd, hfit, hzne⟩ : ∃ z, (∀ n, evR (Tab.env tab) n 25 [.href 0 0 0, .t (.slc (marksT ctx)), .t (encL (.mk o k ty l))] (hG gr) =
     M25 z false n n (evZH (Tab.env tab) (zm z) n 25 5) (marksT ctx) (marksT ctx) ((0 : Nat) : Int) gr o k ty.name (encTs ty.parts) l []) ∧ Fits z false gr [] ∧ ((z = false ∧ gr ≠ []) ∨ (z = true ∧ gr = [])) := by
    cases gr with
    | nil => exact ⟨true, fun n => gheadz ho, rfl, .inr ⟨rfl, rfl⟩⟩
    | cons a b => exact ⟨false, fun n => ghead ho, rfl, .inl ⟨rfl, by simp⟩⟩
   have leaf : l = [] → ∀ n, evR (Tab.env tab) (n + 1) 25 [.href 0 0 0, .t (.slc (marksT ctx)), .t (encL (.mk o k ty l))] (hG gr) =
     evZH (Tab.env tab) (zm z) (n + 1) 25 5 (S25s z false (marksT ctx) (marksT ctx) (l.length : Nat) gr o k ty.name (encTs ty.parts) l []) := by
    intro e n
    subst e
    rw [hd]
    exact k25_end
   rcases ops_of h1 with ⟨rfl, e⟩ | ⟨rfl, e⟩ | hh
   ·have hle := List.length_eq_zero_iff.1 e
    obtain ⟨h0, hk⟩ := h2 rfl
    have hlt : ctx.length - 1 - k.toNat < ctx.length := by omega
    have hj : ctx[ctx.length - 1 - k.toNat]? = some ctx[ctx.length - 1 - k.toNat] := List.getElem?_eq_getElem hlt
    have hjn := hctx _ (List.getElem_mem hlt)
    rcases hzne with ⟨rfl, hne⟩ | ⟨_, he⟩
    ·have inf : GInf gr ctx [.mk 1 k ty l] gr [ctx[ctx.length - 1 - k.toNat]] := by
      subst hle
      exact GInf.var g h0 hk hj hjn
     have hw : IntKind.wrap .i64 (IntKind.wrap .i64 (((marksT ctx).length : Int) - 1) - k) = ((ctx.length - 1 - k.toNat : Nat) : Int) := by
      rw [marksT_len, w64 (x := ((ctx.length : Nat) : Int) - 1) (by omega), w64 (by omega)]; omega
     obtain ⟨H9, h9, o9⟩ := grest_var (c := 0) (s1 := marksT ctx) (ctx := marksT ctx) (l := l) (i := (l.length : Nat)) (gr := gr) (k := k) (tn := ty.name) (tl := encTs ty.parts) (j := ctx[ctx.length - 1 - k.toNat]) (by rw [hw]; simp) (by rw [hw, Int.toNat_natCast]; exact nth_marks hj)
     refine ⟨2, true, _, H9, gr, EvH.mk fun n hn => ?_, o9, .inr ⟨rfl, _, rfl, inf⟩⟩
     obtain ⟨n, rfl⟩ : ∃ p, n = p + 1 := ⟨n - 1, by omega⟩
     rw [leaf hle]
     exact h9 _ (by omega)
    ·rw [he] at hjn; simp at hjn
   ·have hle := List.length_eq_zero_iff.1 e
    have inf : GInf gr ctx [.mk 4 k ty l] (gr ++ [⟨none, .nat⟩]) [gr.length] := by
     subst hle
     exact GInf.num g
    have rest : ∃ H9, (∀ n, 1 ≤ n → evZH (Tab.env tab) (zm z) n 25 5 (S25s z false (marksT ctx) (marksT ctx) (l.length : Nat) gr 4 k ty.name (encTs ty.parts) l []) = some (.t (.tup [I (gr.length : Nat), .bool true]), H9)) ∧ GOut H9 (gr ++ [⟨none, .nat⟩]) := by
     rcases hzne with ⟨rfl, hne⟩ | ⟨rfl, rfl⟩
     ·obtain ⟨H1, e1, o1⟩ := s52 gr .nat (by omega)
      exact grest_num e1 o1
     ·obtain ⟨H1, e1, o1⟩ := s52z .nat
      exact grest_numz e1 o1
    obtain ⟨H9, h9, o9⟩ := rest
    refine ⟨2, true, _, H9, _, EvH.mk fun n hn => ?_, o9, .inr ⟨rfl, _, rfl, inf⟩⟩
    obtain ⟨n, rfl⟩ : ∃ p, n = p + 1 := ⟨n - 1, by omega⟩
    rw [leaf hle]
    exact h9 _ (by omega)
   ·obtain ⟨c, h⟩ := l25 (z := z) (row := false) (s1 := marksT ctx) (o := o) (k := k) (tn := ty.name) (tl := encTs ty.parts) (l := l) (by omega) l 0 ih rfl [] gr (by simp) (by omega) g hctx (by omega) hfit
    rcases h with ⟨no, H2, gr', o2, h⟩ | ⟨us, gr1, a, hu, h⟩
    ·refine ⟨c + 1, false, 0, H2, gr', EvH.mk fun n hn => ?_, o2, .inl ⟨rfl, no.parts fun Γ τ hh => hh.parts ho⟩⟩
     rw [hd]
     exact h n n _ (by omega) (by omega)
    ·have hgl := a.hi
     have fin : GFin gr ctx (.mk o k ty l) (fun n => evZH (Tab.env tab) (zm z) n 25 5 (S25s z false (marksT ctx) (marksT ctx) (l.length : Nat) gr1 o k ty.name (encTs ty.parts) l (marksT ([] ++ us)))) := by
      rcases hh with ⟨e, _⟩ | ⟨rfl, e⟩ | ⟨rfl, e⟩ | ⟨rfl, e⟩ | ⟨rfl, e⟩ | ⟨rfl, e⟩ | ⟨rfl, e⟩
      ·exact absurd e ho
      ·obtain ⟨x, rfl⟩ := List.length_eq_one_iff.1 e
       obtain ⟨y, rfl⟩ := List.length_eq_one_iff.1 (hu.trans e)
       exact gfin_suc a (by omega)
      ·obtain ⟨x, rfl⟩ := List.length_eq_one_iff.1 e
       obtain ⟨y, rfl⟩ := List.length_eq_one_iff.1 (hu.trans e)
       exact (gfin_fst a (by omega)).1
      ·obtain ⟨x, rfl⟩ := List.length_eq_one_iff.1 e
       obtain ⟨y, rfl⟩ := List.length_eq_one_iff.1 (hu.trans e)
       exact (gfin_fst a (by omega)).2
      ·obtain ⟨x, x2, rfl⟩ := len_two e
       obtain ⟨y, y2, rfl⟩ := len_two (hu.trans e)
       exact gfin_app a (by omega)
      ·obtain ⟨x, x2, rfl⟩ := len_two e
       obtain ⟨y, y2, rfl⟩ := len_two (hu.trans e)
       exact gfin_pair a (by omega)
      ·obtain ⟨x, x2, x3, rfl⟩ := len_three e
       obtain ⟨y, y2, y3, rfl⟩ := len_three (hu.trans e)
       exact gfin_iter a (by omega)
     obtain ⟨c2, v, u, H', gr', hz, o9, fin⟩ := fin
     refine ⟨c + c2 + 1, v, u, H', gr', EvH.mk fun n hn => ?_, o9, fin⟩
     rw [hd]
     exact (h n n _ (by omega) (by omega)).trans (hz n (by omega))
termination_by t => sizeL t
end Go.Proofs.Cw.Si
end

/-
  THE GRAPH 5: size, read.
-/
section
namespace Go.Proofs.Cw.Si
open Go.Proofs
section
variable {gr : List GN} {r x c : Nat} {k : GK}
theorem l27_c {m a j y : Nat} (h1 : gr[r]? = some ⟨none, k⟩) (hj : j < k.kids.length) (hl : k.kids.length ≤ 1000) (hx : nth k.kids j = some (I (x : Nat))) (hm : m ≤ 1000) (ha : a ≤ m) (hy : y ≤ 2000)
  (h : Ev E c 27 [.ptr (.agg [.slc (rowsG gr)]) 0, I (x : Nat), I ((m - a : Nat) : Int)] (I (y : Nat))) :
  ∀ n q, c ≤ n → L27_0 n (Nat.succ q) (rowsG gr) (r : Nat) (m : Nat) (a : Nat) (j : Nat) = L27_0 n q (rowsG gr) (r : Nat) (m : Nat) ((a + y : Nat) : Int) ((j + 1 : Nat) : Int) := by
 intro n q hn
 have hr : nth (rowsG gr) (Int.toNat ((r : Nat) : Int)) = some (encN ⟨none, k⟩) := by rw [Int.toNat_natCast]; exact nth_rowsG h1
 have hx' : nth k.kids (Int.toNat ((j : Nat) : Int)) = some (I (x : Nat)) := by rw [Int.toNat_natCast]; exact hx
 have hw : IntKind.wrap .i64 (((j : Nat) : Int) + 1) = ((j + 1 : Nat) : Int) := by rw [w64 (by omega)]; omega
 have hw2 : IntKind.wrap .i64 (((m : Nat) : Int) - ((a : Nat) : Int)) = ((m - a : Nat) : Int) := by rw [w64 (by omega)]; omega
 have hw3 : IntKind.wrap .i64 (((a : Nat) : Int) + ((y : Nat) : Int)) = ((a + y : Nat) : Int) := by rw [w64 (by omega)]; omega
 rw [l27_0, hw2]
 refine step_t (by simp) (step_b hr (step_t rfl (step_t (decide_eq_true (show ((j : Nat) : Int) < (k.kids.length : Nat) by omega)) (step_t (decide_eq_true (show ((a : Nat) : Int) ≤ ((m : Nat) : Int) by omega)) (step_t (by simp) (step_b hr (step_t rfl (step_t (by simp) (step_b hx' (step_t rfl (step_b (h n hn) (step_t rfl ?_))))))))))))
 show L27_0 n q (rowsG gr) (r : Nat) (m : Nat) (IntKind.wrap .i64 (((a : Nat) : Int) + ((y : Nat) : Int))) (IntKind.wrap .i64 (((j : Nat) : Int) + 1)) = _
 rw [hw, hw3]
theorem l27_e {m a : Nat} {j : Nat} (h1 : gr[r]? = some ⟨none, k⟩) (hj : k.kids.length = j ∨ m < a) : ∀ n q, L27_0 n (Nat.succ q) (rowsG gr) (r : Nat) (m : Nat) (a : Nat) (j : Nat) = some (I (a : Nat)) := by
 intro n q
 have hr : nth (rowsG gr) (Int.toNat ((r : Nat) : Int)) = some (encN ⟨none, k⟩) := by rw [Int.toNat_natCast]; exact nth_rowsG h1
 rw [l27_0]
 refine step_t (by simp) (step_b hr (step_t rfl ?_))
 by_cases c : k.kids.length ≤ j
 ·exact step_f (decide_eq_false (show ¬ ((j : Nat) : Int) < (k.kids.length : Nat) by omega)) rfl
 ·exact step_t (decide_eq_true (show ((j : Nat) : Int) < (k.kids.length : Nat) by omega)) (step_f (decide_eq_false (show ¬ ((a : Nat) : Int) ≤ ((m : Nat) : Int) by omega)) rfl)
end
theorem s27 {gr : List GN} {i : Nat} {x : FT} (h : GRes gr i x) : ∀ m : Nat, m ≤ 1000 → ∃ c, Ev E c 27 [.ptr (.agg [.slc (rowsG gr)]) 0, I (i : Nat), I (m : Nat)] (I ((min x.size (m + 1) : Nat) : Int)) := by
 have one : ∀ {i r : Nat} {k : GK} {m : Nat} {w c : Nat}, At gr i r → (∀ n, c ≤ n → L27_0 n n (rowsG gr) (r : Nat) (m : Nat) ((1 : Nat) : Int) ((0 : Nat) : Int) = some (I (w : Nat))) → ∃ c, Ev E c 27 [.ptr (.agg [.slc (rowsG gr)]) 0, I (i : Nat), I (m : Nat)] (I (w : Nat)) := by
  intro i r k m w c a h
  obtain ⟨c1, e⟩ := s54 a
  refine ⟨c + c1 + 1, Ev.mk fun n hn => ?_⟩
  rw [e27]
  exact step_b (e n (by omega)) (step_t rfl (h n (by omega)))
 induction h with
 | @var i r a h1 =>
  intro m hm
  rw [show min (FT.size (.var r)) (m + 1) = 1 by simp [FT.size]]
  exact one (k := .var) (c := 1) a fun n hn => by
   obtain ⟨n, rfl⟩ : ∃ p, n = Nat.succ p := ⟨n - 1, by omega⟩
   exact l27_e h1 (.inl rfl) _ _
 | @nat i r a h1 =>
  intro m hm
  rw [show min (FT.size .nat) (m + 1) = 1 by simp [FT.size]]
  exact one (k := .nat) (c := 1) a fun n hn => by
   obtain ⟨n, rfl⟩ : ∃ p, n = Nat.succ p := ⟨n - 1, by omega⟩
   exact l27_e h1 (.inl rfl) _ _
 | @bin i r p u w x y a h1 _ _ ih1 ih2 =>
  intro m hm
  have hu : nth (GK.kids (.bin p u w)) 0 = some (I (u : Nat)) := rfl
  have hw : nth (GK.kids (.bin p u w)) 1 = some (I (w : Nat)) := rfl
  have px := FT.size_pos x
  have py := FT.size_pos y
  by_cases c0 : m = 0
  ·rw [show min (FT.size (.bin p x y)) (m + 1) = 1 by simp only [FT.size]; omega]
   exact one (k := .bin p u w) (c := 1) a fun n hn => by
    obtain ⟨n, rfl⟩ : ∃ p, n = Nat.succ p := ⟨n - 1, by omega⟩
    exact l27_e h1 (.inr (by omega)) _ _
  obtain ⟨c1, e1⟩ := ih1 (m - 1) (by omega)
  by_cases c2 : m ≤ x.size
  ·rw [show min (FT.size (.bin p x y)) (m + 1) = 1 + m by simp only [FT.size]; omega]
   rw [show min x.size (m - 1 + 1) = m by omega] at e1
   exact one (k := .bin p u w) (c := c1 + 2) a fun n hn => by
    obtain ⟨q, hq⟩ : ∃ p, n = Nat.succ (Nat.succ p) := ⟨n - 2, by omega⟩
    have t1 := l27_c (j := 0) h1 (by simp [GK.kids]) (by simp [GK.kids]) hu hm (by omega) (by omega) e1 n (Nat.succ q) (by omega)
    have t2 := l27_e (m := m) (a := 1 + m) (j := 0 + 1) h1 (.inr (by omega)) n q
    rw [← hq] at t1
    exact t1.trans t2
  ·rw [show min x.size (m - 1 + 1) = x.size by omega] at e1
   obtain ⟨c3, e2⟩ := ih2 (m - (1 + x.size)) (by omega)
   rw [show min (FT.size (.bin p x y)) (m + 1) = (1 + x.size) + min y.size (m - (1 + x.size) + 1) by simp only [FT.size]; omega]
   exact one (k := .bin p u w) (c := c1 + c3 + 3) a fun n hn => by
    obtain ⟨q, hq⟩ : ∃ p, n = Nat.succ (Nat.succ (Nat.succ p)) := ⟨n - 3, by omega⟩
    have t1 := l27_c (j := 0) h1 (by simp [GK.kids]) (by simp [GK.kids]) hu hm (by omega) (by omega) e1 n (Nat.succ (Nat.succ q)) (by omega)
    have t2 := l27_c (j := 0 + 1) h1 (by simp [GK.kids]) (by simp [GK.kids]) hw hm (by omega) (by omega) e2 n (Nat.succ q) (by omega)
    have t3 := l27_e (m := m) (a := 1 + x.size + min y.size (m - (1 + x.size) + 1)) (j := 0 + 1 + 1) h1 (.inl rfl) n q
    rw [← hq] at t1
    exact t1.trans (t2.trans t3)
abbrev shI : Sh := Sh.int IntKind.i64
structure NOut (V : AV) (H : Heap) (y : Ty) (ns : List Nat) : Prop where
 form : nForm shT shI V H = !ns.isEmpty
 nil : nNil shT shI V H = ns.isEmpty
 ty : nTy shT shI V H = encT y
 row : ns ≠ [] → nRow shT shI V H = marksT ns
theorem nout1 {s : List UInt8} {ns : List Nat} (h : ns ≠ []) {o : List HObj} : NOut (.tup [.agg [.t (.str s), .nilS], .hsl 0 none]) (.tre shI (marksT ns) :: o) (.mk s []) ns := by
 cases ns with
 | nil => exact absurd rfl h
 | cons a r => exact ⟨rfl, rfl, rfl, fun _ => rfl⟩
theorem nout2 {s : List UInt8} {o : List HObj} : NOut (.tup [.agg [.t (.str s), .nilS], .nilS]) o (.mk s []) [] :=
 ⟨rfl, rfl, rfl, fun h => absurd rfl h⟩
theorem nout3 {s : List UInt8} {ts : List Ty} {ns : List Nat} (h : ns ≠ []) {o1 o2 o3 : HObj} : NOut (.tup [.agg [.t (.str s), .hsl 4 none], .hsl 1 none]) [o1, .tre shI (marksT ns), o2, o3, .tre shT (encTs ts)] (.mk s ts) ns := by
 cases ns with
 | nil => exact absurd rfl h
 | cons a r => exact ⟨rfl, rfl, rfl, fun _ => rfl⟩
theorem nout4 {s : List UInt8} {ts : List Ty} {o1 o2 : HObj} : NOut (.tup [.agg [.t (.str s), .hsl 2 none], .nilS]) [o1, o2, .tre shT (encTs ts)] (.mk s ts) [] :=
 ⟨rfl, rfl, rfl, fun h => absurd rfl h⟩
theorem nout5 {s : List UInt8} {ts : List Ty} {ns : List Nat} (h : ns ≠ []) {o2 o3 : HObj} : NOut (.tup [.agg [.t (.str s), .hsl 3 none], .hsl 0 none]) [.tre shI (marksT ns), o2, o3, .tre shT (encTs ts)] (.mk s ts) ns := by
 cases ns with
 | nil => exact absurd rfl h
 | cons a r => exact ⟨rfl, rfl, rfl, fun _ => rfl⟩
end Go.Proofs.Cw.Si
end

/-
  THE GRAPH 6: read.
-/
section
namespace Go.Proofs.Cw.Si
open Go.Proofs
theorem nout6 {s : List UInt8} {ns : List Nat} (h : ns ≠ []) {o1 o2 o3 : HObj} : NOut (.tup [.agg [.t (.str s), .nilS], .hsl 3 none]) [o1, o2, o3, .tre shI (marksT ns)] (.mk s []) ns := by
 cases ns with
 | nil => exact absurd rfl h
 | cons a r => exact ⟨rfl, rfl, rfl, fun _ => rfl⟩
theorem nout7 {s : List UInt8} {a : Nat} {o1 o2 : HObj} : NOut (.tup [.agg [.t (.str s), .nilS], .hsl 2 none]) [o1, o2, .tre shI [I (a : Nat)]] (.mk s []) [a] := ⟨rfl, rfl, rfl, fun _ => rfl⟩
def NHa : List Nat → AV
 | [] => .nilS
 | _ :: _ => .hsl 0 none
def NHh : List Nat → Heap
 | [] => []
 | a :: r => [.tre shI (marksT (a :: r))]
def Run28 (gr : List GN) (i : Nat) (ns : List Nat) (y : Ty) (ns' : List Nat) : Prop :=
 ∃ c V H', EvH E c 28 [.t (.ptr (.agg [.slc (rowsG gr)]) 0), .t (I (i : Nat)), NHa ns] (NHh ns) (V, H') ∧ NOut V H' y ns'
section
variable {gr : List GN} {i r : Nat} {k : GK}
theorem l28 {r : Nat} : ∀ (rest pre : List Nat), pre.length + rest.length < 100 → pre ++ rest ≠ [] → ∃ V H', (∀ n q, 4 ≤ n → rest.length < q → L28_0 n q (r : Nat) (pre.length : Nat) (marksT (pre ++ rest)) [] = some (V, H')) ∧
  NOut V H' (match idx rest r with | some p => .mk (63 :: nmI (pre.length + p)) [] | none => .mk (63 :: nmI (pre ++ rest).length) []) (match idx rest r with | some _ => pre ++ rest | none => pre ++ rest ++ [r])
 | [], pre, hl, hne => by
  have hlen : pre.length < 100 := by simpa using hl
  have h2 := nmI_len hlen
  refine ⟨.tup [.agg [.t (.str (63 :: nmI pre.length)), .nilS], .hsl 3 none], [.dead, .mix (Sh.agg [Sh.str, Sh.slc]) [.agg [.t (.str (63 :: nmI pre.length)), .nilS]], .tre shI [I (r : Nat)], .tre shI (marksT (pre ++ [r]))], fun n q hn hq => ?_, ?_⟩
  ·obtain ⟨q, rfl⟩ : ∃ p, q = Nat.succ p := ⟨q - 1, by simp at hq; omega⟩
   rw [m28_0, List.append_nil, marksT_len]
   refine step_f (by simp) (step_b (s48 hlen n hn) (step_t rfl (step_t (decide_eq_true (show 1 + (nmI pre.length).length ≤ 140737488355328 by omega)) (step_t ?_ ?_))))
   ·simp; omega
   ·have : marksT (pre ++ [r]) = marksT pre ++ [I (r : Nat)] := by simp [marksT]
    rw [this]; rfl
  ·simp only [idx, List.append_nil]
   exact nout6 (by simp)
 | x :: rest, pre, hl, hne => by
  have hlt : pre.length < (pre ++ x :: rest).length := by simp
  have hx : nth (marksT (pre ++ x :: rest)) (Int.toNat ((pre.length : Nat) : Int)) = some (I (x : Nat)) := by
   rw [Int.toNat_natCast]; exact nth_marks (by simp)
  by_cases e : x = r
  ·subst e
   have hlen : pre.length < 100 := by omega
   have h2 := nmI_len hlen
   refine ⟨.tup [.agg [.t (.str (63 :: nmI pre.length)), .nilS], .hsl 0 none], [.tre shI (marksT (pre ++ x :: rest)), .mix (Sh.agg [Sh.str, Sh.slc]) [.agg [.t (.str (63 :: nmI pre.length)), .nilS]]], fun n q hn hq => ?_, ?_⟩
   ·obtain ⟨q, rfl⟩ : ∃ p, q = Nat.succ p := ⟨q - 1, by omega⟩
    rw [m28_0]
    refine step_t (by rw [marksT_len]; simp; omega) (step_t (idxM hlt) (step_b hx (step_t rfl (step_t (beq_self_eq_true _) (step_b (s48 hlen n hn) (step_t rfl (step_t (decide_eq_true (show 1 + (nmI pre.length).length ≤ 140737488355328 by omega)) rfl)))))))
   ·simp only [idx, if_pos, Nat.add_zero]
    exact nout1 hne
  ·obtain ⟨V, H', h, ho⟩ := l28 (r := r) rest (pre ++ [x]) (by simp at hl ⊢; omega) (by simp)
   simp only [List.append_assoc, List.singleton_append, List.length_append, List.length_singleton] at h ho
   refine ⟨V, H', fun n q hn hq => ?_, ?_⟩
   ·obtain ⟨q, rfl⟩ : ∃ p, q = Nat.succ p := ⟨q - 1, by omega⟩
    simp at hq
    have h := h n q hn (by omega)
    have hw : IntKind.wrap .i64 (((pre.length : Nat) : Int) + 1) = ((pre.length + 1 : Nat) : Int) := by simp at hl; rw [w64 (by omega)]; omega
    rw [m28_0]
    refine step_t (by rw [marksT_len]; simp; omega) (step_t (idxM hlt) (step_b hx (step_t rfl (step_f (intNe e) ?_))))
    rw [hw]; exact h
   ·simp only [idx, if_neg e]
    cases hi : idx rest r with
    | none =>
     rw [hi] at ho
     simpa [List.length_append] using ho
    | some p =>
     rw [hi] at ho
     simp only [Option.map] at ho ⊢
     rw [show pre.length + (p + 1) = pre.length + 1 + p by omega]
     exact ho
theorem run28_var (a : At gr i r) (h1 : gr[r]? = some ⟨none, .var⟩) {ns : List Nat} (hl : ns.length < 100) : Run28 gr i ns (tell nmI (.var r) ns).1 (tell nmI (.var r) ns).2 := by
 obtain ⟨c, e⟩ := s54 a
 cases ns with
 | nil =>
  have h2 := nmI_len (k := 0) (by omega)
  refine ⟨c + 4 + 1 + 1, .tup [.agg [.t (.str (63 :: nmI 0)), .nilS], .hsl 2 none], [.mix (Sh.agg [Sh.str, Sh.slc]) [.agg [.t (.str (63 :: nmI 0)), .nilS]], .tre shI [I (r : Nat)], .tre shI [I (r : Nat)]], EvH.mk fun n hn => ?_, nout7⟩
  show evR (Tab.env tab) n 28 [.t (.ptr (.agg [.slc (rowsG gr)]) 0), .t (I (i : Nat)), .nilS] [] = _
  rw [r28z]
  refine step_b (e n (by omega)) (step_t rfl (step_t (by simp) (step_b (by rw [show Tree.toInt (I (r : Nat)) = ((r : Nat) : Int) from rfl, Int.toNat_natCast]; exact nth_rowsG h1) (step_t rfl (step_t rfl ?_)))))
  obtain ⟨n, rfl⟩ : ∃ p, n = Nat.succ p := ⟨n - 1, by omega⟩
  show L28_0z (Nat.succ n) (Nat.succ n) (r : Nat) 0 [] = _
  rw [m28_0z]
  exact step_f rfl (step_b (s48 (k := 0) (by omega) (Nat.succ n) (by omega)) (step_t rfl (step_t (decide_eq_true (show 1 + (nmI 0).length ≤ 140737488355328 by omega)) rfl)))
 | cons x rest =>
  obtain ⟨V, H', h, ho⟩ := l28 (r := r) (x :: rest) [] (by simpa using hl) (by simp)
  refine ⟨c + 4 + (x :: rest).length + 1 + 1, V, H', EvH.mk fun n hn => ?_, ?_⟩
  ·show evR (Tab.env tab) n 28 [.t (.ptr (.agg [.slc (rowsG gr)]) 0), .t (I (i : Nat)), .hsl 0 none] [.tre shI (marksT (x :: rest))] = _
   rw [r28]
   refine step_b (e n (by omega)) (step_t rfl (step_t (by simp) (step_b (by rw [show Tree.toInt (I (r : Nat)) = ((r : Nat) : Int) from rfl, Int.toNat_natCast]; exact nth_rowsG h1) (step_t rfl (step_t rfl ?_)))))
   exact h n n (by omega) (by omega)
  ·simp only [tell]
   simp only [List.nil_append, List.length_nil, Nat.zero_add] at ho
   cases hi : idx (x :: rest) r with
   | none => rw [hi] at ho; exact ho
   | some p => rw [hi] at ho; exact ho
def D28 (z : Bool) (n q : Nat) (rows : List Tree) (r j : Int) (ns : List Nat) (s1 s2 : List UInt8) (acc : List Ty) : Option (AV × Heap) :=
 match z, ns, acc with
 | false, ns, [] => L28_1 n q rows r j (marksT ns) s1 s2
 | false, ns, acc => L28_1b n q rows r j (marksT ns) s1 s2 (encTs acc)
 | true, [], [] => L28_1z n q rows r j s1 s2
 | true, [], acc => L28_1zb n q rows r j s1 s2 (encTs acc)
 | true, ns, acc => L28_1zc n q rows r j (marksT ns) s1 s2 (encTs acc)
theorem run28_nd (a : At gr i r) (h1 : gr[r]? = some ⟨none, k⟩) (hk : k ≠ .var) {ns ns' : List Nat} {y : Ty} {V : AV} {H' : Heap} {c : Nat} (h : ∀ n, c ≤ n → D28 ns.isEmpty n n (rowsG gr) (r : Nat) 0 ns [] k.name [] = some (V, H')) (ho : NOut V H' y ns') : Run28 gr i ns y ns' := by
 obtain ⟨c1, e⟩ := s54 a
 have hx : nth (rowsG gr) (Int.toNat (Tree.toInt (I (r : Nat)))) = some (encN ⟨none, k⟩) := by
  rw [show Tree.toInt (I (r : Nat)) = ((r : Nat) : Int) from rfl, Int.toNat_natCast]; exact nth_rowsG h1
 cases ns with
 | nil =>
  refine ⟨c + c1 + 1, V, H', EvH.mk fun n hn => ?_, ho⟩
  show evR (Tab.env tab) n 28 [.t (.ptr (.agg [.slc (rowsG gr)]) 0), .t (I (i : Nat)), .nilS] [] = _
  rw [r28z]
  exact step_b (e n (by omega)) (step_t rfl (step_t (by simp) (step_b hx (step_t rfl (step_f (name_ne hk) (step_t (by simp) (step_b hx (step_t rfl (h n (by omega))))))))))
 | cons x rest =>
  refine ⟨c + c1 + 1, V, H', EvH.mk fun n hn => ?_, ho⟩
  show evR (Tab.env tab) n 28 [.t (.ptr (.agg [.slc (rowsG gr)]) 0), .t (I (i : Nat)), .hsl 0 none] [.tre shI (marksT (x :: rest))] = _
  rw [r28]
  exact step_b (e n (by omega)) (step_t rfl (step_t (by simp) (step_b hx (step_t rfl (step_f (name_ne hk) (step_t (by simp) (step_b hx (step_t rfl (h n (by omega))))))))))
end
end Go.Proofs.Cw.Si
end

/-
  SIMPLE, specs 17: the type of a term, the program's.
-/
section
namespace Go.Proofs.Cw.Si
open Go.Proofs
theorem encTs_app (a b : List Ty) : encTs (a ++ b) = encTs a ++ encTs b := by simp [encTs_map]
end Go.Proofs.Cw.Si
end

/-
  THE GRAPH 7: read, its parts.
-/
section
namespace Go.Proofs.Cw.Si
open Go.Proofs
theorem ty_back (y : Ty) : (Tree.agg [.str (Tree.toStr (List.headD (Tree.cs (encT y)) (.bool false))), .slc (Tree.elems (List.headD (List.tail (Tree.cs (encT y))) (.bool false)))]) = encT y := by
 cases y; rfl
section
variable {gr : List GN} {r : Nat} {k : GK}
theorem d28_c {z : Bool} {j x c : Nat} {ns ns' : List Nat} {y : Ty} {acc : List Ty} {V : AV} {H' : Heap} {s1 s2 : List UInt8} (h1 : gr[r]? = some ⟨none, k⟩) (hj : j < k.kids.length) (hl : k.kids.length ≤ 1000) (ha : acc.length ≤ 1000) (hx : nth k.kids j = some (I (x : Nat)))
  (h : EvH E c 28 [.t (.ptr (.agg [.slc (rowsG gr)]) 0), .t (I (x : Nat)), NHa ns] (NHh ns) (V, H')) (ho : NOut V H' y ns') (hz : z = false → ns ≠ []) (hgo : ns ≠ [] → ns' ≠ []) (hacc : z = true → ns ≠ [] → acc ≠ []) :
  ∀ n q, c ≤ n → D28 z n (Nat.succ q) (rowsG gr) (r : Nat) (j : Nat) ns s1 s2 acc = D28 z n q (rowsG gr) (r : Nat) ((j + 1 : Nat) : Int) ns' s1 s2 (acc ++ [y]) := by
 intro n q hn
 have hr : nth (rowsG gr) (Int.toNat ((r : Nat) : Int)) = some (encN ⟨none, k⟩) := by rw [Int.toNat_natCast]; exact nth_rowsG h1
 have hx' : nth k.kids (Int.toNat ((j : Nat) : Int)) = some (I (x : Nat)) := by rw [Int.toNat_natCast]; exact hx
 have hw : IntKind.wrap .i64 (((j : Nat) : Int) + 1) = ((j + 1 : Nat) : Int) := by rw [w64 (by omega)]; omega
 have hjl : decide (((j : Nat) : Int) < (k.kids.length : Nat)) = true := decide_eq_true (by omega)
 have h := h n hn
 have hb : ∀ a : Ty, ∀ ac : List Ty, acc = a :: ac → (true && Nat.ble (((encTs (a :: ac)).length + 1) * 40) 140737488355328) = true := fun a ac e => by
  have : (encTs (a :: ac)).length = (a :: ac).length := by rw [encTs_map, List.length_map]
  rw [this, ← e]
  simp; omega
 have key : ∀ (ns'' : List Nat), ns' = ns'' → ns'' ≠ [] → nForm shT shI V H' = true ∧ nRow shT shI V H' = marksT ns'' := fun ns'' e hne => by
  subst e
  refine ⟨?_, ho.row hne⟩
  rw [ho.form]
  cases ns' with
  | nil => exact absurd rfl hne
  | cons _ _ => rfl
 cases z with
 | false =>
  cases ns with
  | nil => exact absurd rfl (hz rfl)
  | cons m ms =>
   have hne : ns' ≠ [] := hgo (by simp)
   obtain ⟨f1, f2⟩ := key ns' rfl hne
   cases acc with
   | nil =>
    show L28_1 n (Nat.succ q) _ _ _ _ _ _ = L28_1b n q (rowsG gr) (r : Nat) ((j + 1 : Nat) : Int) (marksT ns') s1 s2 (encTs [y])
    rw [m28_1]
    refine step_t (by simp) (step_b hr (step_t rfl (step_t hjl (step_t (by simp) (step_b hr (step_t rfl (step_t (by simp) (step_b hx' (step_t rfl (step_b h (step_t f1 ?_)))))))))))
    show L28_1b n q (rowsG gr) (r : Nat) (IntKind.wrap .i64 (((j : Nat) : Int) + 1)) (nRow shT shI V H') s1 s2 [Tree.agg [.str (Tree.toStr (List.headD (Tree.cs (nTy shT shI V H')) (.bool false))), .slc (Tree.elems (List.headD (List.tail (Tree.cs (nTy shT shI V H'))) (.bool false)))]] = _
    rw [hw, f2, ho.ty, ty_back]
    rfl
   | cons b bs =>
    show L28_1b n (Nat.succ q) _ _ _ _ _ _ _ = L28_1b n q (rowsG gr) (r : Nat) ((j + 1 : Nat) : Int) (marksT ns') s1 s2 (encTs (b :: bs ++ [y]))
    rw [m28_1b]
    refine step_t (by simp) (step_b hr (step_t rfl (step_t hjl (step_t (by simp) (step_b hr (step_t rfl (step_t (by simp) (step_b hx' (step_t rfl (step_b h (step_t f1 (step_t (hb b bs rfl) ?_))))))))))))
    show L28_1b n q (rowsG gr) (r : Nat) (IntKind.wrap .i64 (((j : Nat) : Int) + 1)) (nRow shT shI V H') s1 s2 (encTs (b :: bs) ++ [Tree.agg [.str (Tree.toStr (List.headD (Tree.cs (nTy shT shI V H')) (.bool false))), .slc (Tree.elems (List.headD (List.tail (Tree.cs (nTy shT shI V H'))) (.bool false)))]]) = _
    rw [hw, f2, ho.ty, ty_back, encTs_app]
    rfl
 | true =>
  cases ns with
  | nil =>
   cases acc with
   | nil =>
    show L28_1z n (Nat.succ q) _ _ _ _ _ = _
    rw [m28_1z]
    refine step_t (by simp) (step_b hr (step_t rfl (step_t hjl (step_t (by simp) (step_b hr (step_t rfl (step_t (by simp) (step_b hx' (step_t rfl (step_b h ?_))))))))))
    cases hns : ns' with
    | nil =>
     refine step_f (by show nForm shT shI V H' = false; rw [ho.form, hns]; rfl) (step_t (by show (nNil shT shI V H' && true) = true; rw [ho.nil, hns]; rfl) ?_)
     show L28_1zb n q (rowsG gr) (r : Nat) (IntKind.wrap .i64 (((j : Nat) : Int) + 1)) s1 s2 [Tree.agg [.str (Tree.toStr (List.headD (Tree.cs (nTy shT shI V H')) (.bool false))), .slc (Tree.elems (List.headD (List.tail (Tree.cs (nTy shT shI V H'))) (.bool false)))]] = _
     rw [hw, ho.ty, ty_back]
     rfl
    | cons a b =>
     obtain ⟨f1, f2⟩ := key (a :: b) hns (by simp)
     refine step_t f1 ?_
     show L28_1zc n q (rowsG gr) (r : Nat) (IntKind.wrap .i64 (((j : Nat) : Int) + 1)) (nRow shT shI V H') s1 s2 [Tree.agg [.str (Tree.toStr (List.headD (Tree.cs (nTy shT shI V H')) (.bool false))), .slc (Tree.elems (List.headD (List.tail (Tree.cs (nTy shT shI V H'))) (.bool false)))]] = _
     rw [hw, f2, ho.ty, ty_back]
     rfl
   | cons b bs =>
    show L28_1zb n (Nat.succ q) _ _ _ _ _ _ = _
    rw [m28_1zb]
    refine step_t (by simp) (step_b hr (step_t rfl (step_t hjl (step_t (by simp) (step_b hr (step_t rfl (step_t (by simp) (step_b hx' (step_t rfl (step_b h ?_))))))))))
    cases hns : ns' with
    | nil =>
     refine step_f (by show nForm shT shI V H' = false; rw [ho.form, hns]; rfl) (step_t (by show (nNil shT shI V H' && true) = true; rw [ho.nil, hns]; rfl) (step_t (hb b bs rfl) ?_))
     show L28_1zb n q (rowsG gr) (r : Nat) (IntKind.wrap .i64 (((j : Nat) : Int) + 1)) s1 s2 (encTs (b :: bs) ++ [Tree.agg [.str (Tree.toStr (List.headD (Tree.cs (nTy shT shI V H')) (.bool false))), .slc (Tree.elems (List.headD (List.tail (Tree.cs (nTy shT shI V H'))) (.bool false)))]]) = L28_1zb n q (rowsG gr) (r : Nat) ((j + 1 : Nat) : Int) s1 s2 (encTs (b :: bs ++ [y]))
     rw [hw, ho.ty, ty_back, encTs_app]
     rfl
    | cons a d =>
     obtain ⟨f1, f2⟩ := key (a :: d) hns (by simp)
     refine step_t f1 (step_t (hb b bs rfl) ?_)
     show L28_1zc n q (rowsG gr) (r : Nat) (IntKind.wrap .i64 (((j : Nat) : Int) + 1)) (nRow shT shI V H') s1 s2 (encTs (b :: bs) ++ [Tree.agg [.str (Tree.toStr (List.headD (Tree.cs (nTy shT shI V H')) (.bool false))), .slc (Tree.elems (List.headD (List.tail (Tree.cs (nTy shT shI V H'))) (.bool false)))]]) = L28_1zc n q (rowsG gr) (r : Nat) ((j + 1 : Nat) : Int) (marksT (a :: d)) s1 s2 (encTs (b :: bs ++ [y]))
     rw [hw, f2, ho.ty, ty_back, encTs_app]
     rfl
  | cons m ms =>
   have hne : ns' ≠ [] := hgo (by simp)
   cases acc with
   | nil => exact absurd rfl (hacc rfl (by simp))
   | cons b bs =>
    show L28_1zc n (Nat.succ q) _ _ _ _ _ _ _ = _
    rw [m28_1zc]
    refine step_t (by simp) (step_b hr (step_t rfl (step_t hjl (step_t (by simp) (step_b hr (step_t rfl (step_t (by simp) (step_b hx' (step_t rfl (step_b h ?_))))))))))
    cases hns : ns' with
    | nil => exact absurd hns hne
    | cons a d =>
     obtain ⟨f1, f2⟩ := key (a :: d) hns (by simp)
     refine step_t f1 (step_t (hb b bs rfl) ?_)
     show L28_1zc n q (rowsG gr) (r : Nat) (IntKind.wrap .i64 (((j : Nat) : Int) + 1)) (nRow shT shI V H') s1 s2 (encTs (b :: bs) ++ [Tree.agg [.str (Tree.toStr (List.headD (Tree.cs (nTy shT shI V H')) (.bool false))), .slc (Tree.elems (List.headD (List.tail (Tree.cs (nTy shT shI V H'))) (.bool false)))]]) = L28_1zc n q (rowsG gr) (r : Nat) ((j + 1 : Nat) : Int) (marksT (a :: d)) s1 s2 (encTs (b :: bs ++ [y]))
     rw [hw, f2, ho.ty, ty_back, encTs_app]
     rfl
theorem d28_e {z : Bool} {ns : List Nat} {acc : List Ty} {s1 s2 : List UInt8} (h1 : gr[r]? = some ⟨none, k⟩) (hz : z = false → ns ≠ []) (hacc : z = true → ns ≠ [] → acc ≠ []) :
  ∃ V H', NOut V H' (.mk s2 acc) ns ∧ ∀ n q, D28 z n (Nat.succ q) (rowsG gr) (r : Nat) (k.kids.length : Nat) ns s1 s2 acc = some (V, H') := by
 have hr : nth (rowsG gr) (Int.toNat ((r : Nat) : Int)) = some (encN ⟨none, k⟩) := by rw [Int.toNat_natCast]; exact nth_rowsG h1
 have hjl : decide (((k.kids.length : Nat) : Int) < (k.kids.length : Nat)) = false := decide_eq_false (by omega)
 cases z with
 | false =>
  cases ns with
  | nil => exact absurd rfl (hz rfl)
  | cons m ms =>
   cases acc with
   | nil =>
    refine ⟨_, _, nout1 (ns := m :: ms) (by simp) (o := [.mix (Sh.agg [Sh.str, Sh.slc]) [.agg [.t (.str s2), .nilS]], .mix (Sh.agg [Sh.str, Sh.slc]) [.agg [.t (.str s2), .nilS]]]), fun n q => ?_⟩
    show L28_1 n (Nat.succ q) _ _ _ _ _ _ = _
    rw [m28_1]
    exact step_t (by simp) (step_b hr (step_t rfl (step_f hjl rfl)))
   | cons b bs =>
    refine ⟨_, _, nout3 (s := s2) (ts := b :: bs) (ns := m :: ms) (by simp) (o1 := .dead) (o2 := .mix (Sh.agg [Sh.str, Sh.slc]) [.agg [.t (.str s2), .hsl 4 none]]) (o3 := .mix (Sh.agg [Sh.str, Sh.slc]) [.agg [.t (.str s2), .hsl 4 none]]), fun n q => ?_⟩
    show L28_1b n (Nat.succ q) _ _ _ _ _ _ _ = _
    rw [m28_1b]
    exact step_t (by simp) (step_b hr (step_t rfl (step_f hjl rfl)))
 | true =>
  cases ns with
  | nil =>
   cases acc with
   | nil =>
    refine ⟨_, _, nout2 (s := s2) (o := [.mix (Sh.agg [Sh.str, Sh.slc]) [.agg [.t (.str s2), .nilS]], .mix (Sh.agg [Sh.str, Sh.slc]) [.agg [.t (.str s2), .nilS]]]), fun n q => ?_⟩
    show L28_1z n (Nat.succ q) _ _ _ _ _ = _
    rw [m28_1z]
    exact step_t (by simp) (step_b hr (step_t rfl (step_f hjl rfl)))
   | cons b bs =>
    refine ⟨_, _, nout4 (s := s2) (ts := b :: bs) (o1 := .mix (Sh.agg [Sh.str, Sh.slc]) [.agg [.t (.str s2), .hsl 2 none]]) (o2 := .mix (Sh.agg [Sh.str, Sh.slc]) [.agg [.t (.str s2), .hsl 2 none]]), fun n q => ?_⟩
    show L28_1zb n (Nat.succ q) _ _ _ _ _ _ = _
    rw [m28_1zb]
    exact step_t (by simp) (step_b hr (step_t rfl (step_f hjl rfl)))
  | cons m ms =>
   cases acc with
   | nil => exact absurd rfl (hacc rfl (by simp))
   | cons b bs =>
    refine ⟨_, _, nout5 (s := s2) (ts := b :: bs) (ns := m :: ms) (by simp) (o2 := .mix (Sh.agg [Sh.str, Sh.slc]) [.agg [.t (.str s2), .hsl 3 none]]) (o3 := .mix (Sh.agg [Sh.str, Sh.slc]) [.agg [.t (.str s2), .hsl 3 none]]), fun n q => ?_⟩
    show L28_1zc n (Nat.succ q) _ _ _ _ _ _ _ = _
    rw [m28_1zc]
    exact step_t (by simp) (step_b hr (step_t rfl (step_f hjl rfl)))
end
theorem tell_ne : ∀ (t : FT) (ns : List Nat), ns ≠ [] → (tell nmI t ns).2 ≠ []
 | .var k, ns, h => by
  simp only [tell]
  cases idx ns k with
  | none => simp
  | some i => exact h
 | .nat, ns, h => h
 | .bin p a b, ns, h => tell_ne b _ (tell_ne a ns h)
theorem tell_len : ∀ (t : FT) (ns : List Nat) (v p : Nat), t.size ≤ v → 2 * ns.length + v + 1 + p ≤ 201 → 2 * (tell nmI t ns).2.length + (v - t.size) + p ≤ 201
 | .var k, ns, v, p, h, hl => by
  simp only [tell, FT.size] at h ⊢
  cases idx ns k with
  | none => simp; omega
  | some i => simp; omega
 | .nat, ns, v, p, h, hl => by simp only [tell, FT.size] at h ⊢; omega
 | .bin q a b, ns, v, p, h, hl => by
  simp only [tell, FT.size] at h ⊢
  have h1 := tell_len a ns (v - 1) (p + 1) (by omega) (by omega)
  have h2 := tell_len b (tell nmI a ns).2 (v - 1 - a.size) p (by omega) (by omega)
  rw [show v - (a.size + b.size + 1) = v - 1 - a.size - b.size by omega]
  exact h2
theorem s28 {gr : List GN} {i : Nat} {x : FT} (h : GRes gr i x) : ∀ (ns : List Nat) (v p : Nat), x.size ≤ v → 2 * ns.length + v + 1 + p ≤ 201 → Run28 gr i ns (tell nmI x ns).1 (tell nmI x ns).2 := by
 induction h with
 | @var i r a h1 =>
  intro ns v p hv hl
  have : 1 ≤ v := hv
  exact run28_var a h1 (by omega)
 | @nat i r a h1 =>
  intro ns v p hv hl
  obtain ⟨V, H', ho, he⟩ := d28_e (z := ns.isEmpty) (ns := ns) (acc := []) (s1 := []) (s2 := GK.name .nat) h1 (by cases ns <;> simp) (by cases ns <;> simp)
  refine run28_nd a h1 (by simp) (c := 1) (fun n hn => ?_) ho
  obtain ⟨n, rfl⟩ : ∃ p, n = Nat.succ p := ⟨n - 1, by omega⟩
  exact he _ _
 | @bin i r q u w x y a h1 _ _ ih1 ih2 =>
  intro ns v p hv hl
  simp only [FT.size] at hv
  have hu : nth (GK.kids (.bin q u w)) 0 = some (I (u : Nat)) := rfl
  have hw : nth (GK.kids (.bin q u w)) 1 = some (I (w : Nat)) := rfl
  obtain ⟨c1, V1, H1, e1, o1⟩ := ih1 ns (v - 1) (p + 1) (by omega) (by omega)
  have hl1 := tell_len x ns (v - 1) (p + 1) (by omega) (by omega)
  obtain ⟨c2, V2, H2, e2, o2⟩ := ih2 (tell nmI x ns).2 (v - 1 - x.size) p (by omega) (by omega)
  have hz : ns.isEmpty = false → ns ≠ [] := by cases ns <;> simp
  have hz0 : ns.isEmpty = true → ns ≠ [] → False := by cases ns <;> simp
  obtain ⟨V, H', ho, he⟩ := d28_e (z := ns.isEmpty) (ns := (tell nmI y (tell nmI x ns).2).2) (acc := [(tell nmI x ns).1, (tell nmI y (tell nmI x ns).2).1]) (s1 := []) (s2 := GK.name (.bin q u w)) h1 (fun h => tell_ne _ _ (tell_ne _ _ (hz h))) (by simp)
  refine run28_nd a h1 (by simp) (c := c1 + c2 + 3) (fun n hn => ?_) ho
  obtain ⟨q', hq⟩ : ∃ p, n = Nat.succ (Nat.succ (Nat.succ p)) := ⟨n - 3, by omega⟩
  have t1 := d28_c (z := ns.isEmpty) (j := 0) (acc := []) (s1 := []) (s2 := GK.name (.bin q u w)) h1 (by simp [GK.kids]) (by simp [GK.kids]) (by simp) hu e1 o1 hz (tell_ne _ _) (fun a b => (hz0 a b).elim) n (Nat.succ (Nat.succ q')) (by omega)
  have t2 := d28_c (z := ns.isEmpty) (j := 0 + 1) (acc := [] ++ [(tell nmI x ns).1]) (s1 := []) (s2 := GK.name (.bin q u w)) h1 (by simp [GK.kids]) (by simp [GK.kids]) (by simp) hw e2 o2 (fun h => tell_ne _ _ (hz h)) (tell_ne _ _) (by simp) n (Nat.succ q') (by omega)
  have t3 := he n q'
  rw [← hq] at t1
  exact t1.trans (t2.trans t3)
end Go.Proofs.Cw.Si
end

/-
  THE GRAPH 13: the reference's Infer.
-/
section
namespace Go.Proofs.Cw.Si
open Go.Proofs
def L7 (b : Bool) (n q : Nat) (j : Int) (cap : Nat) (i : Int) (gr : List GN) (m : List Nat) : Option Tree :=
 match b with
 | false => L7_0 n q j cap i [] (rowsG gr) (marksT m)
 | true => L7_0b n q j cap i [] (rowsG gr) (marksT m)
section
variable {gr : List GN} {j cap i c : Nat} {m m' : List Nat} {b : Bool}
theorem l7_f (hi : i < gr.length) (h : EvH E c 26 [.t (.ptr (.agg [.slc (rowsG gr)]) 0), .t (I (i : Nat)), .hsl 0 (some cap)] [.tre (.int .i64) (marksT m)] (.t (.bool false), [.tre (.int .i64) (marksT m')])) :
  ∀ n q, c ≤ n → L7 b n (Nat.succ q) (j : Nat) cap (i : Nat) gr m = some (.tup [encT tyZero, I 250]) := by
 intro n q hn
 cases b with
 | false =>
  show L7_0 n (Nat.succ q) _ _ _ _ _ _ = _
  rw [l7_0]
  exact step_t (by rw [rowsG_len]; simp; omega) (step_b (h n hn) (step_t rfl (step_t rfl rfl)))
 | true =>
  show L7_0b n (Nat.succ q) _ _ _ _ _ _ = _
  rw [l7_0b]
  exact step_t (by rw [rowsG_len]; simp; omega) (step_b (h n hn) (step_t rfl (step_t rfl rfl)))
theorem l7_t (hi : i < gr.length) (hl : gr.length ≤ 100000) (h : EvH E c 26 [.t (.ptr (.agg [.slc (rowsG gr)]) 0), .t (I (i : Nat)), .hsl 0 (some cap)] [.tre (.int .i64) (marksT m)] (.t (.bool true), [.tre (.int .i64) (marksT m')])) :
  ∀ n q, c ≤ n → L7 b n (Nat.succ q) (j : Nat) cap (i : Nat) gr m = L7 true n q (j : Nat) cap ((i + 1 : Nat) : Int) gr m' := by
 intro n q hn
 have hw : IntKind.wrap .i64 (((i : Nat) : Int) + 1) = ((i + 1 : Nat) : Int) := by rw [w64 (by omega)]; omega
 cases b with
 | false =>
  show L7_0 n (Nat.succ q) _ _ _ _ _ _ = L7_0b n q _ _ _ _ _ _
  rw [l7_0]
  refine step_t (by rw [rowsG_len]; simp; omega) (step_b (h n hn) (step_t rfl (step_f rfl ?_)))
  show L7_0b n q (j : Nat) cap (IntKind.wrap .i64 (((i : Nat) : Int) + 1)) [] (rowsG gr) (marksT m') = _
  rw [hw]
 | true =>
  show L7_0b n (Nat.succ q) _ _ _ _ _ _ = L7_0b n q _ _ _ _ _ _
  rw [l7_0b]
  refine step_t (by rw [rowsG_len]; simp; omega) (step_b (h n hn) (step_t rfl (step_f rfl ?_)))
  show L7_0b n q (j : Nat) cap (IntKind.wrap .i64 (((i : Nat) : Int) + 1)) [] (rowsG gr) (marksT m') = _
  rw [hw]
theorem l7_e {τ : FT} (hr : GRes gr j τ) : ∃ c, ∀ n q, c ≤ n → L7 b n (Nat.succ q) (j : Nat) cap (gr.length : Nat) gr m = some (.tup [encT (outI (some τ)).1, I (outI (some τ)).2]) := by
 obtain ⟨c1, e1⟩ := s27 hr 200 (by omega)
 by_cases hs : τ.size ≤ 200
 ·obtain ⟨c2, V, H', e2, o2⟩ := s28 hr [] τ.size 0 (Nat.le_refl _) (by simp; omega)
  have ho : outI (some τ) = ((tell nmI τ []).1, 0) := by simp only [outI]; rw [if_pos hs]
  rw [ho]
  have hmin : min τ.size (200 + 1) = τ.size := by omega
  rw [hmin] at e1
  have fin : ∀ n, c2 ≤ n → (Option.bind (runFn (Tab.env tab) n 28 [AV.t (Tree.ptr (Tree.agg [Tree.slc (rowsG gr)]) 0), AV.t (I (j : Nat)), AV.nilS] []) fun y =>
      bif nForm (Sh.agg [Sh.str, Sh.slc]) (Sh.int IntKind.i64) (Prod.fst y) (Prod.snd y) then
       some
        (Tree.tup
         [Tree.agg
           [Tree.str
             (Tree.toStr (List.headD (Tree.cs (nTy (Sh.agg [Sh.str, Sh.slc]) (Sh.int IntKind.i64) (Prod.fst y) (Prod.snd y))) (Tree.bool false))),
            Tree.slc
             (Tree.elems
              (List.headD (List.tail (Tree.cs (nTy (Sh.agg [Sh.str, Sh.slc]) (Sh.int IntKind.i64) (Prod.fst y) (Prod.snd y)))) (Tree.bool false)))],
          Tree.int IntKind.i64 0])
      else
       bif nNil (Sh.agg [Sh.str, Sh.slc]) (Sh.int IntKind.i64) (Prod.fst y) (Prod.snd y) && true then
        some
         (Tree.tup
          [Tree.agg
            [Tree.str
              (Tree.toStr (List.headD (Tree.cs (nTy (Sh.agg [Sh.str, Sh.slc]) (Sh.int IntKind.i64) (Prod.fst y) (Prod.snd y))) (Tree.bool false))),
             Tree.slc
              (Tree.elems
               (List.headD (List.tail (Tree.cs (nTy (Sh.agg [Sh.str, Sh.slc]) (Sh.int IntKind.i64) (Prod.fst y) (Prod.snd y))))
                (Tree.bool false)))],
           Tree.int IntKind.i64 0])
       else none) = some (.tup [encT (tell nmI τ []).1, I 0]) := by
   intro n hn
   refine step_b (e2 n hn) ?_
   cases hns : (tell nmI τ []).2.isEmpty with
   | false =>
    refine step_t (by show nForm shT shI V H' = true; rw [o2.form, hns]; rfl) ?_
    show some (Tree.tup [Tree.agg [.str (Tree.toStr (List.headD (Tree.cs (nTy shT shI V H')) (.bool false))), .slc (Tree.elems (List.headD (List.tail (Tree.cs (nTy shT shI V H'))) (.bool false)))], I 0]) = _
    rw [o2.ty, ty_back]
   | true =>
    refine step_f (by show nForm shT shI V H' = false; rw [o2.form, hns]; rfl) (step_t (by show (nNil shT shI V H' && true) = true; rw [o2.nil, hns]; rfl) ?_)
    show some (Tree.tup [Tree.agg [.str (Tree.toStr (List.headD (Tree.cs (nTy shT shI V H')) (.bool false))), .slc (Tree.elems (List.headD (List.tail (Tree.cs (nTy shT shI V H'))) (.bool false)))], I 0]) = _
    rw [o2.ty, ty_back]
  refine ⟨c1 + c2, fun n q hn => ?_⟩
  cases b with
  | false =>
   show L7_0 n (Nat.succ q) _ _ _ _ _ _ = _
   rw [l7_0]
   exact step_f (by rw [rowsG_len]; simp) (step_b (e1 n (by omega)) (step_t rfl (step_f (decide_eq_false (show ¬ ((τ.size : Nat) : Int) > 200 by omega)) (fin n (by omega)))))
  | true =>
   show L7_0b n (Nat.succ q) _ _ _ _ _ _ = _
   rw [l7_0b]
   exact step_f (by rw [rowsG_len]; simp) (step_b (e1 n (by omega)) (step_t rfl (step_f (decide_eq_false (show ¬ ((τ.size : Nat) : Int) > 200 by omega)) (fin n (by omega)))))
 ·have ho : outI (some τ) = (tyZero, 2) := by simp only [outI]; rw [if_neg hs]
  rw [ho]
  have hmin : min τ.size (200 + 1) = 201 := by omega
  rw [hmin] at e1
  refine ⟨c1, fun n q hn => ?_⟩
  cases b with
  | false =>
   show L7_0 n (Nat.succ q) _ _ _ _ _ _ = _
   rw [l7_0]
   exact step_f (by rw [rowsG_len]; simp) (step_b (e1 n hn) (step_t rfl (step_t rfl rfl)))
  | true =>
   show L7_0b n (Nat.succ q) _ _ _ _ _ _ = _
   rw [l7_0b]
   exact step_f (by rw [rowsG_len]; simp) (step_b (e1 n hn) (step_t rfl (step_t rfl rfl)))
end
theorem l7_all {gr : List GN} (g : Gok gr) (hl : gr.length ≤ 100000) {j cap : Nat} (hj : j < gr.length) : ∀ (d i : Nat) (m : List Nat) (b : Bool), gr.length - i = d → i ≤ gr.length → Mk gr m → (∀ x : Nat, m[x]? ≠ some 1) → (∀ x, x < i → ∃ y, GRes gr x y) →
  ∃ c, ((∀ θ, ¬ GS gr θ) ∧ ∀ n q, c ≤ n → c ≤ q → L7 b n q (j : Nat) cap (i : Nat) gr m = some (.tup [encT tyZero, I 250])) ∨
   ((∀ x, x < gr.length → ∃ y, GRes gr x y) ∧ ∃ τ, GRes gr j τ ∧ ∀ n q, c ≤ n → c ≤ q → L7 b n q (j : Nat) cap (i : Nat) gr m = some (.tup [encT (outI (some τ)).1, I (outI (some τ)).2])) := by
 intro d
 induction d with
 | zero =>
  intro i m b hd hi mk no fin
  have e : i = gr.length := by omega
  subst e
  obtain ⟨τ, hr⟩ := fin j hj
  obtain ⟨c, h⟩ := l7_e (cap := cap) (m := m) (b := b) hr
  refine ⟨c + 1, .inr ⟨fin, τ, hr, fun n q h1 h2 => ?_⟩⟩
  obtain ⟨q, rfl⟩ : ∃ p, q = Nat.succ p := ⟨q - 1, by omega⟩
  exact h n q (by omega)
 | succ d ih =>
  intro i m b hd hi mk no fin
  obtain ⟨c1, v, m', e, o⟩ := s26 g cap (zeros m + 1) (i := i) (m := m) (by omega) mk (by omega) (fun θ sol j hj => absurd hj (no j))
  rcases o with ⟨rfl, nos⟩ | ⟨rfl, go, x, hx⟩
  ·refine ⟨c1 + 1, .inl ⟨nos, fun n q h1 h2 => ?_⟩⟩
   obtain ⟨q, rfl⟩ : ∃ p, q = Nat.succ p := ⟨q - 1, by omega⟩
   exact l7_f (by omega) e n q (by omega)
  ·obtain ⟨c2, h⟩ := ih (i + 1) m' true (by omega) (by omega) go.ok (fun x hx => no x ((go.one x).1 hx)) (fun y hy => by
    by_cases e : y = i
    ·rw [e]; exact ⟨x, hx⟩
    ·exact fin y (by omega))
   have step : ∀ n q, c1 + c2 + 1 ≤ n → c1 + c2 + 1 ≤ q → ∃ p, c2 ≤ p ∧ L7 b n q (j : Nat) cap (i : Nat) gr m = L7 true n p (j : Nat) cap ((i + 1 : Nat) : Int) gr m' := fun n q h1 h2 => by
    obtain ⟨q, rfl⟩ : ∃ p, q = Nat.succ p := ⟨q - 1, by omega⟩
    exact ⟨q, by omega, l7_t (by omega) hl e n q (by omega)⟩
   rcases h with ⟨nos, h⟩ | ⟨all, τ, hτ, h⟩
   ·refine ⟨c1 + c2 + 1, .inl ⟨nos, fun n q h1 h2 => ?_⟩⟩
    obtain ⟨p, hp, e⟩ := step n q h1 h2
    rw [e]; exact h n p (by omega) hp
   ·refine ⟨c1 + c2 + 1, .inr ⟨all, τ, hτ, fun n q h1 h2 => ?_⟩⟩
    obtain ⟨p, hp, e⟩ := step n q h1 h2
    rw [e]; exact h n p (by omega) hp
theorem Gok.nil : Gok [] where
 to i j k h := by simp at h
 kid i t p a b h := by simp at h
 at_ i h := by simp at h
theorem replicate_marks (n : Nat) : List.replicate n (I 0) = marksT (List.replicate n 0) := by
 rw [marksT, List.map_replicate]; rfl
theorem s7_no {t : Lam} (ht : wL t ≤ 500000000000) (h : inOk t = false) : ∃ c, Ev E c 7 [encL t] (.tup [encT tyZero, I 4]) := by
 refine ⟨4 * wL t + 6 + 1, Ev.mk fun n hn => ?_⟩
 have hw := wL_dress t
 have h21 := s21 t ht n (by omega)
 have h23 := s23 t ht n (by omega)
 have h22 := s22 (dressL t) (by omega) n (by omega)
 have h24 := s24 t 0 ht (by omega) n (by omega)
 rw [encL_eta] at h21 h23 h22 h24 ⊢
 rw [encL_eta (dressL t)] at h23
 rw [e7]
 refine step_b h21 (step_t rfl ?_)
 unfold inOk at h
 cases he : erL t with
 | false => exact step_t rfl rfl
 | true =>
  rw [he, Bool.true_and] at h
  refine step_f rfl (step_b h23 (step_t rfl (step_b h22 (step_t rfl ?_))))
  cases hv : validL (dressL t) with
  | false => exact step_t rfl rfl
  | true =>
   rw [hv, Bool.true_and] at h
   have hsh : shaped (dressL t) = true := by
    unfold validL at hv
    simp only [Bool.and_eq_true] at hv
    exact hv.2
   refine step_f rfl (step_b h24 (step_t rfl ?_))
   show (bif !closR ((0 : Nat) : Int) t then _ else _) = _
   rw [clos_same t _ hsh, show closL ((0 : Nat) : Int) t = false from h]
   rfl
theorem s7 {t : Lam} (ht : wL t ≤ 500000000000) (h : inOk t = true) : ∃ r, Most t r ∧ ∃ c, Ev E c 7 [encL t] (.tup [encT (outI r).1, I (outI r).2]) := by
 obtain ⟨hsh, hsz⟩ := inOk_iff h
 obtain ⟨c, v, u, H1, gr, e, o1, hc⟩ := s25 t [] hsh (by simp; omega) [] Gok.nil (fun i hi => by simp at hi) (by simp; omega)
 have hw := wL_dress t
 unfold inOk at h
 simp only [Bool.and_eq_true] at h
 have hshp : shaped (dressL t) = true := by
  have := h.2.1
  unfold validL at this
  simp only [Bool.and_eq_true] at this
  exact this.2
 have step : ∀ n, 4 * wL t + 6 ≤ n → ∀ R, Option.bind (runFn (Tab.env tab) n 25 [AV.href 0 0 0, AV.t (Tree.slc []), AV.t (encL t)] zHeap) (fun y =>
   bif true && (isT (Sh.tup [Sh.int IntKind.i64, Sh.bool]) (Prod.fst y) && gForm (Sh.agg [Sh.slc]) (Sh.agg [Sh.int IntKind.i64, Sh.str, Sh.slc]) (Prod.snd y)) then
    bif !Tree.toBool (List.headD (List.tail (Tree.tupl (avT (Prod.fst y)))) (Tree.bool false)) then
     some (Tree.tup [Tree.agg [Tree.str [], Tree.slc []], Tree.int IntKind.i64 250])
    else
     bif
       true &&
        (decide ((↑(List.length (gRow (Prod.snd y))) : Int) ≤ (↑(List.length (gRow (Prod.snd y))) : Int)) &&
          decide ((↑(List.length (gRow (Prod.snd y))) : Int) * (↑8 : Int) ≤ 140737488355328) &&
         decide ((↑(List.length (gRow (Prod.snd y))) : Int) ≤ 140737488355328)) then
      L7_0 n n (Tree.toInt (List.headD (Tree.tupl (avT (Prod.fst y))) (Tree.bool false))) (Int.toNat (↑(List.length (gRow (Prod.snd y))) : Int)) 0 [] (gRow (Prod.snd y)) (List.replicate (Int.toNat (↑(List.length (gRow (Prod.snd y))) : Int)) (Tree.int IntKind.i64 0))
     else none
   else none) = R → evQ (Tab.env tab) n 7 [encL t] = R := by
  intro n hn R hR
  have h21 := s21 t ht n (by omega)
  have h23 := s23 t ht n (by omega)
  have h22 := s22 (dressL t) (by omega) n (by omega)
  have h24 := s24 t 0 ht (by omega) n (by omega)
  rw [h.1] at h21
  rw [clos_same t _ hshp, show closL ((0 : Nat) : Int) t = true from h.2.2] at h24
  rw [h.2.1] at h22
  rw [encL_eta] at h21 h23 h22 h24 hR ⊢
  rw [encL_eta (dressL t)] at h23
  rw [e7]
  exact step_b h21 (step_t rfl (step_f rfl (step_b h23 (step_t rfl (step_b h22 (step_t rfl (step_f rfl (step_b h24 (step_t rfl (step_f rfl hR))))))))))
 rcases hc with ⟨rfl, no⟩ | ⟨rfl, j, rfl, a⟩
 ·refine ⟨none, fun τ hh => no .var [τ] (fun i g hg => by simp at hg) (.cons hh .nil), c + (4 * wL t + 6) + 1, Ev.mk fun n hn => step n (by omega) _ ?_⟩
  exact step_b (e n (by omega)) (step_t (formI o1) (step_t rfl rfl))
 ·have hj := a.kn j (by simp)
  have hgl := a.hi
  simp only [sizeLs, List.length_nil] at hgl
  have mk0 : Mk gr (List.replicate gr.length 0) := ⟨by simp, fun x y hy => by
   rw [List.getElem?_replicate] at hy
   split at hy <;> cases hy
   omega, fun x hx => by
   rw [List.getElem?_replicate] at hx
   split at hx <;> cases hx⟩
  have no0 : ∀ x : Nat, (List.replicate gr.length 0)[x]? ≠ some 1 := fun x hx => by
   rw [List.getElem?_replicate] at hx
   split at hx <;> cases hx
  obtain ⟨c2, hh⟩ := l7_all a.ok (by omega) (j := j) (cap := gr.length) hj gr.length 0 (List.replicate gr.length 0) false (by omega) (by omega) mk0 no0 (fun x hx => by omega)
  have go : ∀ n, c + c2 + (4 * wL t + 6) ≤ n → ∀ R, L7 false n n (j : Nat) gr.length ((0 : Nat) : Int) gr (List.replicate gr.length 0) = R → evQ (Tab.env tab) n 7 [encL t] = R := by
   intro n hn R hR
   refine step n (by omega) _ (step_b (e n (by omega)) (step_t (formI o1) (step_f rfl (step_t ?_ ?_))))
   ·show (true && (decide (((gRow H1).length : Int) ≤ ((gRow H1).length : Int)) && decide (((gRow H1).length : Int) * ((8 : Nat) : Int) ≤ 140737488355328) && decide (((gRow H1).length : Int) ≤ 140737488355328))) = true
    rw [o1.row, rowsG_len]
    simp; omega
   ·show L7_0 n n (j : Nat) (Int.toNat ((gRow H1).length : Int)) 0 [] (gRow H1) (List.replicate (Int.toNat ((gRow H1).length : Int)) (I 0)) = R
    rw [o1.row, rowsG_len, Int.toNat_natCast, replicate_marks]
    exact hR
  rcases hh with ⟨nos, hl7⟩ | ⟨all, τ, hτ, hl7⟩
  ·refine ⟨none, fun τ hh => ?_, c + c2 + (4 * wL t + 6) + 1, Ev.mk fun n hn => go n (by omega) _ (hl7 n n (by omega) (by omega))⟩
   obtain ⟨θ', _, s, _⟩ := a.full .var [τ] (fun i g hg => by simp at hg) (.cons hh .nil)
   exact nos θ' s
  ·refine ⟨some τ, fun σ => ⟨fun hh => ?_, ?_⟩, c + c2 + (4 * wL t + 6) + 1, Ev.mk fun n hn => go n (by omega) _ (hl7 n n (by omega) (by omega))⟩
   ·obtain ⟨θ', _, s, v⟩ := a.full .var [σ] (fun i g hg => by simp at hg) (.cons hh .nil)
    simp only [List.map_cons, List.map_nil, List.cons.injEq, and_true] at v
    exact ⟨θ', by rw [← v, hτ.val s]⟩
   ·rintro ⟨ρ, rfl⟩
    obtain ⟨θ, s, hv⟩ := GS.of all ρ
    obtain ⟨_, hl⟩ := a.sound θ s
    simp only [List.map_cons, List.map_nil] at hl
    rw [hv j τ hτ] at hl
    cases hl with
    | cons h1 _ => exact h1
theorem i7 {t : Lam} (ht : wL t ≤ 500000000000) : ∃ c r, InferSays t r ∧ Ev E c 7 [encL t] (.tup [encT r.1, I r.2]) := by
 cases h : inOk t with
 | false =>
  obtain ⟨c, e⟩ := s7_no ht h
  exact ⟨c, (tyZero, 4), .inl ⟨h, rfl⟩, e⟩
 | true =>
  obtain ⟨o, mo, c, e⟩ := s7 ht h
  exact ⟨c, outI o, .inr ⟨h, o, mo, rfl⟩, e⟩
end Go.Proofs.Cw.Si
end

/-
  EQUATIONS of the laws: printed by program.
-/
section
set_option maxRecDepth 100000
namespace Go.Proofs.Cw.Si
open Go.Proofs

theorem e3 (n : Nat) (a00 a01 : Int) (a02 : List UInt8) (a03 a04 : List Tree) : evQ eQ n 3 [Tree.agg [q4 a00, q4 a01, Tree.str a02, Tree.slc a03, Tree.slc a04]] =
 Option.bind (evP eQ n 5 [Tree.slc [Tree.agg [q4 a00, q4 a01, Tree.str a02, Tree.slc a03, Tree.slc a04]]]) fun y => bif Sh.ok Sh.bool y then bif Tree.toBool y then some
 (Tree.bool true) else Option.bind (evP eQ n 6 [Tree.agg [q4 a00, q4 a01, Tree.str a02, Tree.slc a03, Tree.slc a04]]) fun y => bif Sh.ok (Sh.tup [q2, Sh.int IntKind.i64])
 y then Option.bind (evP eQ n 7 [Tree.agg [q4 a00, q4 a01, Tree.str a02, Tree.slc a03, Tree.slc a04]]) fun y_1 => bif Sh.ok (Sh.tup [q2, Sh.int IntKind.i64]) y_1 then bif
 Tree.toInt (List.headD (List.tail (Tree.tupl y)) (Tree.bool false)) == Tree.toInt (List.headD (List.tail (Tree.tupl y_1)) (Tree.bool false)) then Option.bind (evP eQ n 8
 [Tree.agg [Tree.str (Tree.toStr (List.headD (Tree.cs (List.headD (Tree.tupl y) (Tree.bool false))) (Tree.bool false))), Tree.slc (Tree.elems (List.headD (List.tail
 (Tree.cs (List.headD (Tree.tupl y) (Tree.bool false)))) (Tree.bool false)))], Tree.agg [Tree.str (Tree.toStr (List.headD (Tree.cs (List.headD (Tree.tupl y_1) (Tree.bool
 false))) (Tree.bool false))), Tree.slc (Tree.elems (List.headD (List.tail (Tree.cs (List.headD (Tree.tupl y_1) (Tree.bool false)))) (Tree.bool false)))]]) fun y => bif
 Sh.ok Sh.bool y then bif Tree.toBool y then Option.bind (evP eQ n 9 []) fun y => bif Sh.ok Sh.bool y then some (Tree.bool (Tree.toBool y)) else none else some (Tree.bool
 false) else none else some (Tree.bool false) else none else none else none := by kernel_rfl


end Go.Proofs.Cw.Si
end

/-
  SIMPLE: the small run at the end of each law.
-/
section
namespace Go.Proofs.Cw.Si
open Go.Proofs
theorem s9 : Ev E 40 9 [] (.bool true) := by
 intro n hn
 obtain ⟨m, rfl⟩ : ∃ m, n = m + 40 := ⟨n - 40, by omega⟩
 show evP (Tab.env tab) (m + 40) 9 [] = some (.bool true)
 kernel_rfl
end Go.Proofs.Cw.Si
end

/-
  SIMPLEINFERS: the law's own function.
-/
section
namespace Go.Proofs.Cw.Si
open Go.Proofs
theorem sizeT_tell : ∀ (t : FT) (ns : List Nat), sizeT (tell nmI t ns).1 = t.size
 | .var k, ns => by
  simp only [tell]
  cases idx ns k <;> rfl
 | .nat, ns => rfl
 | .bin p a b, ns => by
  have h1 := sizeT_tell a ns
  have h2 := sizeT_tell b (tell nmI a ns).2
  simp only [tell, FT.size, sizeT, sizeTs]
  omega
theorem InferSays.small {t : Lam} {r : Ty × Int} (h : InferSays t r) : sizeT r.1 ≤ 200 := by
 rcases h with ⟨_, rfl⟩ | ⟨_, o, _, rfl⟩
 ·decide
 ·cases o with
  | none => decide
  | some τ =>
   simp only [outI]
   split
   ·rename_i h
    rw [sizeT_tell]; exact h
   ·decide
theorem simpleInfers {t : Lam} (hw : wL t ≤ 50000000) : ∃ c, Ev E c 3 [encL t] (.bool true) := by
 obtain ⟨c5, b, h5, _⟩ := s5 [t] (by simpa [wLs] using hw)
 obtain ⟨c6, r, hr, h6⟩ := i6 (t := t) (by omega)
 obtain ⟨c7, s, hs, h7⟩ := i7 (t := t) (by omega)
 obtain rfl := hr.same hs
 have h8 := s8 r.1 r.1 (by have := hr.small; omega)
 have hq : eqT r.1 r.1 = true := (eqT_iff _ _).2 rfl
 rw [hq] at h8
 have h9 := s9
 refine ⟨c5 + c6 + c7 + (2 * sizeT r.1 + 2) + 40 + 1, Ev.mk fun n hn => ?_⟩
 have h5 := h5 n (by omega)
 have h6 := h6 n (by omega)
 have h7 := h7 n (by omega)
 have h8 := h8 n (by omega)
 have h9 := h9 n (by omega)
 rw [encLs, encLs] at h5
 rw [encL_eta] at h5 h6 h7 ⊢
 obtain ⟨⟨sy, ly⟩, e⟩ := r
 rw [e3]
 refine step_b h5 (step_t rfl ?_)
 cases b with
 | true => rfl
 | false =>
  refine step_f rfl (step_b h6 (step_t ?_ (step_b h7 (step_t ?_ (step_t (beq_self_eq_true _) (step_b h8 (step_t rfl (step_t rfl (step_b h9 rfl)))))))))
  ·simp [encT]
  ·simp [encT]
end Go.Proofs.Cw.Si
end

/-
  SIMPLE: well-typed trees of the types Lam and Ty are trees of terms and types.
-/
section
namespace Go.Proofs.Cw.Si
open Go.Proofs
structure Types (P : Program) (tL tLs tT tTs tI tS : TypeId) : Prop where
 uL : ∃ f1 f2 f3 f4 : Field, P.underlying tL = some (.struct #[f1, f2, f3, f4]) ∧ f1.type = tI ∧ f2.type = tI ∧ f3.type = tT ∧ f4.type = tLs ∧ f1.offset = 0 ∧ f2.offset = 1 ∧ f3.offset = 2 ∧ f4.offset = 4
 uLs : P.underlying tLs = some (.slice tL)
 uT : ∃ f1 f2 : Field, P.underlying tT = some (.struct #[f1, f2]) ∧ f1.type = tS ∧ f2.type = tTs ∧ f1.offset = 0 ∧ f2.offset = 1
 uTs : P.underlying tTs = some (.slice tT)
 uI : P.underlying tI = some (.int .i64)
 uS : P.underlying tS = some .string
 cL : P.cellsOf tL = 5
 cLs : P.cellsOf tLs = 1
 cT : P.cellsOf tT = 2
 cTs : P.cellsOf tTs = 1
 cI : P.cellsOf tI = 1
 cS : P.cellsOf tS = 1
 aL : tyAgg P tL = some true
 aT : tyAgg P tT = some true
 aLs : tyAgg P tLs = some false
 aTs : tyAgg P tTs = some false
mutual
def okT : Ty → Prop
 | .mk s l => s.length ≤ reachBytes ∧ l.length ≤ maxLen ∧ okTs l
def okTs : List Ty → Prop
 | [] => True
 | t :: r => okT t ∧ okTs r
end
mutual
def okL : Lam → Prop
 | .mk o n t l => fits .i64 o ∧ fits .i64 n ∧ okT t ∧ l.length ≤ maxLen ∧ okLs l
def okLs : List Lam → Prop
 | [] => True
 | t :: r => okL t ∧ okLs r
end
def cellsT (t : Ty) : List Tree := [.str t.name, .slc (encTs t.parts)]
def cellsL (t : Lam) : List Tree := [.int .i64 t.op, .int .i64 t.num, .str t.ty.name, .slc (encTs t.ty.parts), .slc (encLs t.parts)]
theorem encT_cells (t : Ty) : encT t = .agg (cellsT t) := by cases t; rfl
theorem encL_cells (t : Lam) : encL t = .agg (cellsL t) := by
 cases t with
 | mk o n t l => cases t; rfl
def Is (tL tLs tT tTs tI tS : TypeId) (t : TypeId) (cs : List Tree) : Prop :=
 (t = tL → ∃ l, cs = cellsL l ∧ okL l) ∧ (t = tLs → ∃ ls, cs = [.slc (encLs ls)] ∧ okLs ls ∧ ls.length ≤ maxLen) ∧
 (t = tT → ∃ l, cs = cellsT l ∧ okT l) ∧ (t = tTs → ∃ ls, cs = [.slc (encTs ls)] ∧ okTs ls ∧ ls.length ≤ maxLen)
theorem lams_of {P : Program} {tL tLs tT tTs tI tS : TypeId} (T : Types P tL tLs tT tTs tI tS) : ∀ {es : List Tree}, (∀ x, x ∈ es → x.fl = true ∧ x = mkTree P tL x.cells) → (∀ x, x ∈ es → Is tL tLs tT tTs tI tS tL x.cells) → ∃ ls, es = encLs ls ∧ okLs ls
 | [], _, _ => ⟨[], rfl, trivial⟩
 | x :: es, h1, h2 => by
  obtain ⟨l, hl, ol⟩ := (h2 x (by simp)).1 rfl
  obtain ⟨ls, hs, os⟩ := lams_of T (es := es) (fun y hy => h1 y (by simp [hy])) (fun y hy => h2 y (by simp [hy]))
  have e := (h1 x (by simp)).2
  rw [hl] at e
  simp only [mkTree, T.aL] at e
  exact ⟨l :: ls, by rw [encLs, ← hs, encL_cells, ← e], ol, os⟩
theorem tys_of {P : Program} {tL tLs tT tTs tI tS : TypeId} (T : Types P tL tLs tT tTs tI tS) : ∀ {es : List Tree}, (∀ x, x ∈ es → x.fl = true ∧ x = mkTree P tT x.cells) → (∀ x, x ∈ es → Is tL tLs tT tTs tI tS tT x.cells) → ∃ ls, es = encTs ls ∧ okTs ls
 | [], _, _ => ⟨[], rfl, trivial⟩
 | x :: es, h1, h2 => by
  obtain ⟨l, hl, ol⟩ := (h2 x (by simp)).2.2.1 rfl
  obtain ⟨ls, hs, os⟩ := tys_of T (es := es) (fun y hy => h1 y (by simp [hy])) (fun y hy => h2 y (by simp [hy]))
  have e := (h1 x (by simp)).2
  rw [hl] at e
  simp only [mkTree, T.aT] at e
  exact ⟨l :: ls, by rw [encTs, ← hs, encT_cells, ← e], ol, os⟩
theorem is_of {P : Program} {tL tLs tT tTs tI tS : TypeId} (T : Types P tL tLs tT tTs tI tS) {t : TypeId} {cs : List Tree} (h : TV P t cs) : Is tL tLs tT tTs tI tS t cs := by
 obtain ⟨f1, f2, f3, f4, uL, e1, e2, e3, e4, o1, o2, o3, o4⟩ := T.uL
 obtain ⟨g1, g2, uT, k1, k2, p1, p2⟩ := T.uT
 have uLs := T.uLs
 have uTs := T.uTs
 induction h with
 | bool t b h => refine ⟨?_, ?_, ?_, ?_⟩ <;> rintro rfl <;> simp_all
 | int t k n h hw => refine ⟨?_, ?_, ?_, ?_⟩ <;> rintro rfl <;> simp_all
 | str t s h hl => refine ⟨?_, ?_, ?_, ?_⟩ <;> rintro rfl <;> simp_all
 | array t n e cs h hl hf ih => refine ⟨?_, ?_, ?_, ?_⟩ <;> rintro rfl <;> simp_all
 | slc t e es h hl hm h1 h2 ih =>
  refine ⟨?_, ?_, ?_, ?_⟩
  ·rintro rfl; rw [uL] at h; simp at h
  ·rintro rfl
   rw [uLs] at h
   simp only [Option.some.injEq, TypeDesc.slice.injEq] at h
   subst h
   obtain ⟨ls, hs, os⟩ := lams_of T h1 ih
   subst hs
   exact ⟨ls, rfl, os, by simpa [encLs_map] using hm⟩
  ·rintro rfl; rw [uT] at h; simp at h
  ·rintro rfl
   rw [uTs] at h
   simp only [Option.some.injEq, TypeDesc.slice.injEq] at h
   subst h
   obtain ⟨ls, hs, os⟩ := tys_of T h1 ih
   subst hs
   exact ⟨ls, rfl, os, by simpa [encTs_map] using hm⟩
 | struct t fs cs h hl hf ih =>
  refine ⟨?_, ?_, ?_, ?_⟩
  ·rintro rfl
   rw [uL] at h
   simp only [Option.some.injEq, TypeDesc.struct.injEq] at h
   subst h
   rw [T.cL] at hl
   match cs, hl with
   | [c0, c1, c2, c3, c4], _ =>
    have a1 := hf f1 (by simp)
    have a2 := hf f2 (by simp)
    have a3 := ih f3 (by simp)
    have a4 := ih f4 (by simp)
    rw [e1, o1, T.cI] at a1
    rw [e2, o2, T.cI] at a2
    rw [e3, o3, T.cT] at a3
    rw [e4, o4, T.cLs] at a4
    obtain ⟨o, ho, fo⟩ := a1.isInt T.uI
    obtain ⟨n, hn, fn⟩ := a2.isInt T.uI
    obtain ⟨ty, ht, ot⟩ := a3.2.2.1 rfl
    obtain ⟨ls, hs, os, om⟩ := a4.2.1 rfl
    cases ty with
    | mk s l =>
     simp [cellsT, Ty.name, Ty.parts] at ho hn ht hs
     obtain ⟨ht1, ht2⟩ := ht
     subst ho; subst hn; subst ht1; subst ht2; subst hs
     exact ⟨.mk o n (.mk s l) ls, rfl, fo, fn, ot, om, os⟩
  ·rintro rfl; rw [uLs] at h; simp at h
  ·rintro rfl
   rw [uT] at h
   simp only [Option.some.injEq, TypeDesc.struct.injEq] at h
   subst h
   rw [T.cT] at hl
   match cs, hl with
   | [c0, c1], _ =>
    have a1 := hf g1 (by simp)
    have a2 := ih g2 (by simp)
    rw [k1, p1, T.cS] at a1
    rw [k2, p2, T.cTs] at a2
    obtain ⟨ls, hs, os, om⟩ := a2.2.2.2 rfl
    simp at hs a1
    subst hs
    have hs : ∃ s, c0 = .str s ∧ s.length ≤ reachBytes := by
     have uS := T.uS
     clear ih hf uL uT uLs uTs
     generalize hc : [c0] = cs at a1
     cases a1 with
     | str _ s h hl =>
      simp only [List.cons.injEq, and_true] at hc
      exact ⟨s, hc, hl⟩
     | bool _ b h => rw [uS] at h; simp at h
     | int _ k n h hw => rw [uS] at h; simp at h
     | slc _ e es h => rw [uS] at h; simp at h
     | struct _ fs _ h => rw [uS] at h; simp at h
     | array _ n e _ h => rw [uS] at h; simp at h
    obtain ⟨s, rfl, hl⟩ := hs
    exact ⟨.mk s ls, rfl, hl, om, os⟩
  ·rintro rfl; rw [uTs] at h; simp at h
theorem lam_of {P : Program} {tL tLs tT tTs tI tS : TypeId} (T : Types P tL tLs tT tTs tI tS) {x : Tree} (h : WT P tL x) : ∃ l, x = encL l ∧ okL l := by
 obtain ⟨_, e, v⟩ := h
 obtain ⟨l, hl, ol⟩ := (is_of T v).1 rfl
 rw [hl] at e
 simp only [mkTree, T.aL] at e
 exact ⟨l, by rw [encL_cells]; exact e, ol⟩
end Go.Proofs.Cw.Si
end

/-
  SIMPLE: a row's readings as trees, of a size that is at most the reading's bulk.
-/
section
set_option linter.unusedSimpArgs false
set_option linter.unusedVariables false
namespace Go.Proofs.Cw.Si
open Go.Proofs Go.Proofs.YtominoddfkpflaaDoor
mutual
def tsz : Tree → Nat
 | .str s => s.length + 1
 | .slc es => tszs es + 1
 | .agg cs => tszs cs
 | _ => 1
def tszs : List Tree → Nat
 | [] => 0
 | x :: r => tsz x + tszs r
end
theorem tszs_append : ∀ a b : List Tree, tszs (a ++ b) = tszs a + tszs b
 | [], b => by simp [tszs]
 | x :: a, b => by simp only [List.cons_append, tszs, tszs_append a b]; omega
section
variable {H : Type} {enc : TypeId × Value → H} {P : Program} {w : World} {sp : Nat → Bool} {held : Bool} {L : List Nat}
def ReadB (P : Program) (w : World) (t : TypeId) (cs : List Value) (B : Nat) : Prop := ∃ ts : List Tree, RepTL w (oldI w) ts cs ∧ TV P t ts ∧ (∀ x, x ∈ ts → x.isSc = true) ∧ tszs ts ≤ B
theorem tsz_mkTree {t : TypeId} {cs : List Tree} (h : TV P t cs) : tsz (mkTree P t cs) ≤ tszs cs := by
 unfold mkTree
 split
 ·simp [tsz]
 ·rename_i ha
  obtain ⟨x, rfl, hx⟩ := h.one (fun e => ha e)
  simp [tszs]
theorem tszs_range (g : Nat → Tree) (b : Nat → Nat) : ∀ n, (∀ i, i < n → tsz (g i) ≤ b i) → tszs ((List.range n).map g) ≤ ((List.range n).map b).sum
 | 0, _ => by simp [tszs]
 | n + 1, h => by
  rw [List.range_succ, List.map_append, List.map_append, tszs_append, List.sum_append]
  have := tszs_range g b n fun i hi => h i (by omega)
  have := h n (by omega)
  simp [tszs]
  omega
theorem readB_slice {t e : TypeId} {a : Addr} {len cap : Nat} {b : Nat → Nat} (ht : P.underlying t = some (.slice e)) (hc1 : 1 ≤ P.cellsOf e) (hcap : len ≤ cap) (hm : len ≤ maxLen) (hb : len * P.bytesOf e ≤ reachBytes)
  (hr : ∀ i, i < len → ∃ cs, w.cells? 0 (a.add (i * P.cellsOf e)) (P.cellsOf e) = some cs ∧ ReadB P w e cs (b i)) : ReadB P w t [.slice (some a) len cap] (((List.range len).map b).sum + 1) := by
 have hch : ∃ f : Nat → List Tree, ∀ i, i < len → ∃ cs, w.cells? 0 (a.add (i * P.cellsOf e)) (P.cellsOf e) = some cs ∧ RepTL w (oldI w) (f i) cs ∧ TV P e (f i) ∧ (∀ x, x ∈ f i → x.isSc = true) ∧ tszs (f i) ≤ b i := by
  refine ⟨fun i => if h : i < len then (hr i h).choose_spec.2.choose else [], fun i hi => ?_⟩
  simp only [dif_pos hi]
  exact ⟨_, (hr i hi).choose_spec.1, (hr i hi).choose_spec.2.choose_spec⟩
 obtain ⟨f, hf⟩ := hch
 have hel : ∀ (i : Nat) x, ((List.range len).map fun i => mkTree P e (f i))[i]? = some x → i < len ∧ x = mkTree P e (f i) := by
  intro i x hx
  rw [List.getElem?_map] at hx
  rcases Nat.lt_or_ge i len with hi | hi
  ·simp [hi] at hx; exact ⟨hi, hx.symm⟩
  ·simp [List.getElem?_range, hi] at hx
 have hlen : ((List.range len).map fun i => mkTree P e (f i)).length = len := by simp
 have hwt : ∀ x, x ∈ ((List.range len).map fun i => mkTree P e (f i)) → WT P e x := by
  intro x hx
  obtain ⟨i, hi, rfl⟩ := List.mem_map.1 hx
  obtain ⟨cs, _, _, h3, h4, _⟩ := hf i (by simpa using hi)
  exact mkTree_WT h3 h4
 refine ⟨[.slc ((List.range len).map fun i => mkTree P e (f i))], RepTL.one ?_, .slc t e _ ht (by rw [hlen]; exact hb) (by rw [hlen]; exact hm) (fun x hx => ⟨(hwt x hx).1, (hwt x hx).2.1⟩) (fun x hx => (hwt x hx).2.2), fun x hx => by simp at hx; subst hx; rfl, ?_⟩
 ·rcases Nat.eq_zero_or_pos len with h0 | hpos
  ·subst h0; exact .slc0 (some a) cap
  ·obtain ⟨b, o, s⟩ := a
   have hsp : s = none := by
    obtain ⟨cs, h1, h2, _⟩ := hf 0 hpos
    obtain ⟨k1, k2⟩ := cells_some h1
    have := k2 0 (by omega)
    rw [show ((⟨b, o, s⟩ : Addr).add (0 * P.cellsOf e)).add 0 = ⟨b, o, s⟩ by simp [Addr.add], List.getElem?_eq_getElem (by omega)] at this
    exact (cell_lt this).2
   subst hsp
   have hcells : ∀ (i j : Nat) x y, ((List.range len).map fun i => mkTree P e (f i))[i]? = some x → x.cells[j]? = some y → ∃ v, w.cell? ⟨b, o + i * P.cellsOf e + j, none⟩ = some v ∧ RepT w (oldI w) y v := by
    intro i j x y hx hy
    obtain ⟨hi, rfl⟩ := hel i x hx
    obtain ⟨cs, h1, h2, h3, h4, _⟩ := hf i hi
    obtain ⟨k1, k2⟩ := cells_some h1
    rw [mkTree_cells h3] at hy
    have hj : j < cs.length := by have := (List.getElem?_eq_some_iff.1 hy).1; have := h2.1; omega
    have := k2 j (by omega)
    rw [Addr.add_none, Addr.add_none, List.getElem?_eq_getElem hj] at this
    exact ⟨_, this, h2.2 j y _ hy (by simp)⟩
   have hlt : oldI w b := by
    obtain ⟨cs, h1, h2, _⟩ := hf 0 hpos
    obtain ⟨k1, k2⟩ := cells_some h1
    have := k2 0 (by omega)
    rw [Addr.add_none, Addr.add_none, List.getElem?_eq_getElem (by omega)] at this
    exact (cell_lt this).1
   have := RepT.slc (w := w) (I := oldI w) ((List.range len).map fun i => mkTree P e (f i)) b o cap (P.cellsOf e) (fun i j => (w.cell? ⟨b, o + i * P.cellsOf e + j, none⟩).getD undef) hlt (by rw [hlen]; exact hcap)
    (fun i x hx => by
     obtain ⟨hi, rfl⟩ := hel i x hx
     obtain ⟨cs, h1, h2, h3, h4, _⟩ := hf i hi
     rw [mkTree_cells h3]
     have := h2.1; have := (cells_some h1).1; omega)
    (fun x hx => (hwt x hx).1)
    (fun i j x y hx hy => by obtain ⟨v, hv, _⟩ := hcells i j x y hx hy; rw [hv]; rfl)
    (fun i j x y hx hy => by obtain ⟨v, hv, hr⟩ := hcells i j x y hx hy; rw [hv]; exact hr)
   rw [hlen] at this
   exact this
 ·simp only [tszs, tsz, Nat.add_zero]
  have := tszs_range (fun i => mkTree P e (f i)) b len fun i hi => by
   obtain ⟨cs, h1, h2, h3, h4, h5⟩ := hf i hi
   exact Nat.le_trans (tsz_mkTree h3) h5
  omega
theorem readB_parts (total : Nat) : ∀ (fs : List Field) (bs : List Nat) (off : Nat) (cs : List Value), bs.length = fs.length → cs.length = total → tiles P L total off fs = true → off ≤ total →
  (∀ (i : Nat) f b, fs[i]? = some f → bs[i]? = some b → f.type ∈ L → ReadB P w f.type ((cs.drop f.offset).take (P.cellsOf f.type)) b) →
  ∃ ts : List Tree, RepTL w (oldI w) ts (cs.drop off) ∧ (∀ x, x ∈ ts → x.isSc = true) ∧ (∀ f, f ∈ fs → off ≤ f.offset ∧ TV P f.type ((ts.drop (f.offset - off)).take (P.cellsOf f.type))) ∧ tszs ts ≤ bs.sum
 | [], bs, off, cs, hbl, hl, ht, hle, _ => by
  simp only [tiles] at ht
  have := Nat.eq_of_beq_eq_true ht
  refine ⟨[], ?_, fun x h => by simp at h, fun f h => by simp at h, by simp [tszs]⟩
  rw [List.drop_eq_nil_of_le (by omega)]
  exact RepTL.nil'
 | f :: fs, [], _, _, hbl, _, _, _, _ => by simp at hbl
 | f :: fs, b :: bs, off, cs, hbl, hl, ht, hle, hr => by
  simp only [tiles, Bool.and_eq_true] at ht
  obtain ⟨h1, h2, h3⟩ := ht
  have h2 := Nat.eq_of_beq_eq_true h2
  have hle2 : ∀ (fs : List Field) (o : Nat), tiles P L total o fs = true → o ≤ total := by
   intro fs
   induction fs with
   | nil => intro o h; simp only [tiles] at h; have := Nat.eq_of_beq_eq_true h; omega
   | cons g gs ih =>
    intro o h
    simp only [tiles, Bool.and_eq_true] at h
    have := ih _ h.2.2
    omega
  have hb := hle2 fs _ h3
  obtain ⟨t1, k1, k2, k3, k4⟩ := hr 0 f b rfl rfl ((memN_iff _ _).1 h1)
  obtain ⟨t2, m1, m2, m3, m4⟩ := readB_parts total fs bs (off + P.cellsOf f.type) cs (by simpa using hbl) hl h3 hb fun i g b hg hbb hgL => hr (i + 1) g b (by simpa using hg) (by simpa using hbb) hgL
  have hl1 : t1.length = P.cellsOf f.type := by
   have := k1.1
   rw [List.length_take, List.length_drop] at this
   omega
  refine ⟨t1 ++ t2, ?_, fun x hx => ?_, fun g hg => ?_, ?_⟩
  ·have hsplit : cs.drop off = (cs.drop f.offset).take (P.cellsOf f.type) ++ cs.drop (off + P.cellsOf f.type) := by
    rw [h2, ← List.drop_drop, List.take_append_drop]
   rw [hsplit]
   exact k1.append m1
  ·rcases List.mem_append.1 hx with h | h
   ·exact k3 x h
   ·exact m2 x h
  ·rcases List.mem_cons.1 hg with e | hg
   ·subst e
    refine ⟨by omega, ?_⟩
    rw [h2, Nat.sub_self, List.drop_zero, ← hl1, List.take_left]
    exact k2
   ·obtain ⟨p1, p2⟩ := m3 g hg
    refine ⟨by omega, ?_⟩
    rw [show g.offset - off = t1.length + (g.offset - (off + P.cellsOf f.type)) by omega, List.drop_append]
    rw [List.drop_eq_nil_of_le (by omega), List.nil_append, show t1.length + (g.offset - (off + P.cellsOf f.type)) - t1.length = g.offset - (off + P.cellsOf f.type) by omega]
    exact p2
  ·rw [tszs_append, List.sum_cons]; omega
theorem bulk_pos (d : DataW H) : 1 ≤ Rows.uptoBulk d := by
 cases d with
 | lit l => cases l <;> simp [Rows.uptoBulk]
 | nil => simp [Rows.uptoBulk]
 | ptr d => simp [Rows.uptoBulk]
 | slice elems spare => simp [Rows.uptoBulk]
 | agg parts => simp [Rows.uptoBulk]
 | iface t d => simp [Rows.uptoBulk]
 | map entries => simp [Rows.uptoBulk]
 | held h => simp [Rows.uptoBulk]
theorem bulkAll_sum : ∀ l : List (DataW H), Rows.uptoBulkAll l = (l.map Rows.uptoBulk).sum
 | [] => rfl
 | d :: r => by simp [Rows.uptoBulkAll, bulkAll_sum r]
theorem trod_readB (hk : kidsB P L = true) (hna : ∀ t, t ∈ L → ∀ n e, P.underlying t ≠ some (.array n e)) : ∀ (fuel : Nat) (t : TypeId) (cs : List Value) (d : DataW H) (ps : List MemPlace), t ∈ L → DataW.trod enc P w 0 sp held fuel t cs = some (d, ps) →
  (d.weights P t).all (· ≤ reachBytes) = true → ReadB P w t cs (Rows.uptoBulk d)
 | 0, t, cs, d, ps, _, h, _ => by simp [DataW.trod] at h
 | fuel + 1, t, cs, d, ps, ht, h, hw => by
  have hkt := kidsB_spec hk ht
  unfold kidsOk at hkt
  have hdp := bulk_pos d
  have one : ∀ {x : Tree} {v : Value}, RepT w (oldI w) x v → TV P t [x] → x.isSc = true → tsz x ≤ Rows.uptoBulk d → ReadB P w t [v] (Rows.uptoBulk d) := fun h1 h2 h3 h4 => ⟨[_], RepTL.one h1, h2, fun y hy => by simp at hy; subst hy; exact h3, by simpa [tszs] using h4⟩
  split at hkt
  ·rename_i hu
   obtain ⟨b, rfl⟩ := trod_bool hu h
   exact one (.bool b) (.bool t b hu) rfl (by simpa [tsz] using hdp)
  ·rename_i k hu
   obtain ⟨n, rfl, hn⟩ := trod_int hu h
   exact one (.int k n) (.int t k n hu hn) rfl (by simpa [tsz] using hdp)
  ·rename_i hu
   obtain ⟨s, rfl, rfl⟩ := trod_str hu h
   have hs := RepT.str (w := w) (I := oldI w) s.data.toList
   refine one (by simpa using hs) (.str t _ hu ?_) rfl (by simp [tsz, Rows.uptoBulk])
   simp only [DataW.weights, List.all_cons, List.all_nil, Bool.and_true, decide_eq_true_eq] at hw
   exact hw
  ·rename_i e hu
   simp only [Bool.and_eq_true] at hkt
   rcases trod_slice hu h with rfl | ⟨a, len, cap, elems, rest, rfl, h1, h2, h3, rfl, h4⟩
   ·exact one (.slc0 none 0) (.slc t e [] hu (by simp) (by simp) (fun x hx => by simp at hx) (fun x hx => by simp at hx)) rfl (by simpa [tsz, tszs] using hdp)
   ·simp only [DataW.weights, hu, List.all_cons, Bool.and_eq_true, decide_eq_true_eq] at hw
    obtain ⟨hw1, hw2⟩ := hw
    obtain ⟨hw2, _⟩ := all_app hw2
    have hs := readB_slice (b := fun i => ((elems[i]?).map fun x => Rows.uptoBulk x.1).getD 0) hu (Nat.le_of_ble_eq_true hkt.2) h1 (by omega) (by
     refine Nat.le_trans (Nat.mul_le_mul_right _ ?_) hw1
     simp [h3]) fun i hi => (by
     obtain ⟨c, x, hc, hx, hx2⟩ := h4 i hi
     rw [hx]
     exact ⟨c, hc, trod_readB hk hna fuel e c x.1 x.2 ((memN_iff _ _).1 hkt.1) hx2 (weightsAll_get hw2 (by rw [List.getElem?_map, hx]; rfl))⟩)
    obtain ⟨ts, q1, q2, q3, q4⟩ := hs
    refine ⟨ts, q1, q2, q3, Nat.le_trans q4 ?_⟩
    simp only [Rows.uptoBulk, bulkAll_sum, List.map_map]
    have e1 : (List.range len).map (fun i => ((elems[i]?).map fun x => Rows.uptoBulk x.1).getD 0) = elems.map (fun x => Rows.uptoBulk x.1) := by
     apply List.ext_getElem
     ·simp [h3]
     ·intro i hi1 hi2
      simp at hi1 hi2
      simp [hi2]
    rw [e1]
    have e2 : List.map (Rows.uptoBulk ∘ fun x => x.1) elems = elems.map (fun x : DataW H × List MemPlace => Rows.uptoBulk x.1) := rfl
    rw [e2]
    omega
  ·rename_i fs hu
   obtain ⟨hl, xs, rfl, hx1, hx2⟩ := trod_struct hu h
   simp only [DataW.weights, hu] at hw
   obtain ⟨ts, k1, k2, k3, k4⟩ := readB_parts (P := P) (w := w) (L := L) (P.cellsOf t) fs.toList (xs.map fun x => Rows.uptoBulk x.1) 0 cs (by simpa using hx1) hl hkt (Nat.zero_le _) fun i f b hf hb hfL => by
    obtain ⟨x, e1, e2⟩ := hx2 i _ hf
    rw [List.getElem?_map, e1] at hb
    simp only [Option.map_some, Option.some.injEq] at hb
    subst hb
    exact trod_readB hk hna fuel _ _ x.1 x.2 hfL e2 (weightsEach_get (i := i) hw (by rw [List.getElem?_map, hf]; rfl) (by rw [List.getElem?_map, e1]; rfl))
   rw [List.drop_zero] at k1
   refine ⟨ts, k1, .struct t fs ts hu (by rw [← hl]; exact k1.1.symm) (fun f hf => ?_), k2, ?_⟩
   ·have := (k3 f hf).2
    rwa [Nat.sub_zero] at this
   ·simp only [Rows.uptoBulk, bulkAll_sum, List.map_map]
    have e2 : List.map (Rows.uptoBulk ∘ fun x => x.1) xs = xs.map (fun x : DataW H × List MemPlace => Rows.uptoBulk x.1) := rfl
    rw [e2]
    omega
  ·rename_i n e hu
   exact absurd hu (hna t ht n e)
  ·cases hkt
theorem arg_readB (hk : kidsB P L = true) (hna : ∀ t, t ∈ L → ∀ n e, P.underlying t ≠ some (.array n e)) {t : TypeId} {v : Value} {d : DataW H} {ps : List MemPlace} {base : Nat} (ht : t ∈ L) (hv : Value.okWide P w .any base t v) (h : DataW.Trod enc P w 0 sp held t v d ps) (hw : (d.weights P t).all (· ≤ reachBytes) = true) :
  ∃ x, RepT w (oldI w) x v ∧ WT P t x ∧ tsz x ≤ Rows.uptoBulk d := by
 obtain ⟨fuel, h⟩ := h
 obtain ⟨ts, h1, h2, h3, h4⟩ := trod_readB hk hna fuel t _ d ps ht h hw
 refine ⟨mkTree P t ts, ?_, mkTree_WT h2 h3, Nat.le_trans (tsz_mkTree h2) h4⟩
 unfold mkTree
 split
 ·rename_i ha
  unfold Value.okWide at hv
  unfold tyAgg at ha
  have : ∃ cs, v = .agg cs := by
   split at ha
   ·rename_i hu; rw [hu] at hv; obtain ⟨cs, rfl, _⟩ := hv; exact ⟨cs, rfl⟩
   ·rename_i hu; rw [hu] at hv; obtain ⟨cs, rfl, _⟩ := hv; exact ⟨cs, rfl⟩
   ·cases ha
   ·cases ha
  obtain ⟨cs, rfl⟩ := this
  exact .agg ts cs (by simpa [Value.cells] using h1.1) h3 fun i x u hx hu => h1.2 i x u hx (by simpa [Value.cells] using hu)
 ·rename_i ha
  obtain ⟨x, rfl, hx⟩ := h2.one (fun e => ha e)
  have hl := h1.1
  simp only [List.headD_cons]
  cases v with
  | agg cs =>
   exfalso
   unfold Value.okWide at hv
   unfold tyAgg at ha
   cases hu : P.underlying t with
   | none => rw [hu] at hv; simp [Cell.okWide, Cell.ok, hu] at hv
   | some dd => cases dd <;> simp [hu, Cell.okWide, Cell.ok] at hv ha
  | _ => exact h1.2 0 x _ rfl (by simp [Value.cells])
end
end Go.Proofs.Cw.Si
end

/-
  SIMPLE: a law's arguments are terms, lists of types, numbers.
-/
section
namespace Go.Proofs.Cw.Si
open Go.Proofs
theorem types : Types Tryd.prog 27 25 24 22 3 9 where
 uL := ⟨_, _, _, _, Tryd.underlying27, by kernel_rfl, by kernel_rfl, by kernel_rfl, by kernel_rfl, by kernel_rfl, by kernel_rfl, by kernel_rfl, by kernel_rfl⟩
 uLs := by kernel_rfl
 uT := ⟨_, _, Tryd.underlying24, by kernel_rfl, by kernel_rfl, by kernel_rfl, by kernel_rfl⟩
 uTs := by kernel_rfl
 uI := by kernel_rfl
 uS := by kernel_rfl
 cL := by kernel_rfl
 cLs := by kernel_rfl
 cT := by kernel_rfl
 cTs := by kernel_rfl
 cI := by kernel_rfl
 cS := by kernel_rfl
 aL := by kernel_rfl
 aT := by kernel_rfl
 aLs := by kernel_rfl
 aTs := by kernel_rfl
mutual
theorem tsz_T : ∀ t : Ty, sizeT t ≤ tsz (encT t)
 | .mk s l => by
  have := tszs_T l
  simp only [encT, tsz, tszs, sizeT]
  omega
theorem tszs_T : ∀ l : List Ty, sizeTs l ≤ tszs (encTs l)
 | [] => Nat.le_refl _
 | t :: r => by
  have h1 := tsz_T t
  have h2 := tszs_T r
  simp only [encTs, tszs, sizeTs]
  omega
end
mutual
theorem tsz_L : ∀ t : Lam, wL t ≤ tsz (encL t)
 | .mk o n (.mk s u) l => by
  have h1 := tszs_L l
  have h2 := tszs_T u
  simp only [encL, tsz, tszs, wL, sizeT]
  omega
theorem tszs_L : ∀ l : List Lam, wLs l ≤ tszs (encLs l)
 | [] => Nat.le_refl _
 | t :: r => by
  have h1 := tsz_L t
  have h2 := tszs_L r
  simp only [encLs, tszs, wLs]
  omega
end
theorem argL {x : Tree} (h : WT Tryd.prog 27 x) : ∃ t, x = encL t ∧ okL t ∧ wL t ≤ tsz x := by
 obtain ⟨t, rfl, ht⟩ := lam_of types h
 exact ⟨t, rfl, ht, tsz_L t⟩
end Go.Proofs.Cw.Si
end

/-
  THE ROW OF SimpleInfers, out of its Pure, and its card: printed by program.
-/
section
set_option maxRecDepth 100000
set_option linter.unusedVariables false
namespace Go.Proofs.Cw.Si
open Go.Proofs Go.Proofs.YtominoddfkpflaaDoor Go.ChangeShapes Go.WideShapes Go.ChangeAt Go.RowKit
def SimpleInfersPure : Prop := ∀ x0 : Tree, WT Tryd.prog 27 x0 → tsz x0 ≤ 1048576 → ∃ k, evP tab.env k 3 [x0] = some (.bool true)
theorem SimpleInfersOwn : ownKnob Tryd.prog.godebug = none := by kernel_rfl
theorem SimpleInfersLaidOut : laidOutB Tryd.prog = true := by kernel_rfl
theorem SimpleInfersKids : kidsB Tryd.prog [27,25,24,22,3,9] = true := by kernel_rfl
theorem SimpleInfersNoArr : ∀ t, t ∈ [27,25,24,22,3,9] → ∀ n e, Tryd.prog.underlying t ≠ some (.array n e) := by
 intro t ht n e h
 simp only [List.mem_cons, List.not_mem_nil, or_false] at ht
 rcases ht with rfl | rfl | rfl | rfl | rfl | rfl <;> first | (rw [Tryd.underlying27] at h; cases h) | (rw [Tryd.underlying25] at h; cases h) | (rw [Tryd.underlying24] at h; cases h) | (rw [Tryd.underlying22] at h; cases h) | (rw [Tryd.underlying3] at h; cases h) | (rw [Tryd.underlying9] at h; cases h)
theorem SimpleInfersMixed : Tryd.prog.follows .mixedOrders = true := by kernel_rfl
noncomputable def SimpleInfersWorld (os : Os) : World :=
 { World.holding Tryd.prog os ⟨#[], #[], []⟩ with heap := ((((World.holding Tryd.prog os ⟨#[], #[], []⟩).heap.modify 0 fun
   | .cells _ t frozen => .cells #[.int .u64 1, .int .u64 10, .int .u64 100, .int .u64 1000, .int .u64 10000, .int .u64 100000, .int .u64 1000000, .int .u64 10000000, .int .u64 100000000, .int .u64 1000000000, .int .u64 10000000000, .int .u64 100000000000, .int .u64 1000000000000, .int .u64 10000000000000, .int .u64 100000000000000, .int .u64 1000000000000000, .int .u64 10000000000000000, .int .u64 100000000000000000, .int .u64 1000000000000000000, .int .u64 10000000000000000000] t frozen
   | o => o).modify 1 fun
   | .cells _ t frozen => .cells #[.int .u8 0, .int .u8 1, .int .u8 28, .int .u8 2, .int .u8 29, .int .u8 14, .int .u8 24, .int .u8 3, .int .u8 30, .int .u8 22, .int .u8 20, .int .u8 15, .int .u8 25, .int .u8 17, .int .u8 4, .int .u8 8, .int .u8 31, .int .u8 27, .int .u8 13, .int .u8 23, .int .u8 21, .int .u8 19, .int .u8 16, .int .u8 7, .int .u8 26, .int .u8 12, .int .u8 18, .int .u8 6, .int .u8 11, .int .u8 5, .int .u8 10, .int .u8 9] t frozen
   | o => o).modify 2 fun
   | .cells _ t frozen => .cells #[.int .u8 0, .int .u8 1, .int .u8 56, .int .u8 2, .int .u8 57, .int .u8 49, .int .u8 28, .int .u8 3, .int .u8 61, .int .u8 58, .int .u8 42, .int .u8 50, .int .u8 38, .int .u8 29, .int .u8 17, .int .u8 4, .int .u8 62, .int .u8 47, .int .u8 59, .int .u8 36, .int .u8 45, .int .u8 43, .int .u8 51, .int .u8 22, .int .u8 53, .int .u8 39, .int .u8 33, .int .u8 30, .int .u8 24, .int .u8 18, .int .u8 12, .int .u8 5, .int .u8 63, .int .u8 55, .int .u8 48, .int .u8 27, .int .u8 60, .int .u8 41, .int .u8 37, .int .u8 16, .int .u8 46, .int .u8 35, .int .u8 44, .int .u8 21, .int .u8 52, .int .u8 32, .int .u8 23, .int .u8 11, .int .u8 54, .int .u8 26, .int .u8 40, .int .u8 15, .int .u8 34, .int .u8 20, .int .u8 31, .int .u8 10, .int .u8 25, .int .u8 14, .int .u8 19, .int .u8 9, .int .u8 13, .int .u8 8, .int .u8 7, .int .u8 6] t frozen
   | o => o) }
theorem SimpleInfersMet (os : Os) : laidMet Tryd.prog Rows.simpleInfersUptoRow.laid ((SimpleInfersWorld os).forCall (fun _ _ => 0) ⟨#[], #[.agg #[.int .i64 0, .int .i64 0, .string ⟨#[]⟩, .slice none 0 0, .slice none 0 0]], []⟩).memory :=
 laidMet_of_run' 8 (by kernel_rfl) (by kernel_rfl)
theorem SimpleInfersReads (os : Os) {H : Type} (enc : TypeId × Value → H) : DataW.whole enc Tryd.prog ((SimpleInfersWorld os).forCall (fun _ _ => 0) ⟨#[], #[.agg #[.int .i64 0, .int .i64 0, .string ⟨#[]⟩, .slice none 0 0, .slice none 0 0]], []⟩).memory Tryd.f3.params.toList Rows.simpleInfersSpec.vars false (#[.agg #[.int .i64 0, .int .i64 0, .string ⟨#[]⟩, .slice none 0 0, .slice none 0 0]] : Array Value).toList 8 = some ([.agg [.lit (.int .i64 0), .lit (.int .i64 0), .agg [.lit (.string []), .nil], .nil]], [], []) := by
 kernel_rfl
theorem SimpleInfersLifted (pure : SimpleInfersPure) (os : Os) (started : os.Started) (H : Type) (enc : TypeId × Value → H) (F : Stop.Interp) :
  ReturnsInHanded {} Tryd.checked os 3 .any ((Rows.OpenSpec.upto Rows.simpleInfersSpec).preRow enc Tryd.prog Tryd.f3 Rows.simpleInfersUptoRow.domain false Rows.simpleInfersUptoRow.laid) (((Rows.OpenSpec.upto Rows.simpleInfersSpec).at F).post enc Tryd.prog Tryd.f3 false true false false) := by
 refine returnsInHanded_of_row (C := Tryd.checked) (s := (Rows.OpenSpec.upto Rows.simpleInfersSpec)) SimpleInfersOwn started (by kernel_rfl) Tryd.func3
  (witness_row_at (enc := enc) (C := Tryd.checked) false (SimpleInfersWorld os) #[.agg #[.int .i64 0, .int .i64 0, .string ⟨#[]⟩, .slice none 0 0, .slice none 0 0]] rfl (by kernel_rfl) (by kernel_rfl) (by kernel_rfl)
   (OpenSpec.preRow_of_cond 8 (SimpleInfersReads os enc) (by kernel_rfl) (fun k hk => by cases hk; kernel_rfl) (by kernel_rfl) (SimpleInfersMet os))) ?_
 intro W base args ds gs before hval0 hW hcnd hkk0 hsz0 hL hsh _
 have hkk := hkk0 _ rfl
 have hsz : (DataW.weightsEach Tryd.prog (Tryd.f3.params.toList ++ Rows.simpleInfersSpec.plain.varTypes Tryd.prog) (ds ++ gs)).all (· ≤ reachBytes) = true := hsz0
 have hval : ∀ (j : Nat) t v, Tryd.f3.params[j]? = some t → args[j]? = some v → Value.okWide Tryd.prog W .any base t v := hval0
 have hW' := hW
 obtain ⟨p, q, hA0, hV, rfl, hfz, hnd⟩ := hW
 have hA : DataW.TrodAll enc Tryd.prog W 0 (fun _ => true) true Tryd.f3.params.toList args.toList ds p := hA0
 rw [Tryd.params3] at hA hval hsz
 obtain ⟨v0, vs0, d0, ds0, p0, q0, hargs, rfl, rfl, h0, r0⟩ := trodAll_cons hA
 obtain ⟨rfl, rfl, rfl⟩ := trodAll_nil r0
 obtain rfl : args = #[v0] := by cases args; simp_all
 obtain ⟨rfl, rfl⟩ := trodVars_none hV
 obtain ⟨x0, t0, w0, b0⟩ := arg_readB (L := [27,25,24,22,3,9]) SimpleInfersKids SimpleInfersNoArr (t := 27) (by decide) (hval 0 27 v0 rfl rfl) h0 (weightsEach_get (i := 0) hsz rfl rfl)
 have lt0 : ∀ x ∈ p0, x.block < W.heap.size := by obtain ⟨m, hm⟩ := h0; exact DataW.trod_lt m _ _ _ hm
 have hbk : tsz x0 ≤ 1048576 := by
  have hq := of_decide_eq_true hkk
  simp only [List.append_nil, Rows.uptoBulkAll] at hq
  omega
 obtain ⟨k, hk⟩ := pure x0 w0 hbk
 refine (law_calls (Tab.envOk tabOk) SimpleInfersMixed hk (vals := #[v0]) (RepTL.cons t0 RepTL.nil')).mono fun e W' ⟨he, bel⟩ => ?_
 subst he
 exact ⟨_, rfl, _, _, _, [], _, [], hW', trodAll_mk1 (shut_bool Tryd.underlying4 _), (trodAll_cons_mk (Below.trod SimpleInfersLaidOut (by kernel_rfl) (of_decide_eq_true (by kernel_rfl)) h0 bel lt0) trodAll_mk0), rfl, bel.frame _, fun h => by cases h⟩
theorem SimpleInfersRow (pure : SimpleInfersPure) : Rows.SimpleInfersUptoSaid :=
 OpenClaim.holds_of_cond 3 Tryd.f3 rfl rfl rfl rfl rfl rfl rfl ⟨rfl, rfl, rfl, rfl, rfl⟩ rfl rfl rfl rfl rfl (by kernel_rfl) Tryd.func3 (by kernel_rfl)
  (of_decide_eq_true (by kernel_rfl)) (by unfold Func.isWrapper; first | (rw [if_pos (by decide +kernel)]; kernel_rfl) | (rw [if_neg (by decide +kernel)]; exact ⟨rfl, rfl⟩))
  (fun os started H enc _ F => by rw [OpenClaim.pre_eq_preRow]; exact SimpleInfersLifted pure os started H enc F)
theorem SimpleInfersPlain (f : FuncId) (fn : Func) (hf : Tryd.pinned.checked.prog.funcNamed "tenet/tenetlaw25.SimpleInfers" = some f) (hfn : Tryd.pinned.checked.prog.funcs[f]? = some fn) :
  false = Tryd.pinned.checked.prog.looks [] ∧ ∀ (j : Nat) t, fn.params[j]? = some t → Tryd.pinned.checked.prog.wantsStandIn t = false := by
 obtain rfl : f = 3 := Option.some.inj ((show Tryd.prog.funcNamed "tenet/tenetlaw25.SimpleInfers" = some 3 by kernel_rfl).symm.trans hf) |>.symm
 obtain rfl : fn = Tryd.f3 := (Option.some.inj (Tryd.func3.symm.trans hfn)).symm
 refine ⟨by kernel_rfl, fun j t ht => ?_⟩
 rw [Tryd.params3] at ht
 obtain rfl : t = 27 := by simpa using Array.mem_of_getElem? ht
 exact (show Tryd.prog.wantsStandIn 27 = false by kernel_rfl)
theorem SimpleInfersCard (pure : SimpleInfersPure) : Rows.SimpleInfersUptoCardSaid :=
 Claim7.holds_tied_plain_at .later [] _ _ _ _ (SimpleInfersRow pure) (fun _ h => by cases h) (by kernel_rfl) (fun _ h => by cases h) simpleInfersUpto_row_tie rfl ⟨rfl, rfl⟩ (by kernel_rfl) rfl SimpleInfersPlain (by kernel_rfl)
end Go.Proofs.Cw.Si
end
