/- What the functions that the law reaches come to, and why. -/
import Derived.Test.YtkgffjkdhmdfkaaGreatDoorPart4
import Derived.Test.YtkgffjkdhmdfkaaGreatDoorPart1
import Derived.Test.YtkgffjkdhmdfkaaGreatDoorDw5
import Derived.Test.YtkgffjkdhmdfkaaGreatDoorDw6
import Derived.KernelRfl
import Derived.Test.YtkgffjkdhmdfkaaGreatDoorCards
import Derived.Test.YtkgffjkdhmdfkaaGreatDoorTie
import Derived.LaidHandle
import Derived.JoinedCond
import Derived.Deep.CondSized
import Derived.Deep.DeepHandedRow
import Derived.Lib.LaidTab
import Derived.WalkKit
import Derived.ProofKit
import Derived.OpenShut
import Derived.ChangeOld
import Derived.Below
import Derived.SizedLaws
import Derived.SevenTiedAt
set_option linter.unusedSimpArgs false
set_option linter.unusedVariables false

/-
  CertSizes: awake as a summary.
-/
section
namespace Go.Proofs.Dw.Za
open Go.Proofs

theorem evP_gets {P : Program} {E : Env} (hE : EnvOk P E) (hm : P.follows .mixedOrders = true) {k g : Nat} {xs : List Tree} {y : Tree} (h : evP E k g xs = some y) : callable P g = true ∧ ∀ (w : World) (I : Fz) (vals : Array Value), RepTL w I xs vals.toList → FzOk I w → Calls P g vals w (Gets w I y) :=
  (runFn_sound hE hm k).pf g xs y h

def C5 (_ : List AV) (_ : Heap) : Bool := true
def S5 (args : List AV) (H : Heap) : Option (AV × Heap) :=
  match args, H with
  | [], [] => some (.t (.bool true), [])
  | _, _ => none

theorem sum5 : SumOk Tryz.prog 5 C5 S5 := by
  intro args H v H' _ h
  unfold S5 at h
  split at h
  · cases h
    obtain ⟨hc, hcall⟩ := evP_gets env1Ok mixed aw
    refine ⟨hc, fun φ w I vals hr sm => ?_⟩
    have hv : vals = #[] := Array.eq_empty_of_size_eq_zero (by simpa using hr.1)
    subst hv
    refine Calls.mono (hcall w I #[] ⟨rfl, fun i x v hx => by simp at hx⟩ sm.fzOk) fun e w' he => ?_
    obtain ⟨val, I', rfl, h1, h2, h3, h4, h5, h6⟩ := he
    obtain ⟨k1, k2⟩ := sm.still h2 h3 h4 h5 h6
    exact ⟨val, φ, I', rfl, .t _ _ h1, k1, k2⟩
  · cases h

end Go.Proofs.Dw.Za
end

/-
  THE RECKONED CODE as a table: printed by program.
-/
section
set_option maxRecDepth 100000
namespace Go.Proofs.Dw.Zl
open Go.Proofs

def tab : Tab := (.node 9 (.node 6 (.node 4 (.leaf 3 ir3) (.node 5 (.leaf 4 ir4) (.sum 5 Za.C5 Za.S5))) (.node 7 (.leaf 6 ir6) (.node 8 (.leaf 7 ir7) (.leaf 8 ir8)))) (.node 14 (.node 10 (.leaf 9 ir9) (.node 13 (.leaf 10 ir10) (.leaf 13 ir13))) (.node 16 (.node 15 (.leaf 14 ir14) (.leaf 15 ir15)) (.node 17 (.leaf 16 ir16) (.leaf 17 ir17)))))
theorem tabOk : tab.Ok Tryz.prog := ⟨⟨⟨⟨_, _, ok3⟩, ⟨⟨_, _, ok4⟩, (Za.sum5)⟩⟩, ⟨⟨_, _, ok6⟩, ⟨⟨_, _, ok7⟩, ⟨_, _, ok8⟩⟩⟩⟩, ⟨⟨⟨_, _, ok9⟩, ⟨⟨_, _, ok10⟩, ⟨_, _, ok13⟩⟩⟩, ⟨⟨⟨_, _, ok14⟩, ⟨_, _, ok15⟩⟩, ⟨⟨_, _, ok16⟩, ⟨_, _, ok17⟩⟩⟩⟩⟩

end Go.Proofs.Dw.Zl
end

/-
  EQUATIONS of the reckoned code: printed by program.
-/
section
set_option maxRecDepth 100000
namespace Go.Proofs.Dw.Zl
open Go.Proofs

def L4_0 (n q : Nat) (s0 : List Tree) (s3 : Int) : Option Tree :=
  evL (Tab.env tab) n 4 [1, 0, 1, 0] [q] { ts := [AV.t (Tree.slc s0), AV.any, AV.any, AV.t (Tree.int IntKind.i64 s3), AV.any, AV.any, AV.any, AV.any, AV.any, AV.any, AV.any, AV.any, AV.any, AV.any, AV.any, AV.any, AV.any, AV.any, AV.any], H := [] }

def L6_0 (n q : Nat) (s2 : Int) (s3 : Int) (s11 : List Tree) (s12 : Int) (s13 : Int) (h0_0_0 : Int) (h0_0_1 : List Tree) (h0_0_2 : List Tree) : Option Tree :=
  evL (Tab.env tab) n 6 [1, 1, 0, 1, 0] [q] { ts := [AV.any, AV.href 0 0 0, AV.t (Tree.int IntKind.i64 s2), AV.t (Tree.int IntKind.i64 s3), AV.any, AV.any, AV.any, AV.any, AV.any, AV.any, AV.any, AV.t (Tree.slc s11), AV.t (Tree.int IntKind.i64 s12), AV.t (Tree.int IntKind.i64 s13), AV.any, AV.any, AV.any, AV.any, AV.any, AV.any, AV.any, AV.any, AV.any, AV.any, AV.any, AV.any, AV.any, AV.any, AV.any, AV.any, AV.any, AV.any, AV.any, AV.any, AV.any, AV.any, AV.any, AV.any, AV.any, AV.any, AV.any, AV.any], H := [HObj.tre (Sh.agg [Sh.int IntKind.i64, Sh.slc, Sh.slc]) [Tree.agg [Tree.int IntKind.i64 h0_0_0, Tree.slc h0_0_1, Tree.slc h0_0_2]]] }

def L6_1 (n q : Nat) (s2 : Int) (s3 : Int) (s22 : List Tree) (s23 : Int) (s24 : Int) : Option Tree :=
  evL (Tab.env tab) n 6 [1, 1, 1, 0, 1, 0] [q] { ts := [AV.any, AV.any, AV.t (Tree.int IntKind.i64 s2), AV.t (Tree.int IntKind.i64 s3), AV.any, AV.any, AV.any, AV.any, AV.any, AV.any, AV.any, AV.any, AV.any, AV.any, AV.any, AV.any, AV.any, AV.any, AV.any, AV.any, AV.any, AV.any, AV.t (Tree.slc s22), AV.t (Tree.int IntKind.i64 s23), AV.t (Tree.int IntKind.i64 s24), AV.any, AV.any, AV.any, AV.any, AV.any, AV.any, AV.any, AV.any, AV.any, AV.any, AV.any, AV.any, AV.any, AV.any, AV.any, AV.any, AV.any], H := [] }

def L7_0 (n q : Nat) (s4 : Int) (s5 : Int) (s6 : Int) (h0_0_0 : Int) (h0_0_1 : List Tree) (h0_0_2 : List Tree) : Option Tree :=
  evL (Tab.env tab) n 7 [1, 1, 0, 1, 0] [q] { ts := [AV.any, AV.href 0 0 0, AV.any, AV.any, AV.t (Tree.int IntKind.i64 s4), AV.t (Tree.int IntKind.i64 s5), AV.t (Tree.int IntKind.i64 s6), AV.any, AV.any, AV.any, AV.any, AV.any, AV.any, AV.any, AV.any, AV.any, AV.any, AV.any, AV.any, AV.any, AV.any, AV.any, AV.any, AV.any, AV.any, AV.any, AV.any, AV.any, AV.any, AV.any, AV.any, AV.any, AV.any, AV.any, AV.any, AV.any, AV.any, AV.any, AV.any, AV.any, AV.any, AV.any, AV.any, AV.any, AV.any, AV.any, AV.any, AV.any], H := [HObj.tre (Sh.agg [Sh.int IntKind.i64, Sh.slc, Sh.slc]) [Tree.agg [Tree.int IntKind.i64 h0_0_0, Tree.slc h0_0_1, Tree.slc h0_0_2]]] }

def L7_1 (n q : Nat) (s4 : Int) (s5 : Int) (s7 : Int) (h0_0_0 : Int) (h0_0_1 : List Tree) (h0_0_2 : List Tree) : Option Tree :=
  evL (Tab.env tab) n 7 [1, 1, 1, 0, 1, 0] [q] { ts := [AV.any, AV.href 0 0 0, AV.any, AV.any, AV.t (Tree.int IntKind.i64 s4), AV.t (Tree.int IntKind.i64 s5), AV.any, AV.t (Tree.int IntKind.i64 s7), AV.any, AV.any, AV.any, AV.any, AV.any, AV.any, AV.any, AV.any, AV.any, AV.any, AV.any, AV.any, AV.any, AV.any, AV.any, AV.any, AV.any, AV.any, AV.any, AV.any, AV.any, AV.any, AV.any, AV.any, AV.any, AV.any, AV.any, AV.any, AV.any, AV.any, AV.any, AV.any, AV.any, AV.any, AV.any, AV.any, AV.any, AV.any, AV.any, AV.any], H := [HObj.tre (Sh.agg [Sh.int IntKind.i64, Sh.slc, Sh.slc]) [Tree.agg [Tree.int IntKind.i64 h0_0_0, Tree.slc h0_0_1, Tree.slc h0_0_2]]] }

def L9_0 (n q : Nat) (s5 : Int) (h0_0_0 : Int) (h0_0_1 : List Tree) (h0_0_2 : List Tree) (h1_0_0 : Int) (h1_0_1 : List Tree) (h1_0_2 : List Tree) : Option Tree :=
  evL (Tab.env tab) n 9 [1, 1, 0, 1, 0] [q] { ts := [AV.any, AV.any, AV.href 0 0 0, AV.href 1 0 0, AV.any, AV.t (Tree.int IntKind.i64 s5), AV.any, AV.any, AV.any, AV.any, AV.any, AV.any, AV.any, AV.any, AV.any, AV.any, AV.any, AV.any, AV.any, AV.any, AV.any, AV.any, AV.any, AV.any, AV.any, AV.any, AV.any, AV.any, AV.any, AV.any, AV.any, AV.any, AV.any, AV.any, AV.any, AV.any, AV.any, AV.any, AV.any, AV.any, AV.any, AV.any, AV.any, AV.any, AV.any, AV.any, AV.any], H := [HObj.tre (Sh.agg [Sh.int IntKind.i64, Sh.slc, Sh.slc]) [Tree.agg [Tree.int IntKind.i64 h0_0_0, Tree.slc h0_0_1, Tree.slc h0_0_2]], HObj.tre (Sh.agg [Sh.int IntKind.i64, Sh.slc, Sh.slc]) [Tree.agg [Tree.int IntKind.i64 h1_0_0, Tree.slc h1_0_1, Tree.slc h1_0_2]]] }

def L10_0 (n q : Nat) (s1 : Int) (s5 : Int) (s6 : Int) (h0_0_0 : Int) (h0_0_1 : List Tree) (h0_0_2 : List Tree) : Option Tree :=
  evL (Tab.env tab) n 10 [1, 1, 0, 1, 0] [q] { ts := [AV.any, AV.t (Tree.int IntKind.i64 s1), AV.href 0 0 0, AV.any, AV.any, AV.t (Tree.int IntKind.i64 s5), AV.t (Tree.int IntKind.i64 s6), AV.any, AV.any, AV.any, AV.any, AV.any, AV.any, AV.any, AV.any, AV.any, AV.any, AV.any, AV.any, AV.any, AV.any, AV.any, AV.any, AV.any, AV.any, AV.any, AV.any, AV.any, AV.any, AV.any, AV.any, AV.any, AV.any, AV.any, AV.any, AV.any, AV.any, AV.any, AV.any, AV.any], H := [HObj.tre (Sh.agg [Sh.int IntKind.i64, Sh.slc, Sh.slc]) [Tree.agg [Tree.int IntKind.i64 h0_0_0, Tree.slc h0_0_1, Tree.slc h0_0_2]]] }

def L15_0 (n q : Nat) (s0 : List Tree) (s1 : List Tree) (s12 : Int) (s13 : Int) : Option Tree :=
  evL (Tab.env tab) n 15 [1, 1, 0, 1, 0] [q] { ts := [AV.t (Tree.slc s0), AV.t (Tree.slc s1), AV.any, AV.any, AV.any, AV.any, AV.any, AV.any, AV.any, AV.any, AV.any, AV.any, AV.t (Tree.int IntKind.i64 s12), AV.t (Tree.int IntKind.i64 s13), AV.any, AV.any, AV.any, AV.any, AV.any, AV.any, AV.any, AV.any, AV.any, AV.any, AV.any, AV.any], H := [] }

def L17_0 (n q : Nat) (s0 : List Tree) (s1 : List Tree) (s5 : Int) : Option Tree :=
  evL (Tab.env tab) n 17 [1, 1, 0, 1, 0] [q] { ts := [AV.t (Tree.slc s0), AV.t (Tree.slc s1), AV.any, AV.any, AV.any, AV.t (Tree.int IntKind.i64 s5), AV.any, AV.any, AV.any, AV.any, AV.any, AV.any, AV.any, AV.any, AV.any, AV.any, AV.any, AV.any, AV.any, AV.any, AV.any, AV.any, AV.any, AV.any, AV.any, AV.any], H := [] }

def L16_0x (n q : Nat) (s1 : List Tree) (s15 : List Tree) (s16 : Int) (s17 : Int) : Option Tree :=
  evL (Tab.env tab) n 16 [1, 1, 0, 1, 0] [q] { ts := [AV.any, AV.t (Tree.slc s1), AV.t (Tree.fn 8 [] []), AV.any, AV.any, AV.any, AV.any, AV.any, AV.any, AV.any, AV.any, AV.any, AV.any, AV.any, AV.any, AV.t (Tree.slc s15), AV.t (Tree.int IntKind.i64 s16), AV.t (Tree.int IntKind.i64 s17), AV.any, AV.any, AV.any, AV.any, AV.any, AV.any, AV.any, AV.any, AV.any, AV.any, AV.any, AV.any, AV.any, AV.any], H := [] }

theorem e13 (n : Nat) (a0 : Int) (a1 : Int) : evQ (Tab.env tab) n 13 [Tree.int IntKind.i64 a0, Tree.int IntKind.i64 a1] =
    bif decide (a0 < 0) then some (Tree.int IntKind.i64 (-1))
  else
    bif decide (a1 < 0) then some (Tree.int IntKind.i64 (-1))
    else
      bif decide (a1 > IntKind.wrap IntKind.i64 (20000 - a0)) then some (Tree.int IntKind.i64 (-1))
      else some (Tree.int IntKind.i64 (IntKind.wrap IntKind.i64 (a0 + a1))) := by kernel_rfl

theorem e14 (n : Nat) (a0 : Int) (a1 : Int) : evQ (Tab.env tab) n 14 [Tree.int IntKind.i64 a0, Tree.int IntKind.i64 a1] =
    bif decide (a0 < 0) then some (Tree.int IntKind.i64 (-1))
  else
    bif decide (a1 < 0) then some (Tree.int IntKind.i64 (-1))
    else
      bif decide (a1 > IntKind.wrap IntKind.i64 (20000 - a0)) then some (Tree.int IntKind.i64 (-1))
      else some (Tree.int IntKind.i64 (IntKind.wrap IntKind.i64 (a0 + a1))) := by kernel_rfl

theorem e3 (n : Nat) (a00 : Int) (a01 : List Tree) (a02 : List Tree) (a10 : Int) (a11 : List Tree) (a12 : List Tree) : evQ (Tab.env tab) n 3 [Tree.agg [Tree.int IntKind.i64 a00, Tree.slc a01, Tree.slc a02], Tree.agg [Tree.int IntKind.i64 a10, Tree.slc a11, Tree.slc a12]] =
    Option.bind
    (evP (Tab.env tab) n 4
      [Tree.slc [Tree.agg [Tree.int IntKind.i64 a00, Tree.slc a01, Tree.slc a02], Tree.agg [Tree.int IntKind.i64 a10, Tree.slc a11, Tree.slc a12]]])
    fun y =>
    bif Sh.ok Sh.bool y then
      bif Tree.toBool y then Option.bind (evP (Tab.env tab) n 5 []) fun y => bif Sh.ok Sh.bool y then some (Tree.bool (Tree.toBool y)) else none
      else
        Option.bind (evP (Tab.env tab) n 6 [Tree.agg [Tree.int IntKind.i64 a00, Tree.slc a01, Tree.slc a02]]) fun y =>
          bif Sh.ok (Sh.tup [Sh.int IntKind.i64, Sh.int IntKind.i64]) y then
            Option.bind (evP (Tab.env tab) n 7 [Tree.agg [Tree.int IntKind.i64 a00, Tree.slc a01, Tree.slc a02]]) fun y_1 =>
              bif Sh.ok (Sh.tup [Sh.int IntKind.i64, Sh.int IntKind.i64]) y_1 then
                bif Tree.toInt (List.headD (Tree.tupl y) (Tree.bool false)) == Tree.toInt (List.headD (Tree.tupl y_1) (Tree.bool false)) then
                  bif
                      Tree.toInt (List.headD (List.tail (Tree.tupl y)) (Tree.bool false)) ==
                        Tree.toInt (List.headD (List.tail (Tree.tupl y_1)) (Tree.bool false)) then
                    Option.bind
                      (evP (Tab.env tab) n 8
                        [Tree.agg [Tree.int IntKind.i64 a00, Tree.slc a01, Tree.slc a02], Tree.agg [Tree.int IntKind.i64 a10, Tree.slc a11, Tree.slc a12]])
                      fun y =>
                      bif Sh.ok Sh.bool y then
                        Option.bind
                          (evP (Tab.env tab) n 9
                            [Tree.agg [Tree.int IntKind.i64 a00, Tree.slc a01, Tree.slc a02], Tree.agg [Tree.int IntKind.i64 a10, Tree.slc a11, Tree.slc a12]])
                          fun y_2 =>
                          bif Sh.ok Sh.bool y_2 then
                            bif Tree.toBool y == Tree.toBool y_2 then
                              Option.bind (evP (Tab.env tab) n 5 []) fun y => bif Sh.ok Sh.bool y then some (Tree.bool (Tree.toBool y)) else none
                            else some (Tree.bool false)
                          else none
                      else none
                  else some (Tree.bool false)
                else some (Tree.bool false)
              else none
          else none
    else none := by kernel_rfl

theorem e4 (n : Nat) (a0 : List Tree) : evQ (Tab.env tab) n 4 [Tree.slc a0] =
    L4_0 n n a0 0 := by kernel_rfl

theorem l4_0 (n q : Nat) (s0 : List Tree) (s3 : Int) : L4_0 n (Nat.succ q) s0 s3 =
    bif decide (s3 < (↑(List.length s0) : Int)) then
    bif decide (0 ≤ s3) then
      Option.bind (nth s0 (Int.toNat s3)) fun y =>
        bif Sh.ok (Sh.agg [Sh.int IntKind.i64, Sh.slc, Sh.slc]) y then
          Option.bind
            (evP (Tab.env tab) n 10
              [Tree.agg
                  [Tree.int IntKind.i64 (Tree.toInt (List.headD (Tree.cs y) (Tree.bool false))),
                    Tree.slc (Tree.elems (List.headD (List.tail (Tree.cs y)) (Tree.bool false))),
                    Tree.slc (Tree.elems (List.headD (List.tail (List.tail (Tree.cs y))) (Tree.bool false)))],
                Tree.int IntKind.i64 3000])
            fun y =>
            bif Sh.ok (Sh.int IntKind.i64) y then
              bif decide (Tree.toInt y > 3000) then some (Tree.bool true)
              else
                L4_0 n q s0 (IntKind.wrap IntKind.i64 (s3 + 1))
            else none
        else none
    else none
  else some (Tree.bool (decide ((↑(List.length s0) : Int) > 40))) := by kernel_rfl

theorem e6 (n : Nat) (a00 : Int) (a01 : List Tree) (a02 : List Tree) : evQ (Tab.env tab) n 6 [Tree.agg [Tree.int IntKind.i64 a00, Tree.slc a01, Tree.slc a02]] =
    L6_0 n n 1 0 a01 (↑(List.length a01) : Int) 0 a00 a01 a02 := by kernel_rfl

theorem l6_0 (n q : Nat) (s2 : Int) (s3 : Int) (s11 : List Tree) (s12 : Int) (s13 : Int) (h0_0_0 : Int) (h0_0_1 : List Tree) (h0_0_2 : List Tree) : L6_0 n (Nat.succ q) s2 s3 s11 s12 s13 h0_0_0 h0_0_1 h0_0_2 =
    bif decide (s13 < s12) then
    bif decide (0 ≤ s13) then
      Option.bind (nth s11 (Int.toNat s13)) fun y =>
        bif Sh.ok (Sh.int IntKind.i64) y then
          Option.bind (evP (Tab.env tab) n 13 [Tree.int IntKind.i64 s3, Tree.int IntKind.i64 (Tree.toInt y)]) fun y =>
            bif Sh.ok (Sh.int IntKind.i64) y then
              L6_0 n q s2 (Tree.toInt y) s11 s12 (IntKind.wrap IntKind.i64 (s13 + 1)) h0_0_0 h0_0_1 h0_0_2
            else none
        else none
    else none
  else
    L6_1 n n s2 s3 h0_0_2 (↑(List.length h0_0_2) : Int) 0 := by kernel_rfl

theorem l6_1 (n q : Nat) (s2 : Int) (s3 : Int) (s22 : List Tree) (s23 : Int) (s24 : Int) : L6_1 n (Nat.succ q) s2 s3 s22 s23 s24 =
    bif decide (s24 < s23) then
    bif decide (0 ≤ s24) then
      Option.bind (nth s22 (Int.toNat s24)) fun y =>
        bif Sh.ok (Sh.agg [Sh.int IntKind.i64, Sh.slc, Sh.slc]) y then
          Option.bind
            (evP (Tab.env tab) n 6
              [Tree.agg
                  [Tree.int IntKind.i64 (Tree.toInt (List.headD (Tree.cs y) (Tree.bool false))),
                    Tree.slc (Tree.elems (List.headD (List.tail (Tree.cs y)) (Tree.bool false))),
                    Tree.slc (Tree.elems (List.headD (List.tail (List.tail (Tree.cs y))) (Tree.bool false)))]])
            fun y =>
            bif Sh.ok (Sh.tup [Sh.int IntKind.i64, Sh.int IntKind.i64]) y then
              Option.bind
                (evP (Tab.env tab) n 13 [Tree.int IntKind.i64 s3, Tree.int IntKind.i64 (Tree.toInt (List.headD (List.tail (Tree.tupl y)) (Tree.bool false)))])
                fun y_1 =>
                bif Sh.ok (Sh.int IntKind.i64) y_1 then
                  L6_1 n q (IntKind.wrap IntKind.i64 (s2 + Tree.toInt (List.headD (Tree.tupl y) (Tree.bool false)))) (Tree.toInt y_1) s22 s23 (IntKind.wrap IntKind.i64 (s24 + 1))
                else none
            else none
        else none
    else none
  else some (Tree.tup [Tree.int IntKind.i64 s2, Tree.int IntKind.i64 s3]) := by kernel_rfl

theorem e7 (n : Nat) (a00 : Int) (a01 : List Tree) (a02 : List Tree) : evQ (Tab.env tab) n 7 [Tree.agg [Tree.int IntKind.i64 a00, Tree.slc a01, Tree.slc a02]] =
    L7_0 n n 1 0 0 a00 a01 a02 := by kernel_rfl

theorem l7_0 (n q : Nat) (s4 : Int) (s5 : Int) (s6 : Int) (h0_0_0 : Int) (h0_0_1 : List Tree) (h0_0_2 : List Tree) : L7_0 n (Nat.succ q) s4 s5 s6 h0_0_0 h0_0_1 h0_0_2 =
    bif decide (s6 < (↑(List.length h0_0_1) : Int)) then
    bif decide (0 ≤ s6) then
      Option.bind (nth h0_0_1 (Int.toNat s6)) fun y =>
        bif Sh.ok (Sh.int IntKind.i64) y then
          Option.bind (evP (Tab.env tab) n 14 [Tree.int IntKind.i64 s5, Tree.int IntKind.i64 (Tree.toInt y)]) fun y =>
            bif Sh.ok (Sh.int IntKind.i64) y then
              L7_0 n q s4 (Tree.toInt y) (IntKind.wrap IntKind.i64 (s6 + 1)) h0_0_0 h0_0_1 h0_0_2
            else none
        else none
    else none
  else
    L7_1 n n s4 s5 0 h0_0_0 h0_0_1 h0_0_2 := by kernel_rfl

theorem l7_1 (n q : Nat) (s4 : Int) (s5 : Int) (s7 : Int) (h0_0_0 : Int) (h0_0_1 : List Tree) (h0_0_2 : List Tree) : L7_1 n (Nat.succ q) s4 s5 s7 h0_0_0 h0_0_1 h0_0_2 =
    bif decide (s7 < (↑(List.length h0_0_2) : Int)) then
    bif decide (0 ≤ s7) then
      Option.bind (nth h0_0_2 (Int.toNat s7)) fun y =>
        bif Sh.ok (Sh.agg [Sh.int IntKind.i64, Sh.slc, Sh.slc]) y then
          Option.bind
            (evP (Tab.env tab) n 7
              [Tree.agg
                  [Tree.int IntKind.i64 (Tree.toInt (List.headD (Tree.cs y) (Tree.bool false))),
                    Tree.slc (Tree.elems (List.headD (List.tail (Tree.cs y)) (Tree.bool false))),
                    Tree.slc (Tree.elems (List.headD (List.tail (List.tail (Tree.cs y))) (Tree.bool false)))]])
            fun y =>
            bif Sh.ok (Sh.tup [Sh.int IntKind.i64, Sh.int IntKind.i64]) y then
              Option.bind
                (evP (Tab.env tab) n 14 [Tree.int IntKind.i64 s5, Tree.int IntKind.i64 (Tree.toInt (List.headD (List.tail (Tree.tupl y)) (Tree.bool false)))])
                fun y_1 =>
                bif Sh.ok (Sh.int IntKind.i64) y_1 then
                  L7_1 n q (IntKind.wrap IntKind.i64 (s4 + Tree.toInt (List.headD (Tree.tupl y) (Tree.bool false)))) (Tree.toInt y_1) (IntKind.wrap IntKind.i64 (s7 + 1)) h0_0_0 h0_0_1 h0_0_2
                else none
            else none
        else none
    else none
  else some (Tree.tup [Tree.int IntKind.i64 s4, Tree.int IntKind.i64 s5]) := by kernel_rfl

theorem e8 (n : Nat) (a00 : Int) (a01 : List Tree) (a02 : List Tree) (a10 : Int) (a11 : List Tree) (a12 : List Tree) : evQ (Tab.env tab) n 8 [Tree.agg [Tree.int IntKind.i64 a00, Tree.slc a01, Tree.slc a02], Tree.agg [Tree.int IntKind.i64 a10, Tree.slc a11, Tree.slc a12]] =
    bif a00 == a10 then
    Option.bind (evP (Tab.env tab) n 15 [Tree.slc a01, Tree.slc a11]) fun y =>
      bif Sh.ok Sh.bool y then
        bif Tree.toBool y then
          Option.bind (evP (Tab.env tab) n 16 [Tree.slc a02, Tree.slc a12, Tree.fn 8 [] []]) fun y =>
            bif Sh.ok Sh.bool y then some (Tree.bool (Tree.toBool y)) else none
        else some (Tree.bool false)
      else none
  else some (Tree.bool false) := by kernel_rfl

theorem e9 (n : Nat) (a00 : Int) (a01 : List Tree) (a02 : List Tree) (a10 : Int) (a11 : List Tree) (a12 : List Tree) : evQ (Tab.env tab) n 9 [Tree.agg [Tree.int IntKind.i64 a00, Tree.slc a01, Tree.slc a02], Tree.agg [Tree.int IntKind.i64 a10, Tree.slc a11, Tree.slc a12]] =
    bif a00 != a10 then some (Tree.bool false)
  else
    Option.bind (evP (Tab.env tab) n 17 [Tree.slc a01, Tree.slc a11]) fun y =>
      bif Sh.ok Sh.bool y then
        bif !Tree.toBool y then some (Tree.bool false)
        else
          bif (↑(List.length a02) : Int) != (↑(List.length a12) : Int) then some (Tree.bool false)
          else
            L9_0 n n 0 a00 a01 a02 a10 a11 a12
      else none := by kernel_rfl

theorem l9_0 (n q : Nat) (s5 : Int) (h0_0_0 : Int) (h0_0_1 : List Tree) (h0_0_2 : List Tree) (h1_0_0 : Int) (h1_0_1 : List Tree) (h1_0_2 : List Tree) : L9_0 n (Nat.succ q) s5 h0_0_0 h0_0_1 h0_0_2 h1_0_0 h1_0_1 h1_0_2 =
    bif decide (s5 < (↑(List.length h0_0_2) : Int)) then
    bif decide (0 ≤ s5) then
      Option.bind (nth h0_0_2 (Int.toNat s5)) fun y =>
        bif Sh.ok (Sh.agg [Sh.int IntKind.i64, Sh.slc, Sh.slc]) y then
          bif decide (0 ≤ s5) then
            Option.bind (nth h1_0_2 (Int.toNat s5)) fun y_1 =>
              bif Sh.ok (Sh.agg [Sh.int IntKind.i64, Sh.slc, Sh.slc]) y_1 then
                Option.bind
                  (evP (Tab.env tab) n 9
                    [Tree.agg
                        [Tree.int IntKind.i64 (Tree.toInt (List.headD (Tree.cs y) (Tree.bool false))),
                          Tree.slc (Tree.elems (List.headD (List.tail (Tree.cs y)) (Tree.bool false))),
                          Tree.slc (Tree.elems (List.headD (List.tail (List.tail (Tree.cs y))) (Tree.bool false)))],
                      Tree.agg
                        [Tree.int IntKind.i64 (Tree.toInt (List.headD (Tree.cs y_1) (Tree.bool false))),
                          Tree.slc (Tree.elems (List.headD (List.tail (Tree.cs y_1)) (Tree.bool false))),
                          Tree.slc (Tree.elems (List.headD (List.tail (List.tail (Tree.cs y_1))) (Tree.bool false)))]])
                  fun y =>
                  bif Sh.ok Sh.bool y then
                    bif !Tree.toBool y then some (Tree.bool false)
                    else
                      L9_0 n q (IntKind.wrap IntKind.i64 (s5 + 1)) h0_0_0 h0_0_1 h0_0_2 h1_0_0 h1_0_1 h1_0_2
                  else none
              else none
          else none
        else none
    else none
  else some (Tree.bool true) := by kernel_rfl

theorem e10 (n : Nat) (a00 : Int) (a01 : List Tree) (a02 : List Tree) (a1 : Int) : evQ (Tab.env tab) n 10 [Tree.agg [Tree.int IntKind.i64 a00, Tree.slc a01, Tree.slc a02], Tree.int IntKind.i64 a1] =
    L10_0 n n a1 (IntKind.wrap IntKind.i64 (1 + imin (↑(List.length a01) : Int) a1)) 0 a00 a01 a02 := by kernel_rfl

theorem l10_0 (n q : Nat) (s1 : Int) (s5 : Int) (s6 : Int) (h0_0_0 : Int) (h0_0_1 : List Tree) (h0_0_2 : List Tree) : L10_0 n (Nat.succ q) s1 s5 s6 h0_0_0 h0_0_1 h0_0_2 =
    bif decide (s6 < (↑(List.length h0_0_2) : Int)) then
    bif decide (s5 ≤ s1) then
      bif decide (0 ≤ s6) then
        Option.bind (nth h0_0_2 (Int.toNat s6)) fun y =>
          bif Sh.ok (Sh.agg [Sh.int IntKind.i64, Sh.slc, Sh.slc]) y then
            Option.bind
              (evP (Tab.env tab) n 10
                [Tree.agg
                    [Tree.int IntKind.i64 (Tree.toInt (List.headD (Tree.cs y) (Tree.bool false))),
                      Tree.slc (Tree.elems (List.headD (List.tail (Tree.cs y)) (Tree.bool false))),
                      Tree.slc (Tree.elems (List.headD (List.tail (List.tail (Tree.cs y))) (Tree.bool false)))],
                  Tree.int IntKind.i64 (IntKind.wrap IntKind.i64 (s1 - s5))])
              fun y =>
              bif Sh.ok (Sh.int IntKind.i64) y then
                L10_0 n q s1 (IntKind.wrap IntKind.i64 (s5 + Tree.toInt y)) (IntKind.wrap IntKind.i64 (s6 + 1)) h0_0_0 h0_0_1 h0_0_2
              else none
          else none
      else none
    else some (Tree.int IntKind.i64 (imin s5 (IntKind.wrap IntKind.i64 (s1 + 1))))
  else some (Tree.int IntKind.i64 (imin s5 (IntKind.wrap IntKind.i64 (s1 + 1)))) := by kernel_rfl

theorem e15 (n : Nat) (a0 : List Tree) (a1 : List Tree) : evQ (Tab.env tab) n 15 [Tree.slc a0, Tree.slc a1] =
    bif (↑(List.length a0) : Int) != (↑(List.length a1) : Int) then some (Tree.bool false)
  else
    L15_0 n n a0 a1 (↑(List.length a0) : Int) 0 := by kernel_rfl

theorem l15_0 (n q : Nat) (s0 : List Tree) (s1 : List Tree) (s12 : Int) (s13 : Int) : L15_0 n (Nat.succ q) s0 s1 s12 s13 =
    bif decide (s13 < s12) then
    bif decide (0 ≤ s13) then
      Option.bind (nth s0 (Int.toNat s13)) fun y =>
        bif Sh.ok (Sh.int IntKind.i64) y then
          bif decide (0 ≤ s13) then
            Option.bind (nth s1 (Int.toNat s13)) fun y_1 =>
              bif Sh.ok (Sh.int IntKind.i64) y_1 then
                bif Tree.toInt y != Tree.toInt y_1 then some (Tree.bool false)
                else
                  L15_0 n q s0 s1 s12 (IntKind.wrap IntKind.i64 (s13 + 1))
              else none
          else none
        else none
    else none
  else some (Tree.bool true) := by kernel_rfl

theorem e17 (n : Nat) (a0 : List Tree) (a1 : List Tree) : evQ (Tab.env tab) n 17 [Tree.slc a0, Tree.slc a1] =
    bif (↑(List.length a0) : Int) != (↑(List.length a1) : Int) then some (Tree.bool false)
  else
    L17_0 n n a0 a1 0 := by kernel_rfl

theorem l17_0 (n q : Nat) (s0 : List Tree) (s1 : List Tree) (s5 : Int) : L17_0 n (Nat.succ q) s0 s1 s5 =
    bif decide (s5 < (↑(List.length s0) : Int)) then
    bif decide (0 ≤ s5) then
      Option.bind (nth s0 (Int.toNat s5)) fun y =>
        bif Sh.ok (Sh.int IntKind.i64) y then
          bif decide (0 ≤ s5) then
            Option.bind (nth s1 (Int.toNat s5)) fun y_1 =>
              bif Sh.ok (Sh.int IntKind.i64) y_1 then
                bif Tree.toInt y != Tree.toInt y_1 then some (Tree.bool false)
                else
                  L17_0 n q s0 s1 (IntKind.wrap IntKind.i64 (s5 + 1))
              else none
          else none
        else none
    else none
  else some (Tree.bool true) := by kernel_rfl

theorem e16x (n : Nat) (a0 : List Tree) (a1 : List Tree) : evQ (Tab.env tab) n 16 [Tree.slc a0, Tree.slc a1, Tree.fn 8 [] []] =
    bif (↑(List.length a0) : Int) != (↑(List.length a1) : Int) then some (Tree.bool false)
  else
    L16_0x n n a1 a0 (↑(List.length a0) : Int) 0 := by kernel_rfl

theorem l16_0x (n q : Nat) (s1 : List Tree) (s15 : List Tree) (s16 : Int) (s17 : Int) : L16_0x n (Nat.succ q) s1 s15 s16 s17 =
    bif decide (s17 < s16) then
    bif decide (0 ≤ s17) then
      Option.bind (nth s15 (Int.toNat s17)) fun y =>
        bif Sh.ok (Sh.agg [Sh.int IntKind.i64, Sh.slc, Sh.slc]) y then
          bif decide (0 ≤ s17) then
            Option.bind (nth s1 (Int.toNat s17)) fun y_1 =>
              bif Sh.ok (Sh.agg [Sh.int IntKind.i64, Sh.slc, Sh.slc]) y_1 then
                Option.bind
                  (evP (Tab.env tab) n 8
                    [Tree.agg
                        [Tree.int IntKind.i64 (Tree.toInt (List.headD (Tree.cs y) (Tree.bool false))),
                          Tree.slc (Tree.elems (List.headD (List.tail (Tree.cs y)) (Tree.bool false))),
                          Tree.slc (Tree.elems (List.headD (List.tail (List.tail (Tree.cs y))) (Tree.bool false)))],
                      Tree.agg
                        [Tree.int IntKind.i64 (Tree.toInt (List.headD (Tree.cs y_1) (Tree.bool false))),
                          Tree.slc (Tree.elems (List.headD (List.tail (Tree.cs y_1)) (Tree.bool false))),
                          Tree.slc (Tree.elems (List.headD (List.tail (List.tail (Tree.cs y_1))) (Tree.bool false)))]])
                  fun y =>
                  bif Sh.ok Sh.bool y then
                    bif !Tree.toBool y then some (Tree.bool false)
                    else
                      L16_0x n q s1 s15 s16 (IntKind.wrap IntKind.i64 (s17 + 1))
                  else none
              else none
          else none
        else none
    else none
  else some (Tree.bool true) := by kernel_rfl

end Go.Proofs.Dw.Zl
end

/-
  CertSizes: certificates; their sizes; which are the same.
-/
section
namespace Go.Proofs.Dw.Zl
open Go.Proofs

abbrev E : Env := Tab.env tab

/-- A certificate: its kind, its numbers, its parts. -/
inductive Crt where
  | mk (k : Int) (st : List Int) (l : List Crt)

abbrev T (l : List Int) : List Tree := l.map (.int .i64)

mutual
def encC : Crt → Tree
  | .mk k st l => .agg [.int .i64 k, .slc (T st), .slc (encCs l)]
def encCs : List Crt → List Tree
  | [] => []
  | c :: r => encC c :: encCs r
end

theorem encCs_map : ∀ l : List Crt, encCs l = l.map encC
  | [] => rfl
  | _ :: r => by rw [encCs, encCs_map r]; rfl

mutual
/-- Its nodes and its numbers. -/
def wt : Crt → Nat
  | .mk _ st l => 1 + st.length + wts l
def wts : List Crt → Nat
  | [] => 0
  | c :: r => wt c + wts r
end

mutual
/-- What 'nodes' counts. -/
def nd (m : Nat) : Crt → Nat
  | .mk _ st l => min (ndl m (1 + min st.length m) l) (m + 1)
def ndl (m : Nat) (n : Nat) : List Crt → Nat
  | [] => n
  | c :: r => if n ≤ m then ndl m (n + nd (m - n) c) r else n
end

theorem wt_pos (c : Crt) : 1 ≤ wt c := by cases c; unfold wt; omega
theorem len_wts : ∀ l : List Crt, l.length ≤ wts l
  | [] => by simp [wts]
  | c :: r => by have := len_wts r; have := wt_pos c; simp [wts]; omega

mutual
theorem ndl_ge : ∀ (l : List Crt) (m n : Nat), n ≤ ndl m n l
  | [], m, n => by simp [ndl]
  | c :: r, m, n => by
    unfold ndl
    split
    · have := ndl_ge r m (n + nd (m - n) c); omega
    · exact Nat.le_refl _
end

theorem nd_pos (m : Nat) (c : Crt) : 1 ≤ nd m c := by
  cases c with
  | mk k st l =>
    unfold nd
    have := ndl_ge l m (1 + min st.length m)
    omega

theorem nd_le (m : Nat) (c : Crt) : nd m c ≤ m + 1 := by
  cases c; unfold nd; omega

mutual
theorem nd_wt : ∀ (c : Crt) (m : Nat), nd m c ≤ m → nd m c = wt c
  | .mk k st l, m, h => by
    unfold nd wt at *
    have h1 : ndl m (1 + min st.length m) l ≤ m := by omega
    have h2 := ndl_wt l m _ h1
    have h3 := ndl_ge l m (1 + min st.length m)
    omega
theorem ndl_wt : ∀ (l : List Crt) (m n : Nat), ndl m n l ≤ m → ndl m n l = n + wts l
  | [], m, n, h => by simp [ndl, wts]
  | c :: r, m, n, h => by
    unfold ndl at h ⊢
    unfold wts
    by_cases hn : n ≤ m
    · rw [if_pos hn] at h ⊢
      have h2 := ndl_wt r m _ h
      have h3 := ndl_ge r m (n + nd (m - n) c)
      have h4 := nd_wt c (m - n) (by omega)
      omega
    · rw [if_neg hn] at h; omega
end

theorem okC_sh (c : Crt) : Sh.ok (Sh.agg [Sh.int IntKind.i64, Sh.slc, Sh.slc]) (encC c) = true := by cases c; simp [encC]
theorem lookC (c : Crt) : Tree.agg [Tree.int IntKind.i64 (Tree.toInt (List.headD (Tree.cs (encC c)) (Tree.bool false))), Tree.slc (Tree.elems (List.headD (List.tail (Tree.cs (encC c))) (Tree.bool false))), Tree.slc (Tree.elems (List.headD (List.tail (List.tail (Tree.cs (encC c)))) (Tree.bool false)))] = encC c := by
  cases c; simp [encC]
theorem nthC (pre : List Crt) (x : Crt) (r : List Crt) : nth (encCs (pre ++ x :: r)) pre.length = some (encC x) := by
  rw [encCs_map, nth_map, nth_app]; rfl
theorem lenC (l : List Crt) : (encCs l).length = l.length := by rw [encCs_map, List.length_map]
theorem nthI (pre : List Int) (x : Int) (r : List Int) : nth (T (pre ++ x :: r)) pre.length = some (I x) := by
  rw [nth_map, nth_app]; rfl

theorem iminN (a b : Nat) : imin (a : Int) b = ((min a b : Nat) : Int) := by
  unfold imin
  split <;> omega

mutual
theorem s10 : ∀ (c : Crt) (m : Nat), m ≤ 3000 → Ev E (2 * m + 4) 10 [encC c, I m] (I (nd m c : Nat))
  | .mk k st l, m, hm => Ev.mk fun n hn => by
    rw [encC, e10]
    have := l10 l [] k st n n m (1 + min st.length m) (by omega) hm (by omega) (by simp) (by omega)
    simp only [List.nil_append, List.length_nil] at this
    rw [show (T st).length = st.length by simp, iminN, show (1 : Int) + ((min st.length m : Nat) : Int) = ((1 + min st.length m : Nat) : Int) by omega, w64 (by omega)]
    unfold nd
    exact this
theorem l10 : ∀ (r pre : List Crt) (k : Int) (st : List Int) (n q m s : Nat), m + 2 ≤ q + s → m ≤ 3000 → 2 * m + 3 ≤ n → pre.length + 1 ≤ s → 1 ≤ q → L10_0 n q m s (pre.length : Nat) k (T st) (encCs (pre ++ r)) = some (I ((min (ndl m s r) (m + 1) : Nat) : Int))
  | [], pre, k, st, n, q, m, s, hq, hm, hn, hs, h1 => by
    obtain ⟨q, rfl⟩ : ∃ k, q = k + 1 := ⟨q - 1, by omega⟩
    rw [show q + 1 = Nat.succ q from rfl, l10_0, lenC, bif_neg (by simp), w64 (by omega), show ((m : Nat) : Int) + 1 = ((m + 1 : Nat) : Int) by omega, iminN]
    simp [ndl]
  | x :: r, pre, k, st, n, q, m, s, hq, hm, hn, hs, h1 => by
    obtain ⟨q, rfl⟩ : ∃ k, q = k + 1 := ⟨q - 1, by omega⟩
    have hpl : pre.length < (pre ++ x :: r).length := by simp
    rw [show q + 1 = Nat.succ q from rfl, l10_0, lenC, bif_pos (by exact decide_eq_true (by omega))]
    unfold ndl
    by_cases hsm : s ≤ m
    · rw [bif_pos (by exact decide_eq_true (by omega)), bif_pos (by exact decide_eq_true (by omega)), Int.toNat_natCast, nthC, Option.bind_some, okC_sh, cond_true, lookC]
      rw [show ((m : Nat) : Int) - (s : Nat) = ((m - s : Nat) : Int) by omega, w64 (by omega), s10 x (m - s) (by omega) n (by omega)]
      have hp := nd_pos (m - s) x
      have hle := nd_le (m - s) x
      simp only [Option.bind_some, ok_int, cond_true, toInt_int]
      rw [show ((s : Nat) : Int) + ((nd (m - s) x : Nat) : Int) = ((s + nd (m - s) x : Nat) : Int) by omega, w64 (by omega), show ((pre.length : Nat) : Int) + 1 = ((pre.length + 1 : Nat) : Int) by omega, w64 (by omega), if_pos hsm]
      by_cases hq0 : 1 ≤ q
      · have ih := l10 r (pre ++ [x]) k st n q m (s + nd (m - s) x) (by omega) hm hn (by simp; omega) hq0
        simp only [List.append_assoc, List.singleton_append, List.length_append, List.length_singleton] at ih
        exact ih
      · omega
    · rw [bif_neg (by exact decide_eq_false (by omega)), w64 (by omega), show ((m : Nat) : Int) + 1 = ((m + 1 : Nat) : Int) by omega, iminN, if_neg hsm]
end

end Go.Proofs.Dw.Zl
end

/-
  CertSizes: the sizes; which are the same; the law.
-/
section
namespace Go.Proofs.Dw.Zl
open Go.Proofs

def add (a b : Int) : Int := if a < 0 then -1 else if b < 0 then -1 else if b > 20000 - a then -1 else a + b

theorem add_range {a : Int} (h : -1 ≤ a ∧ a ≤ 20000) (b : Int) : -1 ≤ add a b ∧ add a b ≤ 20000 := by
  unfold add
  split
  · omega
  · split
    · omega
    · split <;> omega

theorem s13 (a b : Int) (h : -1 ≤ a ∧ a ≤ 20000) : Ev E 1 13 [I a, I b] (I (add a b)) := Ev.mk fun n hn => by
  rw [e13]
  unfold add
  by_cases h1 : a < 0
  · rw [bif_pos (decide_eq_true h1), if_pos h1]
  · rw [bif_neg (decide_eq_false h1), if_neg h1]
    by_cases h2 : b < 0
    · rw [bif_pos (decide_eq_true h2), if_pos h2]
    · rw [bif_neg (decide_eq_false h2), if_neg h2, w64 (x := 20000 - a) (by omega)]
      by_cases h3 : b > 20000 - a
      · rw [bif_pos (decide_eq_true h3), if_pos h3]
      · rw [bif_neg (decide_eq_false h3), if_neg h3, w64 (by omega)]

theorem s14 (a b : Int) (h : -1 ≤ a ∧ a ≤ 20000) : Ev E 1 14 [I a, I b] (I (add a b)) := Ev.mk fun n hn => by
  rw [e14]
  unfold add
  by_cases h1 : a < 0
  · rw [bif_pos (decide_eq_true h1), if_pos h1]
  · rw [bif_neg (decide_eq_false h1), if_neg h1]
    by_cases h2 : b < 0
    · rw [bif_pos (decide_eq_true h2), if_pos h2]
    · rw [bif_neg (decide_eq_false h2), if_neg h2, w64 (x := 20000 - a) (by omega)]
      by_cases h3 : b > 20000 - a
      · rw [bif_pos (decide_eq_true h3), if_pos h3]
      · rw [bif_neg (decide_eq_false h3), if_neg h3, w64 (by omega)]

/-- The sum of a list's numbers, behind s. -/
def addL (s : Int) : List Int → Int
  | [] => s
  | x :: r => addL (add s x) r

theorem addL_range : ∀ (l : List Int) {s : Int}, -1 ≤ s ∧ s ≤ 20000 → -1 ≤ addL s l ∧ addL s l ≤ 20000
  | [], _, h => h
  | x :: r, _, h => addL_range r (add_range h x)

mutual
def nodesC : Crt → Nat
  | .mk _ _ l => nodesCs 1 l
def nodesCs (a : Nat) : List Crt → Nat
  | [] => a
  | c :: r => nodesCs (a + nodesC c) r
end
mutual
def sumC : Crt → Int
  | .mk _ st l => sumCs (addL 0 st) l
def sumCs (s : Int) : List Crt → Int
  | [] => s
  | c :: r => sumCs (add s (sumC c)) r
end

theorem sumCs_range : ∀ (l : List Crt) {s : Int}, -1 ≤ s ∧ s ≤ 20000 → -1 ≤ sumCs s l ∧ sumCs s l ≤ 20000
  | [], _, h => by simpa [sumCs] using h
  | x :: r, s, h => by unfold sumCs; exact sumCs_range r (add_range h _)

mutual
theorem nodesC_le : ∀ c : Crt, nodesC c ≤ wt c
  | .mk k st l => by unfold nodesC wt; have := nodesCs_le l 1; omega
theorem nodesCs_le : ∀ (l : List Crt) (a : Nat), nodesCs a l ≤ a + wts l
  | [], a => by simp [nodesCs]
  | c :: r, a => by unfold nodesCs wts; have := nodesCs_le r (a + nodesC c); have := nodesC_le c; omega
end

theorem l6s : ∀ (r pre : List Int) (n q : Nat) (s2 s : Int) (k : Int) (x y : List Tree), r.length < q → 1 ≤ n → (pre ++ r).length ≤ 1000000 → -1 ≤ s ∧ s ≤ 20000 →
    L6_0 n q s2 s (T (pre ++ r)) ((pre ++ r).length : Nat) (pre.length : Nat) k x y = L6_1 n n s2 (addL s r) y (y.length : Nat) 0
  | [], pre, n, q, s2, s, k, x, y, hq, hn, hl, hs => by
    obtain ⟨q, rfl⟩ : ∃ k, q = k + 1 := ⟨q - 1, by omega⟩
    rw [show q + 1 = Nat.succ q from rfl, l6_0, bif_neg (by simp)]
    rfl
  | z :: r, pre, n, q, s2, s, k, x, y, hq, hn, hl, hs => by
    obtain ⟨q, rfl⟩ : ∃ k, q = k + 1 := ⟨q - 1, by omega⟩
    simp only [List.length_cons] at hq
    have hpl : pre.length < (pre ++ z :: r).length := by simp
    rw [show q + 1 = Nat.succ q from rfl, l6_0, bif_pos (by exact decide_eq_true (by omega)), bif_pos (by exact decide_eq_true (by omega)), Int.toNat_natCast, nthI]
    simp only [Option.bind_some, ok_int, cond_true, toInt_int]
    rw [s13 s z hs n hn]
    simp only [Option.bind_some, ok_int, cond_true, toInt_int]
    rw [show ((pre.length : Nat) : Int) + 1 = ((pre.length + 1 : Nat) : Int) by omega, w64 (by omega)]
    have ih := l6s r (pre ++ [z]) n q s2 (add s z) k x y (by omega) hn (by simp at hl ⊢; omega) (add_range hs z)
    simp only [List.append_assoc, List.singleton_append, List.length_append, List.length_singleton] at ih
    simp only [addL, List.length_append]
    exact ih

mutual
theorem s6 : ∀ c : Crt, wt c ≤ 100000 → Ev E (2 * wt c + 2) 6 [encC c] (.tup [I (nodesC c : Nat), I (sumC c)])
  | .mk k st l, h => Ev.mk fun n hn => by
    unfold wt at h hn
    have hw := len_wts l
    rw [encC, e6]
    have h1 := l6s st [] n n 1 0 k (T st) (encCs l) (by omega) (by omega) (by simp; omega) (by omega)
    simp only [List.nil_append, List.length_nil] at h1
    rw [show (T st).length = st.length by simp]
    refine h1.trans ?_
    rw [lenC]
    have h2 := l6 l [] n n 1 (addL 0 st) (by omega) (by omega) (by omega) (by omega) (by simp) (addL_range st (by omega))
    simp only [List.nil_append, List.length_nil] at h2
    unfold nodesC sumC
    exact h2
theorem l6 : ∀ (r pre : List Crt) (n q a : Nat) (s : Int), r.length < q → 2 * wts r + 2 ≤ n → wts r ≤ 100000 → a + wts r ≤ 1000000 → pre.length ≤ 1000000 - wts r → -1 ≤ s ∧ s ≤ 20000 →
    L6_1 n q a s (encCs (pre ++ r)) ((pre ++ r).length : Nat) (pre.length : Nat) = some (.tup [I (nodesCs a r : Nat), I (sumCs s r)])
  | [], pre, n, q, a, s, hq, hn, hb, ha, hp, hs => by
    obtain ⟨q, rfl⟩ : ∃ k, q = k + 1 := ⟨q - 1, by omega⟩
    rw [show q + 1 = Nat.succ q from rfl, l6_1, bif_neg (by simp)]
    simp [nodesCs, sumCs]
  | x :: r, pre, n, q, a, s, hq, hn, hb, ha, hp, hs => by
    obtain ⟨q, rfl⟩ : ∃ k, q = k + 1 := ⟨q - 1, by omega⟩
    simp only [List.length_cons] at hq
    unfold wts at hn hb ha hp
    have hx := wt_pos x
    have hnx := nodesC_le x
    have hpl : pre.length < (pre ++ x :: r).length := by simp
    rw [show q + 1 = Nat.succ q from rfl, l6_1, bif_pos (by exact decide_eq_true (by omega)), bif_pos (by exact decide_eq_true (by omega)), Int.toNat_natCast, nthC, Option.bind_some, okC_sh, cond_true, lookC]
    rw [s6 x (by omega) n (by omega)]
    simp only [Option.bind_some, ok_tup, oks_cons, ok_int, oks_nil, Bool.and_true, cond_true, tupl_tup, List.headD_cons, List.tail_cons, toInt_int]
    rw [s13 s (sumC x) hs n (by omega)]
    simp only [Option.bind_some, ok_int, cond_true, toInt_int]
    rw [show (a : Int) + (nodesC x : Int) = ((a + nodesC x : Nat) : Int) by omega, w64 (by omega), show ((pre.length : Nat) : Int) + 1 = ((pre.length + 1 : Nat) : Int) by omega, w64 (by omega)]
    have ih := l6 r (pre ++ [x]) n q (a + nodesC x) (add s (sumC x)) (by omega) (by omega) (by omega) (by omega) (by simp; omega) (add_range hs _)
    simp only [List.append_assoc, List.singleton_append, List.length_append, List.length_singleton] at ih
    simp only [nodesCs, sumCs, List.length_append]
    exact ih
end

theorem l7s : ∀ (r pre : List Int) (n q : Nat) (s4 s : Int) (k : Int) (y : List Tree), r.length < q → 1 ≤ n → (pre ++ r).length ≤ 1000000 → -1 ≤ s ∧ s ≤ 20000 →
    L7_0 n q s4 s (pre.length : Nat) k (T (pre ++ r)) y = L7_1 n n s4 (addL s r) 0 k (T (pre ++ r)) y
  | [], pre, n, q, s4, s, k, y, hq, hn, hl, hs => by
    obtain ⟨q, rfl⟩ : ∃ k, q = k + 1 := ⟨q - 1, by omega⟩
    rw [show q + 1 = Nat.succ q from rfl, l7_0, bif_neg (by simp)]
    rfl
  | z :: r, pre, n, q, s4, s, k, y, hq, hn, hl, hs => by
    obtain ⟨q, rfl⟩ : ∃ k, q = k + 1 := ⟨q - 1, by omega⟩
    simp only [List.length_cons] at hq
    rw [show q + 1 = Nat.succ q from rfl, l7_0, bif_pos (by simp; omega), bif_pos (by exact decide_eq_true (by omega)), Int.toNat_natCast, nthI]
    simp only [Option.bind_some, ok_int, cond_true, toInt_int]
    rw [s14 s z hs n hn]
    simp only [Option.bind_some, ok_int, cond_true, toInt_int]
    simp only [List.length_append, List.length_cons] at hl
    rw [show ((pre.length : Nat) : Int) + 1 = ((pre.length + 1 : Nat) : Int) by omega, w64 (by omega)]
    have ih := l7s r (pre ++ [z]) n q s4 (add s z) k y (by omega) hn (by simp; omega) (add_range hs z)
    simp only [List.append_assoc, List.singleton_append, List.length_append, List.length_singleton] at ih
    simp only [addL]
    exact ih

mutual
theorem s7 : ∀ c : Crt, wt c ≤ 100000 → Ev E (2 * wt c + 2) 7 [encC c] (.tup [I (nodesC c : Nat), I (sumC c)])
  | .mk k st l, h => Ev.mk fun n hn => by
    unfold wt at h hn
    have hw := len_wts l
    rw [encC, e7]
    have h1 := l7s st [] n n 1 0 k (encCs l) (by omega) (by omega) (by simp; omega) (by omega)
    simp only [List.nil_append, List.length_nil] at h1
    refine h1.trans ?_
    have h2 := l7 l [] n n 1 (addL 0 st) k (T st) (by omega) (by omega) (by omega) (by omega) (by simp) (addL_range st (by omega))
    simp only [List.nil_append, List.length_nil] at h2
    unfold nodesC sumC
    exact h2
theorem l7 : ∀ (r pre : List Crt) (n q a : Nat) (s : Int) (k : Int) (t : List Tree), r.length < q → 2 * wts r + 2 ≤ n → wts r ≤ 100000 → a + wts r ≤ 1000000 → pre.length ≤ 1000000 - wts r → -1 ≤ s ∧ s ≤ 20000 →
    L7_1 n q a s (pre.length : Nat) k t (encCs (pre ++ r)) = some (.tup [I (nodesCs a r : Nat), I (sumCs s r)])
  | [], pre, n, q, a, s, k, t, hq, hn, hb, ha, hp, hs => by
    obtain ⟨q, rfl⟩ : ∃ k, q = k + 1 := ⟨q - 1, by omega⟩
    rw [show q + 1 = Nat.succ q from rfl, l7_1, lenC, bif_neg (by simp)]
    simp [nodesCs, sumCs]
  | x :: r, pre, n, q, a, s, k, t, hq, hn, hb, ha, hp, hs => by
    obtain ⟨q, rfl⟩ : ∃ k, q = k + 1 := ⟨q - 1, by omega⟩
    simp only [List.length_cons] at hq
    unfold wts at hn hb ha hp
    have hx := wt_pos x
    have hnx := nodesC_le x
    have hpl : pre.length < (pre ++ x :: r).length := by simp
    rw [show q + 1 = Nat.succ q from rfl, l7_1, lenC, bif_pos (by exact decide_eq_true (by omega)), bif_pos (by exact decide_eq_true (by omega)), Int.toNat_natCast, nthC, Option.bind_some, okC_sh, cond_true, lookC]
    rw [s7 x (by omega) n (by omega)]
    simp only [Option.bind_some, ok_tup, oks_cons, ok_int, oks_nil, Bool.and_true, cond_true, tupl_tup, List.headD_cons, List.tail_cons, toInt_int]
    rw [s14 s (sumC x) hs n (by omega)]
    simp only [Option.bind_some, ok_int, cond_true, toInt_int]
    rw [show (a : Int) + (nodesC x : Int) = ((a + nodesC x : Nat) : Int) by omega, w64 (by omega), show ((pre.length : Nat) : Int) + 1 = ((pre.length + 1 : Nat) : Int) by omega, w64 (by omega)]
    have ih := l7 r (pre ++ [x]) n q (a + nodesC x) (add s (sumC x)) k t (by omega) (by omega) (by omega) (by omega) (by simp; omega) (add_range hs _)
    simp only [List.append_assoc, List.singleton_append, List.length_append, List.length_singleton] at ih
    simp only [nodesCs, sumCs]
    exact ih
end

/-! ### the same -/
def eqI : List Int → List Int → Bool
  | [], [] => true
  | x :: r, y :: s => (x == y) && eqI r s
  | _, _ => false

mutual
def eqC : Crt → Crt → Bool
  | .mk k st l, .mk k' st' l' => (k == k') && (eqI st st' && eqCs l l')
def eqCs : List Crt → List Crt → Bool
  | [], [] => true
  | x :: r, y :: s => eqC x y && eqCs r s
  | _, _ => false
end

theorem eqI_len : ∀ {a b : List Int}, a.length ≠ b.length → eqI a b = false
  | [], [], h => by simp at h
  | [], _ :: _, _ => rfl
  | _ :: _, [], _ => rfl
  | x :: r, y :: s, h => by simp only [eqI]; rw [eqI_len (by simpa using h)]; simp
theorem eqCs_len : ∀ {a b : List Crt}, a.length ≠ b.length → eqCs a b = false
  | [], [], h => by simp at h
  | [], _ :: _, _ => rfl
  | _ :: _, [], _ => rfl
  | x :: r, y :: s, h => by simp only [eqCs]; rw [eqCs_len (by simpa using h)]; simp

theorem l15s : ∀ (r s pre pre' : List Int) (n q : Nat), r.length < q → r.length = s.length → pre.length = pre'.length → (pre ++ r).length ≤ 1000000 →
    L15_0 n q (T (pre ++ r)) (T (pre' ++ s)) ((pre ++ r).length : Nat) (pre.length : Nat) = some (.bool (eqI r s))
  | [], s, pre, pre', n, q, hq, he, hp, hl => by
    obtain ⟨q, rfl⟩ : ∃ k, q = k + 1 := ⟨q - 1, by omega⟩
    have : s = [] := List.eq_nil_of_length_eq_zero he.symm
    subst this
    rw [show q + 1 = Nat.succ q from rfl, l15_0, bif_neg (by simp)]
    rfl
  | x :: r, [], pre, pre', n, q, hq, he, hp, hl => by simp at he
  | x :: r, y :: s, pre, pre', n, q, hq, he, hp, hl => by
    obtain ⟨q, rfl⟩ : ∃ k, q = k + 1 := ⟨q - 1, by omega⟩
    simp only [List.length_cons] at hq he
    have hpl : pre.length < (pre ++ x :: r).length := by simp
    have n2 : nth (T (pre' ++ y :: s)) pre.length = some (I y) := by rw [hp]; exact nthI pre' y s
    rw [show q + 1 = Nat.succ q from rfl, l15_0, bif_pos (by exact decide_eq_true (by omega)), bif_pos (by exact decide_eq_true (by omega)), Int.toNat_natCast, nthI, n2]
    simp only [Option.bind_some, ok_int, cond_true, toInt_int]
    rw [bif_pos (by exact decide_eq_true (by omega))]
    unfold eqI
    by_cases hxy : x = y
    · subst hxy
      rw [bif_neg (by simp), show ((pre.length : Nat) : Int) + 1 = ((pre.length + 1 : Nat) : Int) by omega, w64 (by omega)]
      have ih := l15s r s (pre ++ [x]) (pre' ++ [x]) n q (by omega) (by omega) (by simp; omega) (by simp at hl ⊢; omega)
      simp only [List.append_assoc, List.singleton_append, List.length_append, List.length_singleton] at ih
      simp only [List.length_append, beq_self_eq_true, Bool.true_and]
      exact ih
    · rw [bif_pos (by simp [hxy])]
      simp [hxy]

theorem s15 (a b : List Int) (ha : a.length ≤ 100000) : Ev E (a.length + 2) 15 [.slc (T a), .slc (T b)] (.bool (eqI a b)) := Ev.mk fun n hn => by
  rw [e15, show (T a).length = a.length by simp, show (T b).length = b.length by simp]
  by_cases h : a.length = b.length
  · rw [bif_neg (by simp [h])]
    have := l15s a b [] [] n n (by omega) h rfl (by simp; omega)
    simpa using this
  · rw [bif_pos (by simp; omega), eqI_len h]

theorem l17s : ∀ (r s pre pre' : List Int) (n q : Nat), r.length < q → r.length = s.length → pre.length = pre'.length → (pre ++ r).length ≤ 1000000 →
    L17_0 n q (T (pre ++ r)) (T (pre' ++ s)) (pre.length : Nat) = some (.bool (eqI r s))
  | [], s, pre, pre', n, q, hq, he, hp, hl => by
    obtain ⟨q, rfl⟩ : ∃ k, q = k + 1 := ⟨q - 1, by omega⟩
    have : s = [] := List.eq_nil_of_length_eq_zero he.symm
    subst this
    rw [show q + 1 = Nat.succ q from rfl, l17_0, bif_neg (by simp)]
    rfl
  | x :: r, [], pre, pre', n, q, hq, he, hp, hl => by simp at he
  | x :: r, y :: s, pre, pre', n, q, hq, he, hp, hl => by
    obtain ⟨q, rfl⟩ : ∃ k, q = k + 1 := ⟨q - 1, by omega⟩
    simp only [List.length_cons] at hq he
    have n2 : nth (T (pre' ++ y :: s)) pre.length = some (I y) := by rw [hp]; exact nthI pre' y s
    rw [show q + 1 = Nat.succ q from rfl, l17_0, bif_pos (by simp; omega), bif_pos (by exact decide_eq_true (by omega)), Int.toNat_natCast, nthI, n2]
    simp only [Option.bind_some, ok_int, cond_true, toInt_int]
    rw [bif_pos (by exact decide_eq_true (by omega))]
    unfold eqI
    by_cases hxy : x = y
    · subst hxy
      simp only [List.length_append, List.length_cons] at hl
      rw [bif_neg (by simp), show ((pre.length : Nat) : Int) + 1 = ((pre.length + 1 : Nat) : Int) by omega, w64 (by omega)]
      have ih := l17s r s (pre ++ [x]) (pre' ++ [x]) n q (by omega) (by omega) (by simp; omega) (by simp; omega)
      simp only [List.append_assoc, List.singleton_append, List.length_append, List.length_singleton] at ih
      simp only [beq_self_eq_true, Bool.true_and]
      exact ih
    · rw [bif_pos (by simp [hxy])]
      simp [hxy]

theorem s17 (a b : List Int) (ha : a.length ≤ 100000) : Ev E (a.length + 2) 17 [.slc (T a), .slc (T b)] (.bool (eqI a b)) := Ev.mk fun n hn => by
  rw [e17, show (T a).length = a.length by simp, show (T b).length = b.length by simp]
  by_cases h : a.length = b.length
  · rw [bif_neg (by simp [h])]
    have := l17s a b [] [] n n (by omega) h rfl (by simp; omega)
    simpa using this
  · rw [bif_pos (by simp; omega), eqI_len h]

mutual
theorem s8 : ∀ (a b : Crt), wt a ≤ 100000 → Ev E (4 * wt a + 3) 8 [encC a, encC b] (.bool (eqC a b))
  | .mk k st l, .mk k' st' l', h => Ev.mk fun n hn => by
    unfold wt at h hn
    rw [encC, encC, e8]
    unfold eqC
    by_cases hk : k = k'
    · subst hk
      rw [bif_pos (by simp), s15 st st' (by omega) n (by omega)]
      simp only [Option.bind_some, ok_bool, cond_true, toBool_bool, beq_self_eq_true, Bool.true_and]
      cases eqI st st' with
      | false => rfl
      | true =>
        simp only [cond_true, Bool.true_and]
        rw [s16 l l' (by omega) n (by omega)]
        simp only [Option.bind_some, ok_bool, cond_true, toBool_bool]
    · rw [bif_neg (by simp [hk])]
      simp [hk]
theorem s16 : ∀ (a b : List Crt), wts a ≤ 100000 → Ev E (4 * wts a + 4) 16 [.slc (encCs a), .slc (encCs b), .fn 8 [] []] (.bool (eqCs a b))
  | a, b, h => Ev.mk fun n hn => by
    have hw := len_wts a
    rw [e16x, lenC, lenC]
    by_cases hl : a.length = b.length
    · rw [bif_neg (by simp [hl])]
      have := l16 a b [] [] n n (by omega) (by omega) h hl rfl (by simp)
      simpa using this
    · rw [bif_pos (by simp; omega), eqCs_len hl]
theorem l16 : ∀ (r s pre pre' : List Crt) (n q : Nat), r.length < q → 4 * wts r + 3 ≤ n → wts r ≤ 100000 → r.length = s.length → pre.length = pre'.length → pre.length ≤ 1000000 - wts r →
    L16_0x n q (encCs (pre' ++ s)) (encCs (pre ++ r)) ((pre ++ r).length : Nat) (pre.length : Nat) = some (.bool (eqCs r s))
  | [], s, pre, pre', n, q, hq, hn, hw, he, hp, hl => by
    obtain ⟨q, rfl⟩ : ∃ k, q = k + 1 := ⟨q - 1, by omega⟩
    have : s = [] := List.eq_nil_of_length_eq_zero he.symm
    subst this
    rw [show q + 1 = Nat.succ q from rfl, l16_0x, bif_neg (by simp)]
    simp [eqCs]
  | x :: r, [], pre, pre', n, q, hq, hn, hw, he, hp, hl => by simp at he
  | x :: r, y :: s, pre, pre', n, q, hq, hn, hw, he, hp, hl => by
    obtain ⟨q, rfl⟩ : ∃ k, q = k + 1 := ⟨q - 1, by omega⟩
    simp only [List.length_cons] at hq he
    unfold wts at hn hw hl
    have hx := wt_pos x
    have hpl : pre.length < (pre ++ x :: r).length := by simp
    have n2 : nth (encCs (pre' ++ y :: s)) pre.length = some (encC y) := by rw [hp]; exact nthC pre' y s
    rw [show q + 1 = Nat.succ q from rfl, l16_0x, bif_pos (by exact decide_eq_true (by omega)), bif_pos (by exact decide_eq_true (by omega)), Int.toNat_natCast, nthC, n2]
    simp only [Option.bind_some, okC_sh, cond_true]
    rw [bif_pos (by exact decide_eq_true (by omega)), lookC, lookC, s8 x y (by omega) n (by omega)]
    simp only [Option.bind_some, ok_bool, cond_true, toBool_bool]
    unfold eqCs
    cases hxy : eqC x y with
    | false => rfl
    | true =>
      rw [bif_neg (by rfl), show ((pre.length : Nat) : Int) + 1 = ((pre.length + 1 : Nat) : Int) by omega, w64 (by omega)]
      have ih := l16 r s (pre ++ [x]) (pre' ++ [y]) n q (by omega) (by omega) (by omega) (by omega) (by simp; omega) (by simp; omega)
      simp only [List.append_assoc, List.singleton_append, List.length_append, List.length_singleton] at ih
      simp only [List.length_append, Bool.true_and]
      exact ih
end

mutual
theorem s9 : ∀ (a b : Crt), wt a ≤ 100000 → Ev E (3 * wt a + 3) 9 [encC a, encC b] (.bool (eqC a b))
  | .mk k st l, .mk k' st' l', h => Ev.mk fun n hn => by
    unfold wt at h hn
    have hw := len_wts l
    rw [encC, encC, e9]
    unfold eqC
    by_cases hk : k = k'
    · subst hk
      rw [bif_neg (by simp), s17 st st' (by omega) n (by omega)]
      simp only [Option.bind_some, ok_bool, cond_true, toBool_bool, beq_self_eq_true, Bool.true_and]
      cases eqI st st' with
      | false => rfl
      | true =>
        rw [bif_neg (by rfl), lenC, lenC]
        simp only [Bool.true_and]
        by_cases hl : l.length = l'.length
        · rw [bif_neg (by simp [hl])]
          have := l9 l l' [] [] k (T st) k (T st') n n (by omega) (by omega) (by omega) hl rfl (by simp)
          simpa using this
        · rw [bif_pos (by simp; omega), eqCs_len hl]
    · rw [bif_pos (by simp [hk])]
      simp [hk]
theorem l9 : ∀ (r s pre pre' : List Crt) (k : Int) (t : List Tree) (k' : Int) (t' : List Tree) (n q : Nat), r.length < q → 3 * wts r + 3 ≤ n → wts r ≤ 100000 → r.length = s.length → pre.length = pre'.length → pre.length ≤ 1000000 - wts r →
    L9_0 n q (pre.length : Nat) k t (encCs (pre ++ r)) k' t' (encCs (pre' ++ s)) = some (.bool (eqCs r s))
  | [], s, pre, pre', k, t, k', t', n, q, hq, hn, hw, he, hp, hl => by
    obtain ⟨q, rfl⟩ : ∃ k, q = k + 1 := ⟨q - 1, by omega⟩
    have : s = [] := List.eq_nil_of_length_eq_zero he.symm
    subst this
    rw [show q + 1 = Nat.succ q from rfl, l9_0, lenC, bif_neg (by simp)]
    simp [eqCs]
  | x :: r, [], pre, pre', k, t, k', t', n, q, hq, hn, hw, he, hp, hl => by simp at he
  | x :: r, y :: s, pre, pre', k, t, k', t', n, q, hq, hn, hw, he, hp, hl => by
    obtain ⟨q, rfl⟩ : ∃ k, q = k + 1 := ⟨q - 1, by omega⟩
    simp only [List.length_cons] at hq he
    unfold wts at hn hw hl
    have hx := wt_pos x
    have hpl : pre.length < (pre ++ x :: r).length := by simp
    have n2 : nth (encCs (pre' ++ y :: s)) pre.length = some (encC y) := by rw [hp]; exact nthC pre' y s
    rw [show q + 1 = Nat.succ q from rfl, l9_0, lenC, bif_pos (by exact decide_eq_true (by omega)), bif_pos (by exact decide_eq_true (by omega)), Int.toNat_natCast, nthC, n2]
    simp only [Option.bind_some, okC_sh, cond_true]
    rw [bif_pos (by exact decide_eq_true (by omega)), lookC, lookC, s9 x y (by omega) n (by omega)]
    simp only [Option.bind_some, ok_bool, cond_true, toBool_bool]
    unfold eqCs
    cases hxy : eqC x y with
    | false => rfl
    | true =>
      rw [bif_neg (by rfl), show ((pre.length : Nat) : Int) + 1 = ((pre.length + 1 : Nat) : Int) by omega, w64 (by omega)]
      have ih := l9 r s (pre ++ [x]) (pre' ++ [y]) k t k' t' n q (by omega) (by omega) (by omega) (by omega) (by simp; omega) (by simp; omega)
      simp only [List.append_assoc, List.singleton_append, List.length_append, List.length_singleton] at ih
      simp only [Bool.true_and]
      exact ih
end

/-! ### the law -/
theorem s5 : Ev E 1 5 [] (.bool true) := fun n hn => by
  obtain ⟨n, rfl⟩ : ∃ k, n = k + 1 := ⟨n - 1, by omega⟩
  rfl

theorem s4 (a b : Crt) : Ev E 7000 4 [.slc [encC a, encC b]] (.bool (decide (nd 3000 a > 3000) || decide (nd 3000 b > 3000))) := (Ev.mk (c := 6999) fun n hn => by
  obtain ⟨n, rfl⟩ : ∃ k, n = k + 1 := ⟨n - 1, by omega⟩
  obtain ⟨n, rfl⟩ : ∃ k, n = k + 1 := ⟨n - 1, by omega⟩
  obtain ⟨n, rfl⟩ : ∃ k, n = k + 1 := ⟨n - 1, by omega⟩
  rw [e4, show n + 1 + 1 + 1 = Nat.succ (n + 1 + 1) from rfl, l4_0]
  have ha := s10 a 3000 (Nat.le_refl _) (Nat.succ (n + 1 + 1)) (by omega)
  have hb := s10 b 3000 (Nat.le_refl _) (Nat.succ (n + 1 + 1)) (by omega)
  have ea : nth [encC a, encC b] (Int.toNat 0) = some (encC a) := rfl
  rw [bif_pos (by simp), bif_pos (by simp), ea, Option.bind_some, okC_sh, cond_true, lookC, show (3000 : Int) = ((3000 : Nat) : Int) from rfl, ha]
  simp only [Option.bind_some, ok_int, cond_true, toInt_int]
  by_cases h1 : nd 3000 a > 3000
  · rw [bif_pos (by exact decide_eq_true (by omega)), decide_eq_true h1]; rfl
  · rw [bif_neg (by exact decide_eq_false (by omega)), decide_eq_false h1, Bool.false_or, w64 (by omega), show n + 1 + 1 = Nat.succ (n + 1) from rfl, l4_0]
    have eb : nth [encC a, encC b] (Int.toNat (0 + 1)) = some (encC b) := rfl
    rw [bif_pos (by simp), bif_pos (by simp), eb, Option.bind_some, okC_sh, cond_true, lookC, show (3000 : Int) = ((3000 : Nat) : Int) from rfl, hb]
    simp only [Option.bind_some, ok_int, cond_true, toInt_int]
    by_cases h2 : nd 3000 b > 3000
    · rw [bif_pos (by exact decide_eq_true (by omega)), decide_eq_true h2]
    · rw [bif_neg (by exact decide_eq_false (by omega)), decide_eq_false h2, w64 (by omega), show n + 1 = Nat.succ n from rfl, l4_0, bif_neg (by simp)]
      simp).mono (by omega)

theorem e3c (n : Nat) (a b : Crt) : evQ E n 3 [encC a, encC b] =
    Option.bind
    (evP E n 4
      [Tree.slc [encC a, encC b]])
    fun y =>
    bif Sh.ok Sh.bool y then
      bif Tree.toBool y then Option.bind (evP E n 5 []) fun y => bif Sh.ok Sh.bool y then some (Tree.bool (Tree.toBool y)) else none
      else
        Option.bind (evP E n 6 [encC a]) fun y =>
          bif Sh.ok (Sh.tup [Sh.int IntKind.i64, Sh.int IntKind.i64]) y then
            Option.bind (evP E n 7 [encC a]) fun y_1 =>
              bif Sh.ok (Sh.tup [Sh.int IntKind.i64, Sh.int IntKind.i64]) y_1 then
                bif Tree.toInt (List.headD (Tree.tupl y) (Tree.bool false)) == Tree.toInt (List.headD (Tree.tupl y_1) (Tree.bool false)) then
                  bif
                      Tree.toInt (List.headD (List.tail (Tree.tupl y)) (Tree.bool false)) ==
                        Tree.toInt (List.headD (List.tail (Tree.tupl y_1)) (Tree.bool false)) then
                    Option.bind
                      (evP E n 8
                        [encC a, encC b])
                      fun y =>
                      bif Sh.ok Sh.bool y then
                        Option.bind
                          (evP E n 9
                            [encC a, encC b])
                          fun y_2 =>
                          bif Sh.ok Sh.bool y_2 then
                            bif Tree.toBool y == Tree.toBool y_2 then
                              Option.bind (evP E n 5 []) fun y => bif Sh.ok Sh.bool y then some (Tree.bool (Tree.toBool y)) else none
                            else some (Tree.bool false)
                          else none
                      else none
                  else some (Tree.bool false)
                else some (Tree.bool false)
              else none
          else none
    else none := by
  cases a with
  | mk k st l => cases b with
    | mk k' st' l' => rw [encC, encC]; exact e3 n k (T st) (encCs l) k' (T st') (encCs l')

theorem ok2 (a b : Int) : Sh.ok (.tup [.int .i64, .int .i64]) (.tup [I a, I b]) = true := rfl

theorem certSizes (a b : Crt) : Ev E 20000 3 [encC a, encC b] (.bool true) := (Ev.mk (c := 19999) fun n hn => by
  have h4 := s4 a b n (by omega)
  have h5 := s5 n (by omega)
  rw [e3c, h4]
  simp only [Option.bind_some, ok_bool, cond_true, toBool_bool]
  cases hb : (decide (nd 3000 a > 3000) || decide (nd 3000 b > 3000)) with
  | true =>
    rw [cond_true, h5]; rfl
  | false =>
    simp only [Bool.or_eq_false_iff, decide_eq_false_iff_not] at hb
    have ha := nd_wt a 3000 (by omega)
    rw [cond_false, s6 a (by omega) n (by omega), s7 a (by omega) n (by omega), s8 a b (by omega) n (by omega), s9 a b (by omega) n (by omega)]
    simp only [Option.bind_some, ok_bool, ok2, cond_true, toBool_bool, beq_self_eq_true]
    rw [h5]; rfl)

end Go.Proofs.Dw.Zl
end

/-
  CertSizes: well-typed trees of the type Cert are certificates.
-/
section
namespace Go.Proofs.Dw.Zl
open Go.Proofs

theorem TV.isInts {P : Program} {t tI : TypeId} {cs : List Tree} (uI : P.underlying tI = some (.int .i64)) (aI : tyAgg P tI = some false) (ut : P.underlying t = some (.slice tI)) (h : TV P t cs) : ∃ l : List Int, cs = [.slc (T l)] := by
  cases h with
  | bool _ b h => rw [ut] at h; simp at h
  | int _ k n h hw => rw [ut] at h; simp at h
  | str _ s h hl => rw [ut] at h; simp at h
  | array _ n e cs h hl hf => rw [ut] at h; simp at h
  | struct _ fs cs h hl hf => rw [ut] at h; simp at h
  | slc _ e es h hl hm h1 h2 =>
    rw [ut] at h
    simp only [Option.some.injEq, TypeDesc.slice.injEq] at h
    subst h
    clear hl hm
    suffices ∃ l, es = T l by obtain ⟨l, rfl⟩ := this; exact ⟨l, rfl⟩
    induction es with
    | nil => exact ⟨[], rfl⟩
    | cons x r ih =>
      obtain ⟨l, hl⟩ := ih (fun y hy => h1 y (by simp [hy])) (fun y hy => h2 y (by simp [hy]))
      obtain ⟨n, hn, _⟩ := (h2 x (by simp)).isInt uI
      have e := (h1 x (by simp)).2
      rw [hn] at e
      simp only [mkTree, aI, List.headD_cons] at e
      exact ⟨n :: l, by rw [e, hl]; rfl⟩

structure Types (P : Program) (tC tCs tIs tI : TypeId) : Prop where
  uC : ∃ f1 f2 f3 : Field, P.underlying tC = some (.struct #[f1, f2, f3]) ∧ f1.type = tI ∧ f2.type = tIs ∧ f3.type = tCs ∧ f1.offset = 0 ∧ f2.offset = 1 ∧ f3.offset = 2
  uCs : P.underlying tCs = some (.slice tC)
  uIs : P.underlying tIs = some (.slice tI)
  uI : P.underlying tI = some (.int .i64)
  cC : P.cellsOf tC = 3
  cCs : P.cellsOf tCs = 1
  cIs : P.cellsOf tIs = 1
  cI : P.cellsOf tI = 1
  aC : tyAgg P tC = some true
  aI : tyAgg P tI = some false

def cellsC : Crt → List Tree
  | .mk k st l => [.int .i64 k, .slc (T st), .slc (encCs l)]
theorem encC_cells (c : Crt) : encC c = .agg (cellsC c) := by cases c; rw [encC, cellsC]

def Is (tC tCs : TypeId) (t : TypeId) (cs : List Tree) : Prop :=
  (t = tC → ∃ c, cs = cellsC c) ∧ (t = tCs → ∃ l, cs = [.slc (encCs l)])

theorem certs_of {P : Program} {tC tCs tIs tI : TypeId} (Y : Types P tC tCs tIs tI) : ∀ {es : List Tree}, (∀ x, x ∈ es → x.fl = true ∧ x = mkTree P tC x.cells) → (∀ x, x ∈ es → Is tC tCs tC x.cells) → ∃ ls, es = encCs ls
  | [], _, _ => ⟨[], by rw [encCs]⟩
  | x :: es, h1, h2 => by
    obtain ⟨l, hl⟩ := (h2 x (by simp)).1 rfl
    obtain ⟨ls, hs⟩ := certs_of Y (es := es) (fun y hy => h1 y (by simp [hy])) (fun y hy => h2 y (by simp [hy]))
    have e := (h1 x (by simp)).2
    rw [hl] at e
    simp only [mkTree, Y.aC] at e
    exact ⟨l :: ls, by rw [encCs, ← hs, encC_cells, ← e]⟩

theorem is_of {P : Program} {tC tCs tIs tI : TypeId} (Y : Types P tC tCs tIs tI) {t : TypeId} {cs : List Tree} (h : TV P t cs) : Is tC tCs t cs := by
  obtain ⟨f1, f2, f3, uC, e1, e2, e3, o1, o2, o3⟩ := Y.uC
  have uCs := Y.uCs
  induction h with
  | bool t b h => refine ⟨?_, ?_⟩ <;> rintro rfl <;> simp_all
  | int t k n h hw => refine ⟨?_, ?_⟩ <;> rintro rfl <;> simp_all
  | str t s h hl => refine ⟨?_, ?_⟩ <;> rintro rfl <;> simp_all
  | array t n e cs h hl hf ih => refine ⟨?_, ?_⟩ <;> rintro rfl <;> simp_all
  | slc t e es h hl hm h1 h2 ih =>
    refine ⟨?_, ?_⟩
    · rintro rfl; rw [uC] at h; simp at h
    · rintro rfl
      rw [uCs] at h
      simp only [Option.some.injEq, TypeDesc.slice.injEq] at h
      subst h
      obtain ⟨ls, hs⟩ := certs_of Y h1 ih
      subst hs
      exact ⟨ls, rfl⟩
  | struct t fs cs h hl hf ih =>
    refine ⟨?_, ?_⟩
    · rintro rfl
      rw [uC] at h
      simp only [Option.some.injEq, TypeDesc.struct.injEq] at h
      subst h
      rw [Y.cC] at hl
      match cs, hl with
      | [c0, c1, c2], _ =>
        have a1 := hf f1 (by simp)
        have a2 := hf f2 (by simp)
        have a3 := ih f3 (by simp)
        rw [e1, o1, Y.cI] at a1
        rw [e2, o2, Y.cIs] at a2
        rw [e3, o3, Y.cCs] at a3
        obtain ⟨k, hk, _⟩ := a1.isInt Y.uI
        obtain ⟨st, hs⟩ := TV.isInts Y.uI Y.aI Y.uIs a2
        obtain ⟨ls, ht⟩ := a3.2 rfl
        simp at hk hs ht
        subst hk; subst hs; subst ht
        exact ⟨.mk k st ls, rfl⟩
    · rintro rfl; rw [uCs] at h; simp at h

theorem cert_of {P : Program} {tC tCs tIs tI : TypeId} (Y : Types P tC tCs tIs tI) {x : Tree} (h : WT P tC x) : ∃ c, x = encC c := by
  obtain ⟨_, e, v⟩ := h
  obtain ⟨l, hl⟩ := (is_of Y v).1 rfl
  rw [hl] at e
  simp only [mkTree, Y.aC] at e
  exact ⟨l, by rw [encC_cells]; exact e⟩

theorem types : Types Tryz.prog 25 23 22 3 where
  uC := ⟨_, _, _, Tryz.underlying25, by kernel_rfl, by kernel_rfl, by kernel_rfl, by kernel_rfl, by kernel_rfl, by kernel_rfl⟩
  uCs := by kernel_rfl
  uIs := by kernel_rfl
  uI := by kernel_rfl
  cC := by kernel_rfl
  cCs := by kernel_rfl
  cIs := by kernel_rfl
  cI := by kernel_rfl
  aC := by kernel_rfl
  aI := by kernel_rfl

end Go.Proofs.Dw.Zl
end

/-
  THE ROW OF CertSizes, out of its law, and its card.
-/
section
set_option maxRecDepth 100000
set_option linter.unusedVariables false
namespace Go.Proofs.Dw.Zl
open Go.Proofs Go.Proofs.YtkgffjkdhmdfkaaGreatDoor Go.ChangeShapes Go.WideShapes Go.ChangeAt Go.RowKit

theorem CertSizesOwn : ownKnob Tryz.prog.godebug = none := by kernel_rfl
theorem CertSizesLaidOut : laidOutB Tryz.prog = true := by kernel_rfl
theorem CertSizesKids : kidsB Tryz.prog [25,23,22,3] = true := by kernel_rfl
theorem CertSizesMixed : Tryz.prog.follows .mixedOrders = true := by kernel_rfl

/-- A world for the witness: the settled one, the listed variable's cell laid. -/
noncomputable def CertSizesWorld (os : Os) : World :=
  { World.holding Tryz.prog os ⟨#[], #[], []⟩ with heap := (World.holding Tryz.prog os ⟨#[], #[], []⟩).heap.modify 0 fun
      | .cells _ t frozen => .cells #[.iface 158 (.agg #[.pointer (some ⟨1, 72, none⟩)])] t frozen
      | o => o }
theorem CertSizesMet (os : Os) (args : Array Value) : laidMetH Tryz.prog Rows.certSizesRow.laid ((CertSizesWorld os).forCall (fun _ _ => 0) ⟨#[], args, []⟩).memory :=
  laidMetH_of_parts (laidMet_nil _ _) (by kernel_rfl)

theorem CertSizesLifted (os : Os) (started : os.Started) (H : Type) (enc : TypeId × Value → H) (F : Stop.Interp) :
    ReturnsInHanded {} Tryz.checked os 3 .any ((OpenSpec.ofChange Rows.certSizesSpec).preRow enc Tryz.prog Tryz.f3 Rows.certSizesRow.domain false Rows.certSizesRow.laid) (((OpenSpec.ofChange Rows.certSizesSpec).at F).post enc Tryz.prog Tryz.f3 false true false false) := by
  refine returnsInHanded_of_row (C := Tryz.checked) (s := OpenSpec.ofChange Rows.certSizesSpec) CertSizesOwn started (by kernel_rfl) Tryz.func3
    (witness_row_at (enc := enc) (C := Tryz.checked) false (CertSizesWorld os) #[.agg #[.int .i64 0, .slice none 0 0, .slice none 0 0], .agg #[.int .i64 0, .slice none 0 0, .slice none 0 0]] rfl (by kernel_rfl) (by kernel_rfl) (by kernel_rfl)
      (OpenSpec.preRow_of_B (s := OpenSpec.ofChange Rows.certSizesSpec) rfl 8 (by kernel_rfl) (by kernel_rfl) (CertSizesMet os _))) ?_
  intro W base args ds gs before hval0 hW hcnd hkk0 hsz0 hL hsh _
  have hsz : (DataW.weightsEach Tryz.prog (Tryz.f3.params.toList ++ Rows.certSizesSpec.plain.varTypes Tryz.prog) (ds ++ gs)).all (· ≤ reachBytes) = true := hsz0
  have hval : ∀ (j : Nat) t v, Tryz.f3.params[j]? = some t → args[j]? = some v → Value.okWide Tryz.prog W .any base t v := hval0
  have hW' := hW
  obtain ⟨p, q, hA0, hV, rfl, hfz, hnd⟩ := hW
  have hA : DataW.TrodAll enc Tryz.prog W 0 (fun _ => true) true Tryz.f3.params.toList args.toList ds p := hA0
  rw [Tryz.params3] at hA hval hsz
  obtain ⟨v0, vs0, d0, ds0, p0, q0, hargs, rfl, rfl, h0, r0⟩ := trodAll_cons hA
  obtain ⟨v1, vs1, d1, ds1, p1, q1, rfl, rfl, rfl, h1, r1⟩ := trodAll_cons r0
  obtain ⟨rfl, rfl, rfl⟩ := trodAll_nil r1
  obtain rfl : args = #[v0, v1] := by cases args; simp_all
  obtain ⟨rfl, rfl⟩ := trodVars_none hV
  obtain ⟨x0, t0, w0⟩ := arg_read (L := [25,23,22,3]) CertSizesKids (t := 25) (by decide) (hval 0 25 v0 rfl rfl) h0 (weightsEach_get (i := 0) hsz rfl rfl)
  have lt0 : ∀ x ∈ p0, x.block < W.heap.size := by obtain ⟨m, hm⟩ := h0; exact DataW.trod_lt m _ _ _ hm
  obtain ⟨x1, t1, w1⟩ := arg_read (L := [25,23,22,3]) CertSizesKids (t := 25) (by decide) (hval 1 25 v1 rfl rfl) h1 (weightsEach_get (i := 1) hsz rfl rfl)
  have lt1 : ∀ x ∈ p1, x.block < W.heap.size := by obtain ⟨m, hm⟩ := h1; exact DataW.trod_lt m _ _ _ hm
  obtain ⟨c0, rfl⟩ := cert_of types w0
  obtain ⟨c1, rfl⟩ := cert_of types w1
  have hk := certSizes c0 c1 20000 (Nat.le_refl _)
  refine (law_calls (Tab.envOk tabOk) CertSizesMixed hk (vals := #[v0, v1]) (RepTL.cons t0 (RepTL.cons t1 RepTL.nil'))).mono fun e W' ⟨he, bel⟩ => ?_
  subst he
  exact ⟨_, rfl, _, _, _, [], _, [], hW', trodAll_mk1 (shut_bool Tryz.underlying4 _), (trodAll_cons_mk (Below.trod CertSizesLaidOut (by kernel_rfl) (of_decide_eq_true (by kernel_rfl)) h0 bel lt0) (trodAll_cons_mk (Below.trod CertSizesLaidOut (by kernel_rfl) (of_decide_eq_true (by kernel_rfl)) h1 bel lt1) trodAll_mk0)), rfl, bel.frame _, fun h => by cases h⟩

theorem CertSizesRow : Rows.CertSizesSaid :=
  OpenClaim.holds_of_cond 3 Tryz.f3 rfl rfl rfl rfl rfl rfl rfl ⟨rfl, rfl, rfl, rfl, rfl⟩ rfl rfl rfl rfl rfl (by kernel_rfl) Tryz.func3 (by kernel_rfl)
    (of_decide_eq_true (by kernel_rfl)) (by unfold Func.isWrapper; first | (rw [if_pos (by decide +kernel)]; kernel_rfl) | (rw [if_neg (by decide +kernel)]; exact ⟨rfl, rfl⟩))
    (fun os started H enc _ F => by rw [OpenClaim.pre_eq_preRow]; exact CertSizesLifted os started H enc F)

theorem CertSizesPlain (f : FuncId) (fn : Func) (hf : Tryz.pinned.checked.prog.funcNamed "tenet/tenetlaw08.CertSizes" = some f) (hfn : Tryz.pinned.checked.prog.funcs[f]? = some fn) :
    true = Tryz.pinned.checked.prog.looks [] ∧ ∀ (j : Nat) t, fn.params[j]? = some t → Tryz.pinned.checked.prog.wantsStandIn t = false := by
  obtain rfl : f = 3 := Option.some.inj ((show Tryz.prog.funcNamed "tenet/tenetlaw08.CertSizes" = some 3 by kernel_rfl).symm.trans hf) |>.symm
  obtain rfl : fn = Tryz.f3 := (Option.some.inj (Tryz.func3.symm.trans hfn)).symm
  refine ⟨by kernel_rfl, fun j t ht => ?_⟩
  rw [Tryz.params3] at ht
  obtain rfl : t = 25 := by simpa using Array.mem_of_getElem? ht
  exact (show Tryz.prog.wantsStandIn 25 = false by kernel_rfl)

end Go.Proofs.Dw.Zl
end
