/- THE ABSTRACT WALK: a reckoning of the code on trees, and why it is right. -/
import Derived.Test.YtkgffjkdhmdfkaaGreatDoorDw4
import Derived.Deep.AppendSrc
import Derived.Laws.AppendOwn
import Derived.Recover
import GoSem.ClaimChange
import GoSem.ClaimJoined
import Derived.SizedLaws
import Derived.Below
set_option linter.unusedSimpArgs false
set_option linter.unusedVariables false

/-
  THE ABSTRACT WALK, 32: where an operation is reckoned to panic, the model's does.
-/
section
namespace Go.Proofs.Dw

def pEnd (v : Value) : Ending := .panicked [{ v := v, recovered := false }]

/-- A call of trees that panics. -/
def PGets (w : World) (I : Fz) (y : Tree) (e : Ending) (w' : World) : Prop :=
  ∃ v, ∃ I' : Fz, e = pEnd v ∧ RepT w' I' y v ∧ (∀ b, I b → I' b) ∧ (∀ b, I' b → I b ∨ w.heap.size ≤ b) ∧ (∀ b, I' b → b < w'.heap.size) ∧ Still w w' ∧ I'.ps = I.ps

def PGetsW (w : World) (I : Fz) (y : Tree) (G' : World') (e : Ending) (w' : World) : Prop :=
  ∃ v, ∃ I' : Fz, e = pEnd v ∧ RepT w' I' y v ∧ WStep I w I' G' w'

def PComes (φ : Phi) (I : Fz) (H : Heap) (w : World) (y : Tree) (H' : Heap) (e : Ending) (w' : World) : Prop :=
  ∃ val φ' I', e = pEnd val ∧ RepT w' I' y val ∧ Sim φ' I' (rdH H') w' ∧ Ext φ I (rdH H) w φ' I' (rdH H') w'

structure PFnsOk (P : Program) (X : PFns) : Prop where
  px : ∀ g xs y, X.px g xs = some y → callable P g = true ∧ ∀ (w : World) (I : Fz) (vals : Array Value), RepTL w I xs vals.toList → FzOk I w → Calls P g vals w (PGets w I y)
  pw : ∀ g xs G y G', X.pw g xs G = some (y, G') → callable P g = true ∧ ∀ (w : World) (I : Fz) (vals : Array Value), RepTL w I xs vals.toList → FzOk I w → WldOk w I G → Calls P g vals w (PGetsW w I y G')

def IOp.mayPan : IOp → Bool
  | .pan _ => true
  | .call false _ _ _ => true
  | .callv _ _ _ => true
  | .callw _ _ _ => true
  | .callvw _ _ _ => true
  | _ => false

section
variable {φ : Phi} {rd : Rd} {w : World} {I : Fz} {P : Program} {X : PFns} {o : Oper} {a : Act} {ts : List AV} {c : Nat}

def PDone (φ : Phi) (rd : Rd) (w : World) (I : Fz) (P : Program) (o : Oper) (a : Act) (c : Nat) (v : Tree) (d : Delta) : Prop :=
  ∀ (next : Act → World → Prop) (Q : Exit → Act → World → Prop),
    (∀ φ' I' val w', RepT w' I' v val → Sim φ' I' (appRd rd c d) w' → Ext φ I rd w φ' I' (appRd rd c d) w' → Q (.panic [{ v := val, recovered := false }]) a w') → o.wp P a w next Q

theorem appRd_wr (wr : List (Nat × HObj)) : appRd rd c ⟨wr, []⟩ = wrR rd wr := by
  funext b
  simp only [appRd, List.length_nil]
  rw [if_neg (by omega)]

theorem xPure_done (hX : PFnsOk P X) (sm : Sim φ I rd w) {g : Nat} {args : List AV} {vals : Array Value} {v : Tree} {d : Delta} (hex : callable P g = true → (execOp a.eval o).run P w = .ok (.enter g vals) w) (hr : RepL φ rd w I args vals.toList)
    (h : xPure X g args rd = some (v, d)) : PDone φ rd w I P o a c v d := by
  unfold xPure at h
  obtain ⟨xs, wr, I1, h, hr, sm1, E1, _⟩ := treesOf_some sm hr h
  cases hp : X.px g xs with
  | none => simp [hp] at h
  | some y =>
    simp only [hp, Option.bind_some] at h
    cases h
    obtain ⟨hc, hcall⟩ := hX.px g xs _ hp
    intro next Q hQ
    unfold Oper.wp
    rw [hex hc]
    refine Calls.mono (hcall w I1 vals hr sm1.fzOk) fun e w' he => ?_
    obtain ⟨val, I', rfl, h1, h2, h3, h4, h5, h6⟩ := he
    obtain ⟨k1, k2⟩ := sm1.still h2 h3 h4 h5 h6
    rw [appRd_wr] at hQ
    exact hQ φ I' val w' h1 k1 (E1.trans k2)

theorem xWorld_done (hX : PFnsOk P X) (sm : Sim φ I rd w) {g : Nat} {args : List AV} {vals : Array Value} {v : Tree} {d : Delta} (hex : callable P g = true → (execOp a.eval o).run P w = .ok (.enter g vals) w) (hr : RepL φ rd w I args vals.toList)
    (h : xWorld X g args rd = some (v, d)) : PDone φ rd w I P o a c v d := by
  unfold xWorld at h
  obtain ⟨xs, wr, I1, h, hr, sm1, E1, hwl⟩ := treesOf_some sm hr h
  obtain ⟨G, h0, h⟩ := withW_some h
  have h01 := hwl 0 G h0
  have wl := (sm1.wok.wld 0 G h01).2
  cases hp : X.pw g xs G with
  | none => simp [hp] at h
  | some p =>
    obtain ⟨y, G'⟩ := p
    simp only [hp, Option.bind_some] at h
    cases h
    obtain ⟨hc, hcall⟩ := hX.pw g xs G _ _ hp
    intro next Q hQ
    unfold Oper.wp
    rw [hex hc]
    refine Calls.mono (hcall w I1 vals hr sm1.fzOk wl) fun e w' he => ?_
    obtain ⟨val, I', rfl, h1, st⟩ := he
    obtain ⟨k1, k2⟩ := sm1.world h01 st
    rw [app_wr0] at hQ
    exact hQ φ I' val w' h1 k1 (E1.trans k2)

theorem comp_pan_inv {rs : Cfg} {p : IOp} (hc : compOp P rs o = some p) (hp : p.mayPan = true) : (∃ x x', o.op = .panic x ∧ compOpd x = some x' ∧ p = .pan x') ∨ ∃ cl, o.op = .call cl := by
  cases ho : o.op with
  | call cl => exact .inr ⟨cl, rfl⟩
  | panic x =>
    simp only [compOp, ho] at hc
    obtain ⟨x', hx, rfl⟩ := map_some' hc
    exact .inl ⟨x, x', rfl, hx, rfl⟩
  | _ =>
    exfalso
    simp only [compOp, ho, cond_eq_ite] at hc
    repeat' (split at hc)
    all_goals first
      | contradiction
      | (cases hc; done)
      | (cases hc; cases hp; done)
      | (obtain ⟨_, _, rfl⟩ := map_some' hc; cases hp; done)

theorem compCall_pan {md : Bool} {g : Nat} {t : TypeId} {args : List Opd} {p : IOp} (hc : compCall P md g t args = some p) (hp : p.mayPan = true) : ∃ s, p = .call false g s args := by
  unfold compCall at hc
  split at hc
  · cases hc; cases hp
  · cases hc
  · split at hc
    · split at hc
      · split at hc
        · obtain ⟨_, hc⟩ := bnone hc; cases hc; cases hp
        · cases hc
      · cases hc
    · cases hc
    · obtain ⟨_, hc⟩ := bif_some hc
      obtain ⟨s, _, rfl⟩ := map_some' hc
      cases md with
      | true => cases hp
      | false => exact ⟨s, rfl⟩

theorem xOp_sound (hX : PFnsOk P X) (hs : RepS φ rd w I ts a.tmps) (sm : Sim φ I rd w) {rs : Cfg} {p : IOp} {v : Tree} {d : Delta} (hc : compOp P rs o = some p) (h : xOp X p ts rd = some (v, d)) : PDone φ rd w I P o a c v d := by
  have hp : p.mayPan = true := by
    unfold xOp at h
    split at h <;> first | rfl | cases h
  rcases comp_pan_inv hc hp with ⟨x, x', ho, hx, rfl⟩ | ⟨cl, ho⟩
  · simp only [xOp] at h
    split at h
    · rename_i t u q
      cases h
      have hr := ev_rep hs hx
      rw [q] at hr
      have hrt := hr.tree
      obtain ⟨val, e, hv⟩ := hrt.ifc_inv
      intro next Q hQ
      unfold Oper.wp
      have hrun : (execOp a.eval o).run P w = .halt (.panic (.iface t val)) w := by
        simp [execOp, ho, e, Instr.panic, goPanic]
      rw [hrun]
      rw [Delta.none, appRd_wr] at hQ
      exact hQ φ I _ w (e ▸ hrt) sm (.refl _ _ _ _)
    · cases h
  · simp only [compOp, ho] at hc
    split at hc
    · rename_i args ha
      have hra : RepL φ rd w I (evs ts args) (cl.args.map a.eval).toList := by simpa using evs_rep hs ha
      split at hc
      · rename_i g hcl
        have hex : callable P g = true → (execOp a.eval o).run P w = .ok (.enter g (cl.args.map a.eval)) w := fun hcb => by
          have := call_exec (P := P) (w := w) (a := a) hcb ho hcl (x := .func g) (va := #[]) (vc := #[]) rfl
          simpa using this
        cases hw : rs.isW o.dst with
        | true =>
          rw [hw, cond_true] at hc
          obtain ⟨s, _, rfl⟩ := map_some' hc
          exact xWorld_done hX sm hex hra h
        | false =>
          rw [hw, cond_false] at hc
          split at hc
          · obtain ⟨_, hc⟩ := bif_some hc
            split at hc
            · obtain ⟨s, _, rfl⟩ := map_some' hc; cases hp
            · cases hc; cases hp
          · obtain ⟨s, rfl⟩ := compCall_pan hc hp
            exact xPure_done hX sm hex hra h
      · rename_i x hne hcl
        split at hc
        · rename_i x' hx
          have hrx := ev_rep hs hx
          have fin : ∀ {g : Nat} {va vc : Array Value} {l : List AV}, a.eval x = .func (.func g) va vc → RepL φ rd w I l (va ++ cl.args.map a.eval ++ vc).toList → (xPure X g l rd = some (v, d) ∨ xWorld X g l rd = some (v, d)) → PDone φ rd w I P o a c v d := by
            intro g va vc l hq hl hh
            rcases hh with hh | hh
            · exact xPure_done hX sm (fun hcb => call_exec hcb ho hcl hq) hl hh
            · exact xWorld_done hX sm (fun hcb => call_exec hcb ho hcl hq) hl hh
          cases hw : rs.isW o.dst with
          | true =>
            rw [hw, cond_true] at hc
            obtain ⟨s, _, rfl⟩ := map_some' hc
            simp only [xOp] at h
            split at h
            · rename_i g p q hy
              rw [hy] at hrx
              obtain ⟨va, vc, hq, f1, f2⟩ := hrx.tree.fn_inv
              exact fin hq (by simpa using ((RepL.ofT (φ := φ) (rd := rd) f1).append hra).append (RepL.ofT f2)) (.inr h)
            · rename_i g p q hy
              rw [hy] at hrx
              obtain ⟨va, vc, hq, f1, f2⟩ := hrx.fn_inv
              exact fin hq (by simpa using (f1.append hra).append f2) (.inr h)
            · cases h
          | false =>
            rw [hw, cond_false] at hc
            obtain ⟨s, _, rfl⟩ := map_some' hc
            simp only [xOp] at h
            split at h
            · rename_i g p q hy
              rw [hy] at hrx
              obtain ⟨va, vc, hq, f1, f2⟩ := hrx.tree.fn_inv
              exact fin hq (by simpa using ((RepL.ofT (φ := φ) (rd := rd) f1).append hra).append (RepL.ofT f2)) (.inl h)
            · rename_i g p q hy
              rw [hy] at hrx
              obtain ⟨va, vc, hq, f1, f2⟩ := hrx.fn_inv
              exact fin hq (by simpa using (f1.append hra).append f2) (.inl h)
            · cases h
        · cases hc
      · rename_i b hcl
        exfalso
        simp only [compBuiltin, cond_eq_ite] at hc
        repeat' (split at hc)
        all_goals first
          | contradiction
          | (cases hc; done)
          | (cases hc; cases hp; done)
      · cases hc
    · cases hc

end

end Go.Proofs.Dw
end

/-
  THE ABSTRACT WALK, 33: regions in the text's order, one of whose operations panics.
-/
section
namespace Go.Proofs.Dw

section
variable {Df : List Deferred} {φ : Phi} {rd : Rd} {w : World} {I : Fz} {P : Program} {F : Fns} {X : PFns}
variable {a : Act} {α : Type} {r : α} {ts : List AV}

theorem xOper_sound (hX : PFnsOk P X) {st : St} (ok : StOk Df φ I st a w) {rs : Cfg} {ops : Array Oper} {o : Oper} {o' : IOper} (hc : compOper P rs ops o = some o') {v : Tree} {H' : Heap} (h : xOper X o' st = some (v, H'))
    (Kp : Act → World → Prop) (Q : Exit → Act → World → Prop)
    (hQ : ∀ φ' I' val a' w', StOk Df φ' I' ⟨st.ts, H'⟩ a' w' → RepT w' I' v val → Ext φ I (rdH st.H) w φ' I' (rdH H') w' → Q (.panic [{ v := val, recovered := false }]) a' w') : StepWp P ops o a w Kp Q := by
  have run : ∀ {p : IOp}, (compOp P rs o = some p ∨ p = .fail) → Region.wanted o (yielded ops a.tmps) = true →
      (match xOp X p st.ts (rdH st.H) with
       | some (v, d) => bif belowN st.H.length d.wr then some (v, d.to st.H) else none
       | none => none) = some (v, H') → StepWp P ops o a w Kp Q := by
    intro p hp hw h
    split at h
    · rename_i v1 d hx
      obtain ⟨hb, h⟩ := bif_some h
      cases h
      rcases hp with hp | rfl
      · unfold StepWp
        rw [if_pos hw]
        refine xOp_sound (c := st.H.length) hX ok.reps ok.sim hp hx Kp Q fun φ' I' val w' k1 k2 k3 => ?_
        have e := rdH_to d st.H (belowN_spec hb)
        rw [← e] at k2 k3
        exact hQ φ' I' val a w' ⟨⟨ok.reps.1, fun i x v hx hv => (ok.reps.2 i x v hx hv).ext k3 ok.sim⟩, k2, ok.defers⟩ k1 k3
      · simp [xOp] at hx
    · cases h
  unfold compOper at hc
  have hcp : ∃ p, (compOp P rs o = some p ∨ p = .fail) ∧ (match o.guard with
      | none => some (⟨o.dst, none, p⟩ : IOper)
      | some (j, b) => match ops[j]? with
        | some q => match q.dst with
          | some d => some ⟨o.dst, some (d, b), p⟩
          | none => none
        | none => none) = some o' := by
    cases hp : compOp P rs o with
    | some p => simp only [hp] at hc; exact ⟨p, .inl rfl, hc⟩
    | none => simp only [hp] at hc; exact ⟨.fail, .inr rfl, hc⟩
  obtain ⟨p, hp, hc⟩ := hcp
  unfold xOper at h
  split at hc
  · rename_i hg
    cases hc
    exact run hp (by simp [Region.wanted, hg]) h
  · rename_i j want hg
    split at hc
    · rename_i q hq
      split at hc
      · rename_i d hd
        cases hc
        simp only at h
        cases hs : slot st.ts d with
        | t x =>
          cases x with
          | bool b =>
            rw [hs] at h
            have hy := yielded_bool ok.reps hq hd hs
            cases b <;> cases want <;> simp only at h
            · exact run hp (by simp [Region.wanted, hg, hy]) h
            · cases h
            · cases h
            · exact run hp (by simp [Region.wanted, hg, hy]) h
          | _ => rw [hs] at h; cases h
        | _ => rw [hs] at h; cases h
      · cases hc
    · cases hc

/-- One operation that is done. -/
theorem evOper_step (hF : FnsOk P F) {rs : Cfg} {ops : Array Oper} {o : Oper} {o' : IOper} {st st' : St} (ok : StOk Df φ I st a w) (hc : compOper P rs ops o = some o') (h : evOper F o' st some = some st')
    (Kp : Act → World → Prop) (Q : Exit → Act → World → Prop) (hK : ∀ φ' I' a' w', StOk Df φ' I' st' a' w' → Ext φ I (rdH st.H) w φ' I' (rdH st'.H) w' → Kp a' w') : StepWp P ops o a w Kp Q := by
  unfold evOper at h
  obtain ⟨ts', d, _, h1, h2⟩ := operV_sound hF ok.reps ok.sim hc h
  obtain ⟨hb, h1⟩ := bif_some h1
  cases h1
  refine h2 (fun y hy _ => rdH_unborn _ _ hy) Kp Q fun φ' I' a' w' k1 k2 k3 k4 => ?_
  have e := rdH_to d st.H (belowN_spec hb)
  rw [← e] at k2 k3 k4
  exact hK φ' I' a' w' ⟨k2, k3, k1.trans ok.defers⟩ k4

theorem evOpsX_sound (hF : FnsOk P F) (hX : PFnsOk P X) {rs : Cfg} {ops : Array Oper} {Q : Exit → Act → World → Prop} {K : St → Option α} {Pn : Tree → St → Option α} : ∀ (l : List Oper) (l' : List IOper) (st : St) (φ : Phi) (I : Fz) (a : Act) (w : World),
    mapO (compOper P rs ops) l = some l' → evOpsX F X l' st K Pn = some r → StOk Df φ I st a w →
    (∀ st' φ' I' a' w', K st' = some r → StOk Df φ' I' st' a' w' → Ext φ I (rdH st.H) w φ' I' (rdH st'.H) w' → Q .normal a' w') →
    (∀ v st' φ' I' val a' w', Pn v st' = some r → StOk Df φ' I' st' a' w' → RepT w' I' v val → Ext φ I (rdH st.H) w φ' I' (rdH st'.H) w' → Q (.panic [{ v := val, recovered := false }]) a' w') → wpList P ops Q l a w
  | [], l', st, φ, I, a, w, hl, h, ok, hQ, hP => by
    simp [mapO] at hl; subst hl
    exact hQ st φ I a w h ok (.refl _ _ _ _)
  | o :: l, l', st, φ, I, a, w, hl, h, ok, hQ, hP => by
    simp only [mapO] at hl
    split at hl
    · rename_i o' ho
      split at hl
      · rename_i r' hr'
        cases hl
        simp only [evOpsX] at h
        refine wpList_step fun Kp hKp => ?_
        split at h
        · rename_i st1 h1
          refine evOper_step hF ok ho h1 Kp Q fun φ' I' a' w' k1 k2 => hKp a' w' ?_
          exact evOpsX_sound hF hX l r' st1 φ' I' a' w' hr' h k1 (fun st'' φ'' I'' a'' w'' m1 m2 m3 => hQ st'' φ'' I'' a'' w'' m1 m2 (k2.trans m3)) fun v H' φ'' I'' val a'' w'' m1 m2 m3 m4 => hP v H' φ'' I'' val a'' w'' m1 m2 m3 (k2.trans m4)
        · split at h
          · rename_i v H' hx
            exact xOper_sound hX ok ho hx Kp Q fun φ' I' val a' w' k1 k2 k3 => hP v _ φ' I' val a' w' h k1 k2 k3
          · cases h
      · cases hl
    · cases hl

end

end Go.Proofs.Dw
end

/-
  THE ABSTRACT WALK, 34: regions that draw their order, one of whose operations panics.
-/
section
namespace Go.Proofs.Dw

section
variable {Df : List Deferred} {P : Program} {F : Fns} {X : PFns} {rs : Cfg} {ops : Array Oper} {Q : Exit → Act → World → Prop} {tsF : List AV} {HF : Heap}

/-- Which of the operations ahead of p are still to come. -/
structure LeftX (P : Program) (rs : Cfg) (ops : Array Oper) (p : Nat) (R : List DStep) (listed : Array Bool) : Prop where
  size : listed.size = ops.size
  mem : ∀ (j : Nat), j < p → (listed[j]? = some false ↔ ∃ s, s ∈ R ∧ s.i = j)
  lt : ∀ s, s ∈ R → s.i < p
  atp : listed[p]? = some false
  up : R.Pairwise (fun a b => a.i < b.i)
  code : ∀ s, s ∈ R → ops[s.i]? = some s.o ∧ compOper P rs ops s.o = some s.o'
  clear : R.Pairwise (fun a b => (∃ m, (befGo (ops.toList.map afterOf) [])[b.i]? = some m ∧ Nat.testBit m a.i = true) ∨ Ind a b)
  closed : ∀ (j m k : Nat), listed[j]? = some true → (befGo (ops.toList.map afterOf) [])[j]? = some m → Nat.testBit m k = true → listed[k]? = some true

theorem get_set {listed : Array Bool} {i : Nat} (hi : i < listed.size) (j : Nat) : (listed.setIfInBounds i true)[j]? = if i = j then some true else listed[j]? := by
  rw [Array.getElem?_setIfInBounds]
  by_cases he : i = j
  · subst he; rw [if_pos rfl, if_pos rfl, if_pos hi]
  · rw [if_neg he, if_neg he]

theorem LeftX.take {p : Nat} {A B : List DStep} {s : DStep} {listed : Array Bool} (h : LeftX P rs ops p (A ++ s :: B) listed) (hb : ∀ (m k : Nat), (befGo (ops.toList.map afterOf) [])[s.i]? = some m → Nat.testBit m k = true → listed[k]? = some true) :
    LeftX P rs ops p (A ++ B) (listed.setIfInBounds s.i true) := by
  have hsub : (A ++ B).Sublist (A ++ s :: B) := (List.Sublist.refl A).append (List.sublist_cons_self s B)
  have hne : ∀ x, x ∈ A ++ B → x.i ≠ s.i := by
    intro x hx
    have hp := h.up
    rw [List.pairwise_append] at hp
    obtain ⟨_, hp2, hp3⟩ := hp
    rw [List.pairwise_cons] at hp2
    rcases List.mem_append.1 hx with hx | hx
    · have := hp3 x hx s (by simp); omega
    · have := hp2.1 x hx; omega
  have hsi : s.i < listed.size := by
    obtain ⟨ho, _⟩ := h.code s (by simp)
    rw [h.size]; exact (Array.getElem?_eq_some_iff.1 ho).1
  have hsp : s.i < p := h.lt s (by simp)
  refine ⟨by simp [h.size], fun j hj => ?_, fun x hx => h.lt x (hsub.mem hx), ?_, h.up.sublist hsub, fun x hx => h.code x (hsub.mem hx), h.clear.sublist hsub, fun j m k hj hm hk => ?_⟩
  · rw [get_set hsi]
    by_cases he : s.i = j
    · rw [if_pos he]
      refine ⟨fun h => (by cases h), fun ⟨x, hx, hxi⟩ => absurd (hxi.trans he.symm) (hne x hx)⟩
    · rw [if_neg he, h.mem j hj]
      refine ⟨fun ⟨x, hx, hxi⟩ => ⟨x, ?_, hxi⟩, fun ⟨x, hx, hxi⟩ => ⟨x, hsub.mem hx, hxi⟩⟩
      rcases List.mem_append.1 hx with hx | hx
      · exact List.mem_append_left _ hx
      · rcases List.mem_cons.1 hx with e | hx
        · subst e; exact absurd hxi he
        · exact List.mem_append_right _ hx
  · rw [get_set hsi, if_neg (by omega)]; exact h.atp
  · rw [get_set hsi] at hj ⊢
    by_cases he : s.i = k
    · rw [if_pos he]
    · rw [if_neg he]
      by_cases hj2 : s.i = j
      · subst hj2; exact hb m k hm hk
      · rw [if_neg hj2] at hj; exact h.closed j m k hj hm hk

theorem LeftX.skip {p i : Nat} {R : List DStep} {listed : Array Bool} (h : LeftX P rs ops p R listed) (hi : i < listed.size) (hip : p < i) (hb : ∀ (m k : Nat), (befGo (ops.toList.map afterOf) [])[i]? = some m → Nat.testBit m k = true → listed[k]? = some true) :
    LeftX P rs ops p R (listed.setIfInBounds i true) := by
  refine ⟨by simp [h.size], fun j hj => ?_, h.lt, ?_, h.up, h.code, h.clear, fun j m k hj hm hk => ?_⟩
  · rw [get_set hi, if_neg (by omega)]; exact h.mem j hj
  · rw [get_set hi, if_neg (by omega)]; exact h.atp
  · rw [get_set hi] at hj ⊢
    by_cases he : i = k
    · rw [if_pos he]
    · rw [if_neg he]
      by_cases hj2 : i = j
      · subst hj2; exact hb m k hm hk
      · rw [if_neg hj2] at hj; exact h.closed j m k hj hm hk

theorem comp_new_inv {o : Oper} {s : Sh} {z : AV} (hc : compOp P rs o = some (.new s z)) : ∃ t, o.op = .alloc t ∧ shOf P t = some s ∧ tyZeroAV P t = some z := by
  cases ho : o.op with
  | alloc t =>
    simp only [compOp, ho] at hc
    split at hc
    · rename_i h1 h2
      cases hm : memN rs.wt t with
      | true => rw [hm, cond_true] at hc; cases hc
      | false => rw [hm, cond_false] at hc; cases hc; exact ⟨t, rfl, h1, h2⟩
    · cases hc
  | call cl =>
    exfalso
    simp only [compOp, ho, compCall, compBuiltin, cond_eq_ite] at hc
    repeat' (split at hc)
    all_goals first
      | contradiction
      | (cases hc; done)
      | (obtain ⟨_, _, h⟩ := map_some' hc; cases h; done)
  | _ =>
    exfalso
    simp only [compOp, ho, cond_eq_ite] at hc
    repeat' (split at hc)
    all_goals first
      | contradiction
      | (cases hc; done)
      | (obtain ⟨_, _, h⟩ := map_some' hc; cases h; done)

theorem withNew_still (w : World) (ob : Obj) : Still w (withNew w ob) := by
  refine ⟨fun g hg => ?_, ?_, rfl, rfl, rfl⟩
  · show (w.heap.push ob)[g]? = w.heap[g]?
    rw [Array.getElem?_push, if_neg (by omega)]
  · simp [withNew]

/-- A variable is made of which nothing is known here. -/
theorem free_step {φ : Phi} {rd : Rd} {w : World} {I : Fz} {a : Act} {ts : List AV} {o : Oper} {o' : IOper} (hc : compOper P rs ops o = some o') (hn : isNew o' = true) (hs : RepS φ rd w I ts a.tmps) (sm : Sim φ I rd w) (hd : ∀ d, o.dst = some d → slot ts d = .any)
    (Kp : Act → World → Prop) (hK : ∀ a' w', a'.defers = a.defers → RepS φ rd w' I ts a'.tmps → Sim φ I rd w' → Ext φ I rd w φ I rd w' → Kp a' w') : StepWp P ops o a w Kp Q := by
  unfold isNew at hn
  split at hn
  · rename_i s z hg hop
    have inv : o.guard = none ∧ compOp P rs o = some (.new s z) := by
      unfold compOper at hc
      split at hc
      · cases hc
      · rename_i p hp
        split at hc
        · rename_i hgu
          cases hc
          refine ⟨hgu, ?_⟩
          cases hq : compOp P rs o with
          | some q => rw [hq] at hp; simp only [Option.some.injEq] at hp; rw [hp]; exact congrArg some hop
          | none => rw [hq] at hp; simp only [Option.some.injEq] at hp; subst hp; cases hop
        · split at hc
          · split at hc
            · cases hc; cases hg
            · cases hc
          · cases hc
    obtain ⟨hgu, hcomp⟩ := inv
    obtain ⟨t, ho, _, hz⟩ := comp_new_inv hcomp
    unfold tyZeroAV at hz
    split at hz
    · rename_i zv hzv
      have hrun : (execOp a.eval o).run P w = .ok (.value (.pointer (some ⟨w.heap.size, 0, none⟩))) (withNew w (.cells zv.cells t (0, 0))) := by
        simp [execOp, ho, Instr.alloc, run_zeroValue' hzv, newVar, newRow, withNew]
      unfold StepWp
      rw [if_pos (by simp [Region.wanted, hgu])]
      unfold Oper.wp
      rw [hrun]
      have st := withNew_still w (.cells zv.cells t (0, 0))
      obtain ⟨k1, k2⟩ := sm.still (I' := I) (fun _ h => h) (fun _ h => .inl h) (fun b hb => Nat.lt_of_lt_of_le (sm.old b hb) st.size) st rfl
      refine hK _ _ ?_ ?_ k1 k2
      · unfold Act.put; split <;> rfl
      · have h1 : RepS φ rd (withNew w (.cells zv.cells t (0, 0))) I ts a.tmps := ⟨hs.1, fun i x v hx hv => (hs.2 i x v hx hv).ext k2 sm⟩
        have h2 := putS_rep h1 o.dst (.any (.pointer (some ⟨w.heap.size, 0, none⟩)))
        have e : putS ts o.dst .any = ts := by
          cases hq : o.dst with
          | none => rfl
          | some d =>
            show setN ts d .any = ts
            rw [← hd d hq]; exact setN_slot ts d
        rw [e] at h2; exact h2
    · cases hz
  · cases hn

def unl (listed : Array Bool) : Nat := listed.toList.countP (fun b => !b)

theorem unl_set {listed : Array Bool} {i : Nat} (h : listed[i]? = some false) : unl (listed.setIfInBounds i true) + 1 = unl listed := by
  have hi := (Array.getElem?_eq_some_iff.1 h).1
  have he := (Array.getElem?_eq_some_iff.1 h).2
  have hl : i < listed.toList.length := by simpa using hi
  have hpos : 0 < listed.toList.countP (fun b => !b) := by
    rw [List.countP_pos_iff]
    exact ⟨listed.toList[i], List.getElem_mem _, by simp [he]⟩
  unfold unl
  rw [Array.toList_setIfInBounds, List.countP_set hl, if_pos (by simp [he]), if_neg (by simp)]
  omega

theorem wpAny_dregX (hF : FnsOk P F) (hac : acyc (ops.toList.map afterOf) ops.size [] = true) {p : Nat} {op : Oper} (hop : ops[p]? = some op) {mp : Nat} (hmp : (befGo (ops.toList.map afterOf) [])[p]? = some mp) (hbp : ∀ k, k < p → Nat.testBit mp k = true)
    {D : List Nat} (hfree : ∀ (j : Nat) o, p < j → ops[j]? = some o → (∃ m, (befGo (ops.toList.map afterOf) [])[j]? = some m ∧ Nat.testBit m p = true) ∨ ∃ o', compOper P rs ops o = some o' ∧ isNew o' = true ∧ ∀ d, o.dst = some d → d ∈ D) :
    ∀ (fuel : Nat) (R : List DStep) (listed : Array Bool) (φ : Phi) (I : Fz) (ts : List AV) (rd : Rd) (a : Act) (w : World),
    LeftX P rs ops p R listed → unl listed = fuel → Chain F R ts rd tsF (rdH HF) → a.defers = Df → RepS φ rd w I ts a.tmps → Sim φ I rd w → (∀ d, d ∈ D → slot ts d = .any) → (∀ s, s ∈ R → ∀ d, s.o'.dst = some d → d ∉ D) →
    (∀ φ' I' a' w' Kp, StOk Df φ' I' ⟨tsF, HF⟩ a' w' → Ext φ I rd w φ' I' (rdH HF) w' → StepWp P ops op a' w' Kp Q) → wpAny P .any ops Q fuel listed a w
  | 0, R, listed, φ, I, ts, rd, a, w, hL, hlen, hch, hd, hs, sm, hD, hR, hQ => by
    have := unl_set hL.atp
    omega
  | fuel + 1, R, listed, φ, I, ts, rd, a, w, hL, hlen, hch, hd, hs, sm, hD, hR, hQ => by
    refine ⟨fun hr => ?_, fun i hi => ?_⟩
    · exfalso
      have hsi := (Array.getElem?_eq_some_iff.1 hop).1
      obtain ⟨i, af, h1, h2, h3⟩ := acyc_spec (fun j : Nat => listed[j]? = some true) _ [] hac (fun x hx => by cases hx) ⟨p, by simpa using hsi, by rw [hL.atp]; simp⟩
      have hi : i < ops.size := by have := (List.getElem?_eq_some_iff.1 h1).1; simpa using this
      have ho : ops[i]? = some ops[i] := by simp [hi]
      have haf : af = afterOf ops[i] := by
        rw [List.getElem?_map, Array.getElem?_toList, ho] at h1
        cases h1; rfl
      have hfl : listed[i]? = some false := by
        have hl : i < listed.size := by rw [hL.size]; exact hi
        have he : listed[i]? = some listed[i] := by simp [hl]
        rw [he] at h2 ⊢
        cases hq : listed[i] with
        | true => rw [hq] at h2; exact absurd rfl h2
        | false => rfl
      have := (mem_ready (i := i) hL.size).2 ⟨_, ho, hfl, fun e he => h3 e (by rw [haf]; exact he)⟩
      rw [hr] at this; cases this
    · obtain ⟨o, ho, hfl, haf⟩ := (mem_ready hL.size).1 hi
      have hil : i < listed.size := (Array.getElem?_eq_some_iff.1 hfl).1
      have hfuel : unl (listed.setIfInBounds i true) = fuel := by have := unl_set hfl; omega
      have hbits : ∀ (m k : Nat), (befGo (ops.toList.map afterOf) [])[i]? = some m → Nat.testBit m k = true → listed[k]? = some true := by
        intro m k hm hk
        obtain ⟨acc', h1, h2⟩ := befGo_get (ops.toList.map afterOf) [] i (afterOf o) (by rw [List.getElem?_map, Array.getElem?_toList, ho]; rfl)
        rw [List.length_nil, Nat.zero_add, hm] at h1
        cases h1
        obtain ⟨e, he, hcase⟩ := befBits_spec hk
        rcases hcase with rfl | ⟨m', hm', hk'⟩
        · exact haf k he
        · exact hL.closed e m' k (haf e he) (h2 e m' hm') hk'
      have go : ∀ {o : Oper}, ops[i]? = some o → StepWp P ops o a w (wpAny P .any ops Q fuel (listed.setIfInBounds i true)) Q → wpOp P ops Q i (wpAny P .any ops Q fuel (listed.setIfInBounds i true)) a w := by
        intro o ho h2
        unfold wpOp
        rw [ho]
        unfold StepWp at h2
        simp only
        split
        · rename_i hw; rw [if_pos hw] at h2; exact .inl h2
        · rename_i hw; rw [if_neg hw] at h2; exact h2
      refine go ho ?_
      rcases Nat.lt_trichotomy i p with hip | hip | hip
      · obtain ⟨s, hsR, rfl⟩ := (hL.mem i hip).1 hfl
        obtain ⟨A, B, rfl⟩ := List.append_of_mem hsR
        obtain ⟨ho', hcomp⟩ := hL.code s hsR
        rw [ho] at ho'; cases ho'
        have hind : ∀ x, x ∈ A → Ind x s := by
          intro x hx
          have hp := hL.clear
          rw [List.pairwise_append] at hp
          rcases hp.2.2 x hx s (by simp) with ⟨m, hm, hk⟩ | h
          · exfalso
            have ht := hbits m x.i hm hk
            have := (hL.mem x.i (hL.lt x (by simp [hx]))).2 ⟨x, by simp [hx], rfl⟩
            rw [ht] at this; cases this
          · exact h
        cases hch.front A hind with
        | cons _ _ _ _ _ _ hok htail =>
          have hrun : operV F s.o' ts rd s.c (fun ts d fp => some (ts, d, fp)) = some (putS ts s.o'.dst s.v, s.d, s.fp) := hok.loc ts rd (fun _ _ => rfl) (fun _ _ => rfl) _
          obtain ⟨ts', d', fp', h1, h2⟩ := operV_sound hF hs sm hcomp hrun
          cases h1
          refine h2 hok.fresh _ Q fun φ' I' a' w' k1 k2 k3 k4 => ?_
          refine wpAny_dregX hF hac hop hmp hbp hfree fuel (A ++ B) _ φ' I' _ _ a' w' (hL.take hbits) hfuel htail (k1.trans hd) k2 k3 (fun d hd' => ?_) (fun x hx => hR x (by rcases List.mem_append.1 hx with h | h <;> simp [h])) fun φ'' I'' a'' w'' Kp m1 m2 => hQ φ'' I'' a'' w'' Kp m1 (k4.trans m2)
          rw [slot_putS (fun e => hR s hsR d e hd')]
          exact hD d hd'
      · subst hip
        have hnil : R = [] := by
          rw [List.eq_nil_iff_forall_not_mem]
          intro s hsR
          have h1 := hL.lt s hsR
          have h2 := hbits mp s.i hmp (hbp s.i h1)
          have h3 := (hL.mem s.i h1).2 ⟨s, hsR, rfl⟩
          rw [h2] at h3; cases h3
        subst hnil
        cases hch
        rw [hop] at ho; cases ho
        exact hQ φ I a w _ ⟨hs, sm, hd⟩ (.refl _ _ _ _)
      · rcases hfree i o hip ho with ⟨m, hm, hk⟩ | ⟨o', h1, h2, h3⟩
        · exfalso
          have := hbits m p hm hk
          rw [hL.atp] at this; cases this
        · refine free_step h1 h2 hs sm (fun d hd' => hD d (h3 d hd')) _ fun a' w' k1 k2 k3 k4 => ?_
          exact wpAny_dregX hF hac hop hmp hbp hfree fuel R _ φ I ts rd a' w' (hL.skip hil hip hbits) hfuel hch (k1.trans hd) k2 k3 hD hR fun φ'' I'' a'' w'' Kp m1 m2 => hQ φ'' I'' a'' w'' Kp m1 (k4.trans m2)

end

end Go.Proofs.Dw
end

/-
  THE ABSTRACT WALK, 35: drawn regions that panic are sound.
-/
section
namespace Go.Proofs.Dw

theorem mapO_take {β γ : Type} {f : β → Option γ} : ∀ {l : List β} {r : List γ} (p : Nat), mapO f l = some r → mapO f (l.take p) = some (r.take p)
  | [], r, p, h => by simp [mapO] at h; subst h; simp [mapO]
  | x :: l, r, 0, h => by simp [mapO]
  | x :: l, r, p + 1, h => by
    simp only [mapO] at h
    split at h
    · rename_i y hy
      split at h
      · rename_i r' hr'
        cases h
        simp only [List.take_succ_cons, mapO, hy, mapO_take p hr']
      · cases h
    · cases h

theorem mapO_get {β γ : Type} {f : β → Option γ} {l : List β} {r : List γ} (h : mapO f l = some r) {i : Nat} {y : γ} (hy : r[i]? = some y) : ∃ x, l[i]? = some x ∧ f x = some y := by
  obtain ⟨h1, h2⟩ := mapO_some h
  have hi : i < l.length := by have := (List.getElem?_eq_some_iff.1 hy).1; omega
  exact ⟨l[i], by simp, h2 i l[i] y (by simp) hy⟩

theorem mapO_get' {β γ : Type} {f : β → Option γ} {l : List β} {r : List γ} (h : mapO f l = some r) {i : Nat} {x : β} (hx : l[i]? = some x) : ∃ y, r[i]? = some y ∧ f x = some y := by
  obtain ⟨h1, h2⟩ := mapO_some h
  have hi : i < r.length := by have := (List.getElem?_eq_some_iff.1 hx).1; omega
  exact ⟨r[i], by simp, h2 i x r[i] hx (by simp)⟩

theorem allBits_spec {m : Nat} : ∀ {n : Nat}, allBits m n = true → ∀ k, k < n → Nat.testBit m k = true
  | 0, _, k, hk => by omega
  | n + 1, h, k, hk => by
    simp only [allBits, Bool.and_eq_true] at h
    by_cases e : k = n
    · subst e; exact h.1
    · exact allBits_spec h.2 k (by omega)

theorem laterOk_spec {n : Nat} : ∀ {bef : List Nat} {ops : List IOper}, laterOk n bef ops = true → ∀ {i m : Nat} {o : IOper}, bef[i]? = some m → ops[i]? = some o → Nat.testBit m n = true ∨ isNew o = true
  | [], _, _, i, m, o, h1, _ => by simp at h1
  | _ :: _, [], _, i, m, o, _, h2 => by simp at h2
  | b :: bef, x :: ops, h, i, m, o, h1, h2 => by
    simp only [laterOk, Bool.and_eq_true, Bool.or_eq_true] at h
    cases i with
    | zero => simp at h1 h2; subst h1; subst h2; exact h.1
    | succ i => exact laterOk_spec h.2 (by simpa using h1) (by simpa using h2)

theorem freeDsts_mem {n : Nat} : ∀ {bef : List Nat} {ops : List IOper} {i m d : Nat} {o : IOper}, bef[i]? = some m → Nat.testBit m n = false → ops[i]? = some o → o.dst = some d → d ∈ freeDsts n bef ops
  | [], _, i, m, d, o, h1, _, _, _ => by simp at h1
  | _ :: _, [], i, m, d, o, _, _, h2, _ => by simp at h2
  | b :: bef, x :: ops, i, m, d, o, h1, hb, h2, hd => by
    simp only [freeDsts]
    cases i with
    | zero => simp at h1 h2; subst h1; subst h2; rw [hb, hd]; simp
    | succ i =>
      have ih := freeDsts_mem (n := n) (bef := bef) (ops := ops) (i := i) (by simpa using h1) hb (by simpa using h2) hd
      split
      · exact List.mem_cons_of_mem _ ih
      · exact ih

theorem dstOff_spec {D : List Nat} : ∀ {l : List IOper}, dstOff D l = true → ∀ o, o ∈ l → ∀ d, o.dst = some d → d ∉ D
  | [], _, o, h, _, _ => by simp at h
  | x :: l, h, o, ho, d, hd => by
    simp only [dstOff, Bool.and_eq_true] at h
    rcases List.mem_cons.1 ho with e | ho
    · subst e
      have := h.1
      rw [hd] at this
      simp only [Bool.not_eq_true'] at this
      intro hm
      rw [(memN_iff D d).2 hm] at this; cases this
    · exact dstOff_spec h.2 o ho d hd

theorem slot_setN_any : ∀ (ts : List AV) (d : Nat), slot (setN ts d .any) d = .any
  | [], _ => rfl
  | x :: l, 0 => rfl
  | x :: l, d + 1 => by simp only [setN, slot]; exact slot_setN_any l d

theorem forgetL_any : ∀ (D : List Nat) (ts : List AV) (d : Nat), (d ∈ D ∨ slot ts d = .any) → slot (forgetL D ts) d = .any
  | [], ts, d, h => by
    rcases h with h | h
    · simp at h
    · exact h
  | e :: D, ts, d, h => by
    simp only [forgetL]
    refine forgetL_any D _ d ?_
    by_cases he : e = d
    · subst he; exact .inr (slot_setN_any ts e)
    · rcases h with h | h
      · exact .inl ((List.mem_cons.1 h).resolve_left (fun h => he h.symm))
      · exact .inr (by rw [slot_setN_ne ts e d .any he]; exact h)

theorem setAny_rep {φ : Phi} {rd : Rd} {w : World} {I : Fz} {ts : List AV} {vs : Array Value} (h : RepS φ rd w I ts vs) (d : Nat) : RepS φ rd w I (setN ts d .any) vs := by
  unfold RepS RepL at *
  rw [setN_eq, List.length_set]
  refine ⟨h.1, fun i y u hy hu => ?_⟩
  rw [List.getElem?_set] at hy
  by_cases hd : d = i
  · subst hd
    simp only [if_true] at hy
    split at hy
    · cases hy; exact .any u
    · cases hy
  · rw [if_neg hd] at hy
    exact h.2 i y u hy hu

theorem forgetL_rep {φ : Phi} {rd : Rd} {w : World} {I : Fz} {vs : Array Value} : ∀ (D : List Nat) {ts : List AV}, RepS φ rd w I ts vs → RepS φ rd w I (forgetL D ts) vs
  | [], _, h => h
  | d :: D, _, h => forgetL_rep D (setAny_rep h d)

section
variable {Df : List Deferred} {P : Program} {F : Fns} {X : PFns} {rs : Cfg} {ops : Array Oper} {Q : Exit → Act → World → Prop}

theorem unl_rep (n : Nat) : unl (Array.replicate n false) = n := by
  unfold unl
  rw [Array.toList_replicate, List.countP_replicate]
  simp

theorem compOper_dst {o : Oper} {o' : IOper} (hc : compOper P rs ops o = some o') : o'.dst = o.dst := by
  unfold compOper at hc
  split at hc
  · cases hc
  · split at hc
    · cases hc; rfl
    · split at hc
      · split at hc
        · cases hc; rfl
        · cases hc
      · cases hc

theorem dregX_sound (hF : FnsOk P F) (hX : PFnsOk P X) (hm : P.follows .mixedOrders = true) {l' : List IOper} {st : St} {α : Type} {r : α} {K : St → Option α} {Pn : Tree → St → Option α} {id : Nat} {φ : Phi} {I : Fz} {a : Act} {w : World} (hl : mapO (compOper P rs ops) ops.toList = some l')
    (hac : acyc (ops.toList.map afterOf) ops.size [] = true) (hsl : slotsClear 0 (befGo (ops.toList.map afterOf) []) l' = true)
    (h : evDopsX F X (befGo (ops.toList.map afterOf) []) l' st K Pn = some r) (ok : StOk Df φ I st a w)
    (hQ : ∀ st' φ' I' a' w', K st' = some r → StOk Df φ' I' st' a' w' → Ext φ I (rdH st.H) w φ' I' (rdH st'.H) w' → Q .normal a' w')
    (hP : ∀ v st' φ' I' val a' w', Pn v st' = some r → StOk Df φ' I' st' a' w' → RepT w' I' v val → Ext φ I (rdH st.H) w φ' I' (rdH st'.H) w' → Q (.panic [{ v := val, recovered := false }]) a' w') : (Code.region id ops true).wp P Q a w := by
  unfold evDopsX at h
  split at h
  · rename_i st1 hd
    exact dreg_sound hF hm hl hac hsl hd ok fun st'' φ' I' a' w' k1 k2 k3 => by cases k1; exact hQ _ φ' I' a' w' h k2 k3
  · split at h
    · cases h
    · rename_i p hp
      split at h
      · rename_i o' mp ho' hmp
        obtain ⟨hb, h⟩ := bif_some h
        simp only [Bool.and_eq_true] at hb
        obtain ⟨hb1, hb2, hb3⟩ := hb
        rw [nth_eq] at ho' hmp
        split at h
        · rename_i st1 hd1
          split at h
          · rename_i v H' hx
            obtain ⟨op, hop, hcp⟩ := mapO_get hl ho'
            have hop' : ops[p]? = some op := by simpa using hop
            have hps : p < ops.size := (Array.getElem?_eq_some_iff.1 hop').1
            obtain ⟨R, st', h1, h2, h3, h4, h5, h6⟩ := evDops_chain (ops.toList.take p) (l'.take p) [] _ 0 (mapO_take p hl) hd1
            cases h2
            refine wp_region_any hm ?_
            have E0 : Ext φ I (rdH st.H) w φ I (rdH st.H) { w with drawn := w.drawn + 1 } := Ext.same (fun _ => rfl) rfl rfl rfl rfl
            have sm0 : Sim φ I (rdH st.H) { w with drawn := w.drawn + 1 } := ok.sim.same (fun _ => rfl) rfl rfl rfl rfl
            have hlen : R.length = p := by have := congrArg List.length h4; simp at this; omega
            have hRi : ∀ (q : Nat) s, R[q]? = some s → s.i = q := fun q s hq => by have := (h6 q s hq).1; omega
            have hRl : ∀ (q : Nat) s, R[q]? = some s → l'[q]? = some s.o' := fun q s hq => by
              have e : (R.map (·.o'))[q]? = some s.o' := by rw [List.getElem?_map, hq]; rfl
              rw [h5, List.getElem?_take] at e
              split at e
              · exact e
              · cases e
            have hRo : ∀ (q : Nat) s, R[q]? = some s → ops[q]? = some s.o := fun q s hq => by
              have e : (R.map (·.o))[q]? = some s.o := by rw [List.getElem?_map, hq]; rfl
              rw [h4, List.getElem?_take] at e
              split at e
              · simpa using e
              · cases e
            have bget : ∀ {j : Nat} {oj : Oper}, ops[j]? = some oj → ∃ m, (befGo (ops.toList.map afterOf) [])[j]? = some m := fun {j oj} hj => by
              obtain ⟨acc', b1, _⟩ := befGo_get (ops.toList.map afterOf) [] j (afterOf oj) (by rw [List.getElem?_map, Array.getElem?_toList, hj]; rfl)
              rw [List.length_nil, Nat.zero_add] at b1
              exact ⟨_, b1⟩
            have hL : LeftX P rs ops p R (Array.replicate ops.size false) := by
              refine ⟨by simp, fun j hj => ⟨fun _ => ?_, fun _ => by have : j < ops.size := by omega
                                                                     simp [this]⟩, fun s hs => ?_, by simp [hps], ?_, fun s hs => ?_, ?_, fun j m k hj => ?_⟩
              · have hj' : j < R.length := by omega
                exact ⟨R[j], List.getElem_mem _, hRi j _ (by simp)⟩
              · obtain ⟨q, hq, rfl⟩ := List.mem_iff_getElem.1 hs
                rw [hRi q _ (List.getElem?_eq_getElem hq)]; omega
              · rw [List.pairwise_iff_getElem]
                intro p q hp hq hpq
                rw [hRi p _ (List.getElem?_eq_getElem hp), hRi q _ (List.getElem?_eq_getElem hq)]
                exact hpq
              · obtain ⟨q, hq, rfl⟩ := List.mem_iff_getElem.1 hs
                have he : R[q]? = some R[q] := List.getElem?_eq_getElem hq
                refine ⟨?_, (h6 q _ he).2⟩
                rw [hRi q _ he]; exact hRo q _ he
              · rw [List.pairwise_iff_getElem]
                intro i q hi hq hiq
                have ep : R[i]? = some R[i] := List.getElem?_eq_getElem hi
                have eq : R[q]? = some R[q] := List.getElem?_eq_getElem hq
                rw [hRi i _ ep, hRi q _ eq]
                obtain ⟨m, b1⟩ := bget (hRo q _ eq)
                rw [List.nil_append] at h3
                have c1 := allClear_spec (p := i) (q := q) h3 hiq (by rw [List.getElem?_map, ep]; rfl) (m := m) (by rw [List.getElem?_take, if_pos (by omega)]; exact b1) (by rw [List.getElem?_map, eq]; rfl)
                have c2 := slotsClear_spec (p := i) (q := q) hsl hiq (hRl i _ ep) b1 (hRl q _ eq)
                rw [Nat.zero_add] at c1 c2
                rcases c1 with c1 | c1
                · exact .inl ⟨_, b1, c1⟩
                · rcases c2 with c2 | ⟨c2, c3⟩
                  · exact .inl ⟨_, b1, c2⟩
                  · exact .inr (ind_of c1 c2 c3)
              · rw [Array.getElem?_replicate] at hj
                split at hj <;> cases hj
            have hfree : ∀ (j : Nat) o, p < j → ops[j]? = some o → (∃ m, (befGo (ops.toList.map afterOf) [])[j]? = some m ∧ Nat.testBit m p = true) ∨ ∃ o', compOper P rs ops o = some o' ∧ isNew o' = true ∧ ∀ d, o.dst = some d → d ∈ freeDsts p ((befGo (ops.toList.map afterOf) []).drop (p + 1)) (l'.drop (p + 1)) := by
              intro j o hj ho
              obtain ⟨m, b1⟩ := bget ho
              obtain ⟨oj, l1, c1⟩ := mapO_get' hl (i := j) (x := o) (by simpa using ho)
              have e1 : ((befGo (ops.toList.map afterOf) []).drop (p + 1))[j - (p + 1)]? = some m := by rw [List.getElem?_drop, show p + 1 + (j - (p + 1)) = j by omega]; exact b1
              have e2 : (l'.drop (p + 1))[j - (p + 1)]? = some oj := by rw [List.getElem?_drop, show p + 1 + (j - (p + 1)) = j by omega]; exact l1
              cases hq : Nat.testBit m p with
              | true => exact .inl ⟨m, b1, hq⟩
              | false =>
                refine .inr ⟨oj, c1, ?_, fun d hd => freeDsts_mem e1 hq e2 ((compOper_dst c1).trans hd)⟩
                rcases laterOk_spec hb2 e1 e2 with h | h
                · rw [hq] at h; cases h
                · exact h
            refine wpAny_dregX hF hac hop' hmp (fun k hk => allBits_spec hb1 k hk) hfree ops.size R _ φ I _ (rdH st.H) a _ hL (unl_rep ops.size) h1 ok.defers (forgetL_rep _ ⟨ok.reps.1, fun i x v hx hv => (ok.reps.2 i x v hx hv).ext E0 ok.sim⟩) sm0
              (fun d hd => forgetL_any _ _ d (.inl hd)) (fun s hs d hd => dstOff_spec hb3 s.o' (by rw [← h5]; exact List.mem_map_of_mem hs) d hd) fun φ' I' a' w' Kp k1 k2 => ?_
            exact xOper_sound hX k1 hcp hx Kp Q fun φ'' I'' val a'' w'' m1 m2 m3 => hP v _ φ'' I'' val a'' w'' h m1 m2 (E0.trans (k2.trans m3))
          · cases h
        · cases h
      · cases h

end

end Go.Proofs.Dw
end

/-
  THE ABSTRACT WALK, 36: code and functions that panic.
-/
section
namespace Go.Proofs.Dw

section
variable {Df : List Deferred} {P : Program} {F : Fns} {X : PFns} {rs : Cfg}

theorem evCX_sound (hF : FnsOk P F) (hX : PFnsOk P X) (hm : P.follows .mixedOrders = true) {m n : Nat} {φ0 : Phi} {I0 : Fz} {rd0 : Rd} {w0 : World} (hm0 : ∀ b, rd0 b ≠ .unborn → b < m) {α : Type} {r : α} {Pn : Tree → St → Option α} : ∀ (c : Code) (h h' : List (List Nat)) (ic : ICode) (st : St) (φ : Phi) (I : Fz) (a : Act) (w : World)
    (K : IExit → St → Option α) (Q : Exit → Act → World → Prop), comp P rs c h = some (ic, h') → evCX F X n m ic st K Pn = some r → StOk Df φ I st a w → Ext φ0 I0 rd0 w0 φ I (rdH st.H) w →
    (∀ e st' φ' I' a' w', K e st' = some r → StOk Df φ' I' st' a' w' → Ext φ0 I0 rd0 w0 φ' I' (rdH st'.H) w' → Q e.out a' w') →
    (∀ v st' φ' I' val a' w', Pn v st' = some r → StOk Df φ' I' st' a' w' → RepT w' I' v val → Ext φ0 I0 rd0 w0 φ' I' (rdH st'.H) w' → Q (.panic [{ v := val, recovered := false }]) a' w') → c.wp P Q a w := by
  intro c
  induction c with
  | skip =>
    intro h h' ic st φ I a w K Q hc he ok E hQ hP
    simp only [comp] at hc; cases hc
    exact wp_skip (hQ .normal st φ I a w he ok E)
  | region id ops draw =>
    intro h h' ic st φ I a w K Q hc he ok E hQ hP
    obtain ⟨l, hl, ⟨rfl, rfl⟩ | ⟨rfl, h1, h2, rfl⟩⟩ := comp_region hc
    · simp only [evCX] at he
      exact wp_region_list (evOpsX_sound hF hX ops.toList l st φ I a w hl he ok (fun st' φ' I' a' w' k1 k2 k3 => hQ .normal st' φ' I' a' w' k1 k2 (E.trans k3)) fun v st' φ' I' val a' w' k1 k2 k3 k4 => hP v st' φ' I' val a' w' k1 k2 k3 (E.trans k4))
    · simp only [evCX] at he
      exact dregX_sound hF hX hm hl h1 h2 he ok (fun st' φ' I' a' w' k1 k2 k3 => hQ .normal st' φ' I' a' w' k1 k2 (E.trans k3)) fun v st' φ' I' val a' w' k1 k2 k3 k4 => hP v st' φ' I' val a' w' k1 k2 k3 (E.trans k4)
  | seq x y ihx ihy =>
    intro h h' ic st φ I a w K Q hc he ok E hQ hP
    simp only [comp] at hc
    split at hc
    · cases hc
    · rename_i ix h1 hx
      split at hc
      · cases hc
      · rename_i iy h2 hy
        cases hc
        simp only [evCX] at he
        refine wp_seq (ihx h h1 ix st φ I a w _ _ hx he ok E (fun e st' φ' I' a' w' k1 k2 k3 => ?_) hP)
        cases e with
        | normal => exact ihy h1 h' iy st' φ' I' a' w' K Q hy k1 k2 k3 hQ hP
        | exit i => exact hQ (.exit i) st' φ' I' a' w' k1 k2 k3
        | ret => exact hQ .ret st' φ' I' a' w' k1 k2 k3
  | cond c x y ihx ihy =>
    intro h h' ic st φ I a w K Q hc he ok E hQ hP
    simp only [comp] at hc
    split at hc
    · rename_i c' ix h1 hcc hx
      split at hc
      · cases hc
      · rename_i iy h2 hy
        cases hc
        simp only [evCX] at he
        obtain ⟨b, hb, he⟩ := asB_some he
        have hv := ev_rep ok.reps hcc
        rw [hb] at hv
        have hv := hv.bool_inv
        have he : (bif b then evCX F X n m ix st K Pn else evCX F X n m iy st K Pn) = some r := by
          cases c' with
          | s i =>
            have hs : slot st.ts i = .t (.bool b) := hb
            have hsame := setB_same hs
            cases b <;> simp only [cond_true, cond_false] at he ⊢ <;> rw [hsame] at he <;> exact he
          | c v => exact he
          | f g => exact he
        refine wp_cond hv ?_
        cases b with
        | true => exact ihx h h1 ix st φ I a w K Q hx he ok E hQ hP
        | false => exact ihy h1 h' iy st φ I a w K Q hy he ok E hQ hP
    · cases hc
  | block id c ih =>
    intro h h' ic st φ I a w K Q hc he ok E hQ hP
    simp only [comp] at hc
    split at hc
    · rename_i ix h1 hx
      cases hc
      simp only [evCX] at he
      refine wp_block (ih h h' ix st φ I a w _ _ hx he ok E (fun e st' φ' I' a' w' k1 k2 k3 => ?_) hP)
      cases e with
      | normal => exact hQ .normal st' φ' I' a' w' k1 k2 k3
      | exit i =>
        simp only at k1
        show Exit.inBlock id Q (.exit i) a' w'
        simp only [Exit.inBlock]
        cases hb : Nat.beq i id with
        | true =>
          rw [hb, cond_true] at k1
          rw [if_pos (Nat.eq_of_beq_eq_true hb)]
          exact hQ .normal st' φ' I' a' w' k1 k2 k3
        | false =>
          rw [hb, cond_false] at k1
          rw [if_neg (Nat.ne_of_beq_eq_false hb)]
          exact hQ (.exit i) st' φ' I' a' w' k1 k2 k3
      | ret => exact hQ .ret st' φ' I' a' w' k1 k2 k3
    · cases hc
  | loop c ih =>
    intro h h' ic st φ I a w K Q hc he ok E hQ hP
    simp only [comp] at hc
    split at hc
    · rename_i live h1
      split at hc
      · rename_i ix h2 hx
        cases hc
        simp only [evCX] at he
        obtain ⟨φ1, st1, k1, k2, k3, k4⟩ := norm_sound (st := st) (ts := st.ts) (H := st.H) rfl he hm0 ok.sim E ok.reps
        have rounds : ∀ (q : Nat) (st : St) (φ : Phi) (I : Fz) (a : Act) (w : World), evLoop m live (fun s K' => evCX F X n m ix s K' Pn) q st K = some r → StOk Df φ I st a w → Ext φ0 I0 rd0 w0 φ I (rdH st.H) w →
            Code.rounds P c Q q a w := by
          intro q
          induction q with
          | zero => intro st φ I a w h _ _; simp [evLoop] at h
          | succ q ihq =>
            intro st φ I a w hl ok E
            simp only [evLoop] at hl
            rw [rounds_succ]
            refine ih h1 h' ix st φ I a w _ _ hx hl ok E (fun e st' φ' I' a' w' k1 k2 k3 => ?_) hP
            cases e with
            | normal =>
              obtain ⟨φ2, st2, m1, m2, m3, m4⟩ := norm_sound (st := st') (ts := st'.ts) (H := st'.H) rfl k1 hm0 k2.sim k3 k2.reps
              exact ihq st2 φ2 I' a' w' m1 ⟨m4, m2, k2.defers⟩ m3
            | exit i => exact hQ (.exit i) st' φ' I' a' w' k1 k2 k3
            | ret => exact hQ .ret st' φ' I' a' w' k1 k2 k3
        exact wp_loop_rounds n (rounds n st1 φ1 I a w k1 ⟨k4, k2, ok.defers⟩ k3)
      · cases hc
    · cases hc
  | exit id =>
    intro h h' ic st φ I a w K Q hc he ok E hQ hP
    simp only [comp] at hc; cases hc
    exact wp_exit (hQ (.exit id) st φ I a w he ok E)
  | ret =>
    intro h h' ic st φ I a w K Q hc he ok E hQ hP
    simp only [comp] at hc; cases hc
    exact wp_ret (hQ .ret st φ I a w he ok E)
  | _ =>
    intro h h' ic st φ I a w K Q hc
    simp [comp] at hc


def RxOk (P : Program) (rx : Nat → List AV → Heap → Option (Tree × Heap)) : Prop :=
  ∀ g args H v H', rx g args H = some (v, H') → callable P g = true ∧ ∀ (φ : Phi) (w : World) (I : Fz) (vals : Array Value), RepL φ (rdH H) w I args vals.toList → Sim φ I (rdH H) w → Calls P g vals w (PComes φ I H w v H')

theorem pxOf_gets {rx : Nat → List AV → Heap → Option (Tree × Heap)} (hrf : RxOk P rx) {g : Nat} {xs : List Tree} {y : Tree} (h : pxOf rx g xs = some y) :
    callable P g = true ∧ ∀ (w : World) (I : Fz) (vals : Array Value), RepTL w I xs vals.toList → FzOk I w → Calls P g vals w (PGets w I y) := by
  simp only [pxOf] at h
  cases hp : rx g (xs.map .t) [] with
  | none => simp [hp] at h
  | some p =>
    obtain ⟨v, H'⟩ := p
    simp only [hp, Option.bind_some] at h
    cases h
    obtain ⟨hc, hcall⟩ := hrf g _ [] _ H' hp
    refine ⟨hc, fun w I vals hr hI => ?_⟩
    have dead : ∀ b : Nat, rdH [] b = .unborn := fun b => rdH_unborn [] b (by simp)
    have nw : ¬ HasW (rdH []) := fun ⟨b, G, hb⟩ => by rw [dead b] at hb; cases hb
    have sm : Sim (fun _ => none) I (rdH []) w := ⟨fun b hb => (by rw [dead b] at hb; cases hb), fun b b' g C C' hb => (by rw [dead b] at hb; cases hb), hI.old, ⟨hI.psI, hI.psinj, fun b g C id hb => (by rw [dead b] at hb; cases hb), fun b G hb => (by rw [dead b] at hb; cases hb)⟩⟩
    refine Calls.mono (hcall (fun _ => none) w I vals (RepL.ofT hr) sm) fun e w' he => ?_
    obtain ⟨val, φ', I', rfl, h1, h2, h3⟩ := he
    have hps : I'.ps = I.ps := by
      funext id
      cases hq : I.ps id with
      | some g => exact h3.wx.psub id g hq
      | none =>
        cases hq' : I'.ps id with
        | none => rfl
        | some g =>
          rcases h3.wx.psnew id g hq' with h | ⟨h, _⟩
          · rw [hq] at h; cases h
          · exact (nw h).elim
    refine ⟨val, I', rfl, h1, h3.sub, fun b hb => ?_, h2.old, ⟨fun b hb => ?_, h3.size, h3.os, h3.tape, h3.output⟩, hps⟩
    · rcases h3.inew b hb with h | h | ⟨b0, C0, hm0, _⟩
      · exact .inl h
      · exact .inr h
      · rw [dead b0] at hm0; cases hm0
    · exact h3.frame b hb (fun b0 C hm _ => by rw [dead b0] at hm; cases hm) fun h => (nw h).elim

theorem pwOf_gets {rx : Nat → List AV → Heap → Option (Tree × Heap)} (hrf : RxOk P rx) {g : Nat} {xs : List Tree} {G G' : World'} {y : Tree} (h : pwOf rx g xs G = some (y, G')) :
    callable P g = true ∧ ∀ (w : World) (I : Fz) (vals : Array Value), RepTL w I xs vals.toList → FzOk I w → WldOk w I G → Calls P g vals w (PGetsW w I y G') := by
  simp only [pwOf] at h
  cases hp : rx g (xs.map .t) [.wld G] with
  | none => simp [hp] at h
  | some p =>
    obtain ⟨v, H'⟩ := p
    simp only [hp, Option.bind_some] at h
    obtain ⟨G1, hG1, h⟩ := withW_some h
    cases h
    obtain ⟨hc, hcall⟩ := hrf g _ _ _ H' hp
    refine ⟨hc, fun w I vals hr hI hW => ?_⟩
    have at0 : rdH [HObj.wld G] 0 = .wld G := rfl
    have atn : ∀ b : Nat, b ≠ 0 → rdH [HObj.wld G] b = .unborn := fun b hb => rdH_unborn _ b (by simp; omega)
    have nal : ∀ b, (rdH [HObj.wld G] b).alive = true → False := fun b hb => by
      by_cases h : b = 0
      · subst h; rw [at0] at hb; cases hb
      · rw [atn b h] at hb; cases hb
    have sm : Sim (fun _ => none) I (rdH [.wld G]) w := ⟨fun b hb => (nal b hb).elim, fun b b' g C C' hb => (nal b (HObj.mut_alive hb)).elim, hI.old, ⟨hI.psI, hI.psinj, fun b g C id hb => (nal b (HObj.mut_alive hb)).elim, fun b G0 hb => by
      by_cases h : b = 0
      · subst h; rw [at0] at hb; cases hb; exact ⟨rfl, hW⟩
      · rw [atn b h] at hb; cases hb⟩⟩
    refine Calls.mono (hcall (fun _ => none) w I vals (RepL.ofT hr) sm) fun e w' he => ?_
    obtain ⟨val, φ', I', rfl, h1, h2, h3⟩ := he
    refine ⟨val, I', rfl, h1, ⟨h2.fzOk, (h2.wok.wld 0 _ hG1).2, h3.sub, fun b hb => ?_, h3.wx.psub, fun id g hg => (h3.wx.psnew id g hg).imp_right (·.2), fun b hb hn => ?_, h3.size, h3.os, h3.tape, h3.output⟩⟩
    · rcases h3.inew b hb with h | h | ⟨b0, C0, hm0, _⟩
      · exact .inl h
      · exact .inr h
      · exact (nal b0 (HObj.mut_alive hm0)).elim
    · exact h3.frame b hb (fun b0 C hm _ => (nal b0 (HObj.mut_alive hm)).elim) fun _ => hn

theorem prOf_gets {rx : Nat → List AV → Heap → Option (Tree × Heap)} (hrf : RxOk P rx) {g : Nat} {xs : List Tree} {y : Tree} (h : prOf rx g xs = some y) :
    callable P g = true ∧ ∀ (w : World) (I : Fz) (vals : Array Value), RepTL w I xs vals.toList → FzOk I w → Calls P g vals w (PGets w I y) := by
  unfold prOf at h
  obtain ⟨hn, h⟩ := bif_some h
  cases hp : pwOf rx g xs [] with
  | none => simp [hp] at h
  | some p =>
    obtain ⟨y1, G'⟩ := p
    simp only [hp, Option.bind_some] at h
    obtain ⟨hy, h⟩ := bif_some h
    cases h
    obtain ⟨hc, hcall⟩ := pwOf_gets hrf hp
    refine ⟨hc, fun w I vals hr hI => ?_⟩
    have hr0 : RepTL w ⟨I.fz, fun _ => none⟩ xs vals.toList := ⟨hr.1, fun i x v hx hv => (hr.2 i x v hx hv).noW _ (noWs_mem hn x (List.mem_of_getElem? hx))⟩
    refine Calls.mono (hcall w ⟨I.fz, fun _ => none⟩ vals hr0 ⟨hI.old, fun id g h => (by cases h), fun id id' g h => (by cases h)⟩ ⟨fun id o ho => by simp at ho, fun id g h => (by cases h)⟩) fun e w' he => ?_
    obtain ⟨v, I', rfl, h1, st⟩ := he
    exact ⟨v, ⟨I'.fz, I.ps⟩, rfl, h1.noW _ hy, st.sub, st.inew, st.fz.old, ⟨fun g hg => st.frame g hg fun id h => (by cases h), st.size, st.os, st.tape, st.output⟩, rfl⟩

theorem pfns_ok {root : Nat → Bool} {rx : Nat → List AV → Heap → Option (Tree × Heap)} (hrf : RxOk P rx) : PFnsOk P ⟨pxE root rx, pwOf rx⟩ where
  px := by
    intro g xs y h
    have h : pxE root rx g xs = some y := h
    unfold pxE at h
    cases hb : root g with
    | true => rw [hb, cond_true] at h; exact prOf_gets hrf h
    | false => rw [hb, cond_false] at h; exact pxOf_gets hrf h
  pw := fun g xs G y G' h => pwOf_gets hrf h

/-- Where a call is reckoned to panic, the model's does. -/
theorem runX_sound {E : Env} (hE : EnvOk P E) (hm : P.follows .mixedOrders = true) : ∀ k, RxOk P (runX E k)
  | 0 => fun g args H v H' h => by simp [runX] at h
  | k + 1 => fun f args H v H' h => by
    have ihF := rf_ok hE (runFn_sound hE hm k)
    have ihX : PFnsOk P ⟨pxE E.root (runX E k), pwOf (runX E k)⟩ := pfns_ok (runX_sound hE hm k)
    simp only [runX] at h
    split at h
    · cases h
    · rename_i fi hfi
      obtain ⟨live, rs, hcf⟩ := hE.code f fi hfi
      unfold compF at hcf
      split at hcf
      · cases hcf
      · rename_i fn hfn
        split at hcf
        · cases hcf
        · rename_i c hbody
          obtain ⟨hcall, hcf⟩ := bif_some hcf
          split at hcf
          · rename_i ib ir hcomp hres
            cases hcf
            refine ⟨hcall, fun φ w I vals hr sm => ?_⟩
            refine calls_of_wp hfn hbody ?_
            refine evCX_sound ihF ihX hm (m := H.length) (φ0 := φ) (I0 := I) (rd0 := rdH H) (w0 := w) (fun b hb => ?_) c live [] ib ⟨start fn.ntmps args, H⟩ φ I _ w _ _ hcomp h ⟨start_rep fn.ntmps hr, sm, rfl⟩ (.refl _ _ _ _) (fun e st' φ' I' a' w' k1 k2 k3 => by cases k1) fun v1 st1 φ' I' val a' w' k1 k2 k3 k4 => ?_
            · rcases Nat.lt_or_ge b H.length with h | h
              · exact h
              · exact absurd (rdH_unborn H b h) hb
            · cases k1
              exact ⟨k2.defers, val, φ', I', rfl, k3, k2.sim, k4⟩
          · cases hcf

end

end Go.Proofs.Dw
end

/-
  THE ABSTRACT WALK, 38: regions that draw their order, by a relation kept at each operation; slices of unknown spare room that lie apart.
-/
section
namespace Go.Proofs.Dw

section
variable {P : Program} {ops : Array Oper} {Q : Exit → Act → World → Prop}

theorem ready_all (hac : acyc (ops.toList.map afterOf) ops.size [] = true) {listed : Array Bool} (hsz : listed.size = ops.size) (hr : Region.ready .any ops listed = []) : ∀ i, i < ops.size → listed[i]? = some true := by
  intro i hi
  refine Classical.byContradiction fun hn => ?_
  obtain ⟨j, af, h1, h2, h3⟩ := acyc_spec (fun j : Nat => listed[j]? = some true) _ [] hac (fun x hx => by cases hx) ⟨i, by simpa using hi, hn⟩
  have hj : j < ops.size := by have := (List.getElem?_eq_some_iff.1 h1).1; simpa using this
  have ho : ops[j]? = some ops[j] := by simp [hj]
  have haf : af = afterOf ops[j] := by
    rw [List.getElem?_map, Array.getElem?_toList, ho] at h1
    cases h1; rfl
  have hfl : listed[j]? = some false := by
    have hl : j < listed.size := by rw [hsz]; exact hj
    have he : listed[j]? = some listed[j] := by simp [hl]
    rw [he] at h2 ⊢
    cases hq : listed[j] with
    | true => rw [hq] at h2; exact absurd rfl h2
    | false => rfl
  have := (mem_ready (i := j) hsz).2 ⟨_, ho, hfl, fun e he => h3 e (by rw [haf]; exact he)⟩
  rw [hr] at this; cases this

/-- A relation that each operation keeps. -/
theorem wpAny_inv (hac : acyc (ops.toList.map afterOf) ops.size [] = true) (S : Array Bool → Act → World → Prop)
    (step : ∀ (listed : Array Bool) i o a w, listed.size = ops.size → S listed a w → ops[i]? = some o → listed[i]? = some false → (∀ e, e ∈ afterOf o → listed[e]? = some true) → StepWp P ops o a w (S (listed.setIfInBounds i true)) Q)
    (done : ∀ (listed : Array Bool) a w, S listed a w → (∀ i, i < ops.size → listed[i]? = some true) → Q .normal a w) :
    ∀ (fuel : Nat) (listed : Array Bool) a w, listed.size = ops.size → unl listed = fuel → S listed a w → wpAny P .any ops Q fuel listed a w
  | 0, listed, a, w, hsz, hu, hS => by
    have hall : ∀ i, i < ops.size → listed[i]? = some true := by
      intro i hi
      have hl : i < listed.size := by omega
      have he : listed[i]? = some listed[i] := by simp [hl]
      rw [he]
      unfold unl at hu
      rw [List.countP_eq_zero] at hu
      have := hu listed[i] (by simp)
      cases hq : listed[i] with
      | true => rfl
      | false => rw [hq] at this; simp at this
    refine ⟨?_, done listed a w hS hall⟩
    rw [List.eq_nil_iff_forall_not_mem]
    intro i hi
    obtain ⟨o, h1, h2, _⟩ := (mem_ready hsz).1 hi
    rw [hall i (Array.getElem?_eq_some_iff.1 h1).1] at h2
    cases h2
  | fuel + 1, listed, a, w, hsz, hu, hS => by
    refine ⟨fun hr => done listed a w hS (ready_all hac hsz hr), fun i hi => ?_⟩
    obtain ⟨o, ho, hfl, haf⟩ := (mem_ready hsz).1 hi
    have h2 := step listed i o a w hsz hS ho hfl haf
    have ih : ∀ a' w', S (listed.setIfInBounds i true) a' w' → wpAny P .any ops Q fuel (listed.setIfInBounds i true) a' w' := fun a' w' h =>
      wpAny_inv hac S step done fuel _ a' w' (by simpa using hsz) (by have := unl_set hfl; omega) h
    unfold wpOp
    rw [ho]
    unfold StepWp at h2
    simp only
    split
    · rename_i hw; rw [if_pos hw] at h2; exact .inl (Oper.wp_mono ih h2)
    · rename_i hw; rw [if_neg hw] at h2; exact ih _ _ h2

end

end Go.Proofs.Dw
end

/-
  THE ABSTRACT WALK, 39: a slice of numbers with unknown spare room; what may be done with the room.
-/
section
namespace Go.Proofs.Dw

/-- Nothing is known to lie there. -/
def Apart (I : Fz) (g : Nat) : Prop := ¬ I g ∧ ∀ id, I.ps id ≠ some g

/-- The numbers lie at the beginning of a block with room for C. -/
def RowI (w : World) (g C : Nat) (ns : List Int) : Prop :=
  ∃ arr T, w.heap[g]? = some (.cells arr T (0, 0)) ∧ C ≤ arr.size ∧ ∀ (i : Nat) n, ns[i]? = some n → arr[i]? = some (.int .i64 n)

/-- A place: a block, its room, the numbers that stay at its beginning. -/
abbrev Pl := Option (Nat × Nat × List Int)

def POk (I : Fz) (w : World) (v : Value) (p : Pl) (ns : List Int) : Prop :=
  (ns = [] ∧ ∃ A, v = .slice A 0 0) ∨ ∃ g c C, p = some (g, C, ns) ∧ v = .slice (some ⟨g, 0, none⟩) ns.length c ∧ ns.length ≤ c ∧ c ≤ C ∧ RowI w g C ns ∧ Apart I g

/-- Nothing that lay there is turned but the cells of one block behind the first ones. -/
structure PStep (p : Pl) (I : Fz) (w : World) (I' : Fz) (w' : World) : Prop where
  sub : ∀ g, I g → I' g
  inew : ∀ g, I' g → I g ∨ w.heap.size ≤ g
  old : (∀ g, I g → g < w.heap.size) → ∀ g, I' g → g < w'.heap.size
  ps : I'.ps = I.ps
  size : w.heap.size ≤ w'.heap.size
  heap : ∀ g, g < w.heap.size → (∀ q, p ≠ some (g, q)) → w'.heap[g]? = w.heap[g]?
  row : ∀ g C ns, p = some (g, C, ns) → RowI w g C ns → RowI w' g C ns
  os : w'.os = w.os
  tape : w'.tape = w.tape
  output : w'.output = w.output

section
variable {p : Pl} {I I' I'' : Fz} {w w' w'' : World}

theorem RowI.of {g C : Nat} {ns : List Int} (h : RowI w g C ns) (e : w'.heap[g]? = w.heap[g]?) : RowI w' g C ns := by
  obtain ⟨arr, T, h1, h2⟩ := h
  exact ⟨arr, T, e.trans h1, h2⟩

theorem RowI.front {g C C' : Nat} {ns ms : List Int} (h : RowI w g C' (ns ++ ms)) (hC : C ≤ C') : RowI w g C ns := by
  obtain ⟨arr, T, h1, h2, h3⟩ := h
  refine ⟨arr, T, h1, Nat.le_trans hC h2, fun i n hi => h3 i n ?_⟩
  rw [List.getElem?_append_left (List.getElem?_eq_some_iff.1 hi).1]; exact hi

theorem RowI.lt {g C : Nat} {ns : List Int} (h : RowI w g C ns) : g < w.heap.size := by
  obtain ⟨arr, T, h1, _⟩ := h
  exact (Array.getElem?_eq_some_iff.1 h1).1

theorem PStep.refl : PStep p I w I w := ⟨fun _ h => h, fun _ h => .inl h, fun h => h, rfl, Nat.le_refl _, fun _ _ _ => rfl, fun _ _ _ _ h => h, rfl, rfl, rfl⟩

/-- A step behind it, at the same block, whose beginning stays as long at least, or at a new one. -/
theorem PStep.trans {q : Pl} (h : PStep p I w I' w') (k : PStep q I' w' I'' w'') (hq : ∀ g D ms, q = some (g, D, ms) → w.heap.size ≤ g ∨ ∃ C ns ls, p = some (g, C, ns) ∧ C ≤ D ∧ ms = ns ++ ls ∧ (RowI w' g C ns → RowI w' g D ms)) : PStep p I w I'' w'' where
  sub g hg := k.sub g (h.sub g hg)
  inew g hg := by
    rcases k.inew g hg with h1 | h1
    · exact h.inew g h1
    · exact .inr (Nat.le_trans h.size h1)
  old ho := k.old (h.old ho)
  ps := k.ps.trans h.ps
  size := Nat.le_trans h.size k.size
  heap g hg hp := by
    refine (k.heap g (Nat.lt_of_lt_of_le hg h.size) fun ⟨D, ms⟩ hqg => ?_).trans (h.heap g hg hp)
    rcases hq g D ms hqg with h1 | ⟨C, ns, ls, h1, _⟩
    · omega
    · exact hp _ h1
  row g C ns hpg ha := by
    have h1 := h.row g C ns hpg ha
    have hg := ha.lt
    by_cases hqg : ∃ x, q = some (g, x)
    · obtain ⟨⟨D, ms⟩, hqg⟩ := hqg
      rcases hq g D ms hqg with h4 | ⟨C', ns', ls, h4, h5, h6, h7⟩
      · omega
      · rw [hpg] at h4; cases h4
        have := k.row g D ms hqg (h7 h1)
        rw [h6] at this
        exact this.front h5
    · exact h1.of (k.heap g (Nat.lt_of_lt_of_le hg h.size) fun j hj => hqg ⟨j, hj⟩)
  os := k.os.trans h.os
  tape := k.tape.trans h.tape
  output := k.output.trans h.output

theorem PStep.wide {q : Pl} (h : PStep none I w I' w') : PStep q I w I' w' :=
  ⟨h.sub, h.inew, h.old, h.ps, h.size, fun g hg _ => h.heap g hg fun q hq => (by cases hq), fun g C ns _ ha => ha.of (h.heap g ha.lt fun q hq => (by cases hq)), h.os, h.tape, h.output⟩

theorem PStep.tr (h : PStep p I w I' w') (k : PStep p I' w' I'' w'') : PStep p I w I'' w'' := h.trans k fun g D ms hg => .inr ⟨D, ms, [], hg, Nat.le_refl _, by simp, id⟩

theorem PStep.apart (h : PStep p I w I' w') {g : Nat} (hg : g < w.heap.size) (ha : Apart I g) : Apart I' g := by
  refine ⟨fun hI => ?_, fun id => by rw [h.ps]; exact ha.2 id⟩
  rcases h.inew g hI with h1 | h1
  · exact ha.1 h1
  · omega

theorem PStep.pok {ns : List Int} {v : Value} (h : PStep p I w I' w') (hv : POk I w v p ns) : POk I' w' v p ns := by
  rcases hv with hv | ⟨g, c, C, rfl, rfl, h1, h2, h3, h4⟩
  · exact .inl hv
  · exact .inr ⟨g, c, C, rfl, rfl, h1, h2, h.row g C ns rfl h3, h.apart h3.lt h4⟩

/-- What nothing writes stays. -/
theorem PStep.cell (h : PStep p I w I' w') (ho : ∀ g, I g → g < w.heap.size) (hp : ∀ g q, p = some (g, q) → ¬ I g) (b o : Nat) (hb : I b) : w'.cell? ⟨b, o, none⟩ = w.cell? ⟨b, o, none⟩ :=
  cell_of_heap (h.heap b (ho b hb) fun q he => hp b q he hb) o

theorem PStep.rep {x : Tree} {v : Value} (h : PStep p I w I' w') (ho : ∀ g, I g → g < w.heap.size) (hp : ∀ g q, p = some (g, q) → ¬ I g) (r : RepT w I x v) : RepT w' I' x v :=
  r.mono ⟨h.sub, fun id g hg => by rw [h.ps]; exact hg⟩ fun b o hb => h.cell ho hp b o hb

theorem RepA.mono' {φ : Phi} {rd : Rd} {x : AV} {v : Value} (r : RepA φ rd w I x v) (hm : ∀ {y : Tree} {u : Value}, RepT w I y u → RepT w' I' y u) : RepA φ rd w' I' x v := by
  induction r with
  | t x v hx => exact .t x v (hm hx)
  | any v => exact .any v
  | sc v h => exact .sc v h
  | undef => exact .undef
  | nilS => exact .nilS
  | clip es a hx => exact .clip es a (hm hx)
  | hrefD b i j A hd => exact .hrefD b i j A hd
  | hslD b k A n c hd => exact .hslD b k A n c hd
  | hsubD b off len A n c hd => exact .hsubD b off len A n c hd
  | href b i j g C ha hφ => exact .href b i j g C ha hφ
  | hsl b k g C c ha hφ h1 h2 hk => exact .hsl b k g C c ha hφ h1 h2 hk
  | hsl0 b k a ha h0 hk => exact .hsl0 b k a ha h0 hk
  | hsub b off len g C c ha hφ h1 h2 => exact .hsub b off len g C c ha hφ h1 h2
  | hsub0 b off a ha => exact .hsub0 b off a ha
  | agg cs vs hl hf _ ih => exact .agg cs vs hl hf ih
  | fn f a c va vc h1 h2 _ _ ih1 ih2 => exact .fn f a c va vc h1 h2 ih1 ih2
  | tup cs vs hl _ ih => exact .tup cs vs hl ih

theorem PStep.fzOk (h : PStep p I w I' w') (sm : FzOk I w) (hp : ∀ g q, p = some (g, q) → Apart I g) : FzOk I' w' :=
  ⟨h.old sm.old, fun id g hg => by
    rw [h.ps] at hg
    obtain ⟨h1, h2, h3⟩ := sm.psI id g hg
    refine ⟨fun hI => ?_, Nat.lt_of_lt_of_le h2 h.size, h3.of (h.heap g h2 fun q he => (hp g q he).2 id hg)⟩
    rcases h.inew g hI with h5 | h5
    · exact h1 h5
    · omega, fun id id' g h1 h2 => by rw [h.ps] at h1 h2; exact sm.psinj id id' g h1 h2⟩

theorem PStep.reps {φ : Phi} {rd : Rd} {xs : List AV} {vs : List Value} (h : PStep p I w I' w') (ho : ∀ g, I g → g < w.heap.size) (hp : ∀ g q, p = some (g, q) → ¬ I g) (r : RepL φ rd w I xs vs) : RepL φ rd w' I' xs vs :=
  ⟨r.1, fun i x v hx hv => (r.2 i x v hx hv).mono' fun r => h.rep ho hp r⟩

def nT (ns : List Int) : List Tree := ns.map (.int .i64)

/-- The row of numbers as a row of the small heap. -/
theorem RowI.row {φ : Phi} {rd : Rd} {g C : Nat} {ns : List Int} (h : RowI w g C ns) (hl : ns.length ≤ C) : Row φ rd w I g C (.int .i64) ((nT ns).map .t) := by
  obtain ⟨arr, T, h1, h2, h3⟩ := h
  refine ⟨arr, T, h1, by simpa [Sh.width] using h2, by simpa [nT] using hl, fun i x hx => ?_⟩
  rw [List.getElem?_map] at hx
  unfold nT at hx
  rw [List.getElem?_map] at hx
  cases hq : ns[i]? with
  | none => rw [hq] at hx; cases hx
  | some n =>
    rw [hq] at hx
    simp only [Option.map_some, Option.some.injEq] at hx
    subst hx
    refine ⟨⟨rfl, rfl⟩, fun j y hy => ?_⟩
    match j, hy with
    | 0, hy =>
      have hy : AV.t (.int .i64 n) = y := by simpa [AV.cells] using hy
      subst hy
      exact ⟨.int .i64 n, by simpa [Sh.width] using h3 i n hq, .t _ _ (.int .i64 n)⟩
    | j + 1, hy => simp [AV.cells] at hy

theorem rowI_of {φ : Phi} {rd : Rd} {b g C : Nat} {ns : List Int} (sm : Sim φ I rd w) (hb : rd b = .tre (.int .i64) (nT ns)) (hφ : φ b = some (g, C)) : RowI w g C ns := by
  rcases sm.blk b (by rw [hb]; rfl) with ⟨_, h0⟩ | ⟨g1, C1, h1, _, _, h4⟩
  · rw [h0] at hφ; cases hφ
  · rw [h1] at hφ; cases hφ
    rw [hb] at h4
    obtain ⟨arr, T, k1, k2, k3, k4⟩ := h4.lies
    refine ⟨arr, T, k1, by simpa [HObj.sh, Sh.width] using k2, fun i n hi => ?_⟩
    obtain ⟨v, hv, hr⟩ := (k4 i (.t (.int .i64 n)) (by simp [HObj.els, nT, hi])).2 0 (.t (.int .i64 n)) rfl
    cases hr.tree
    simpa [HObj.sh, Sh.width] using hv

/-- The small heap of a call without a world, whose block 0 is that slice's. -/
theorem PStep.sim {φ : Phi} {rd : Rd} {g : Nat} {q : Nat × List Int} (h : PStep p I w I' w') (sm : Sim φ I rd w) (hp : ∀ g q, p = some (g, q) → Apart I g) (hm : ∀ b g q, (rd b).mut = true → φ b = some (g, q) → (∃ x, p = some (g, x)) → ∃ ns, rd b = .tre (.int .i64) (nT ns) ∧ ∃ C ms, p = some (g, C, ns ++ ms) ∧ q ≤ C ∧ RowI w g C (ns ++ ms)) (hw : ∀ b G, rd b ≠ .wld G) : Sim φ I' rd w' := by
  have up : ∀ {x : Tree} {v : Value}, RepT w I x v → RepT w' I' x v := fun r => h.rep sm.old (fun g q hg => (hp g q hg).1) r
  refine ⟨fun b hb => ?_, sm.inj, h.old sm.old, ⟨fun id g hg => ?_, fun id id' g h1 h2 => ?_, fun b g C id hmu hφ hg => ?_, fun b G hb => (hw b G hb).elim⟩⟩
  · rcases sm.blk b hb with h0 | ⟨g, C, h1, h2, h3, h4⟩
    · exact .inl h0
    · obtain ⟨arr, T, k1, k2, k3, k4⟩ := h4.lies
      have hg : g < w.heap.size := (Array.getElem?_eq_some_iff.1 k1).1
      refine .inr ⟨g, C, h1, fun hmu hI => ?_, fun hf => h.sub g (h3 hf), ?_⟩
      · rcases h.inew g hI with h5 | h5
        · exact h2 hmu h5
        · omega
      · by_cases hpk : ∃ x, p = some (g, x)
        · have hpk' := hpk
          obtain ⟨x, hpk⟩ := hpk
          have hmu : (rd b).mut = true := by
            rcases HObj.alive_cases hb with hmu | hf
            · exact hmu
            · exact ((hp g x hpk).1 (h3 hf)).elim
          obtain ⟨ns, e, D, ms, e2, hle, hrow⟩ := hm b g C hmu h1 hpk'
          have hr := (h.row g D (ns ++ ms) e2 hrow).front hle
          have hlen : ns.length ≤ C := by
            have := k3; rw [e] at this; simpa [HObj.els, nT] using this
          have := hr.row (φ := φ) (rd := rd) (I := I') hlen
          rw [e]; exact this
        · exact ⟨arr, T, (h.heap g hg fun k hk => hpk ⟨k, hk⟩).trans k1, k2, k3, fun i x hx => ⟨(k4 i x hx).1, fun j y hy => by
            obtain ⟨v, hv, hr⟩ := (k4 i x hx).2 j y hy
            exact ⟨v, hv, hr.mono' up⟩⟩⟩
  · rw [h.ps] at hg
    obtain ⟨h1, h2, h3⟩ := sm.wok.psI id g hg
    refine ⟨fun hI => ?_, Nat.lt_of_lt_of_le h2 h.size, h3.of (h.heap g h2 fun k he => (hp g k he).2 id hg)⟩
    rcases h.inew g hI with h5 | h5
    · exact h1 h5
    · omega
  · rw [h.ps] at h1 h2; exact sm.wok.psinj id id' g h1 h2
  · rw [h.ps] at hg; exact sm.wok.psM b g C id hmu hφ hg

/-- The state of a call whose block 0 is that slice's, seen from its beginning. -/
structure At (p : Pl) (ns : List Int) (I0 : Fz) (w0 : World) (φ : Phi) (I : Fz) (rd : Rd) (w : World) : Prop where
  sim : Sim φ I rd w
  step : PStep p I0 w0 I w
  zero : rd 0 = .tre (.int .i64) (nT ns)
  place : (p = none ∧ φ 0 = none ∧ ns = []) ∨ ∃ g C, p = some (g, C, ns) ∧ φ 0 = some (g, C) ∧ g < w0.heap.size
  new : ∀ b g C, (rd b).mut = true → φ b = some (g, C) → w0.heap.size ≤ g ∨ b = 0
  now : ∀ b G, rd b ≠ .wld G

theorem At.apart {ns : List Int} {I0 : Fz} {w0 : World} {φ : Phi} {rd : Rd} (h : At p ns I0 w0 φ I rd w) : ∀ g q, p = some (g, q) → Apart I g := by
  intro g q hp
  rcases h.place with ⟨h1, _⟩ | ⟨g1, C, h1, h2, _⟩
  · rw [h1] at hp; cases hp
  · rw [h1] at hp; cases hp
    have hmu : (rd 0).mut = true := by rw [h.zero]; rfl
    exact ⟨h.sim.notI hmu h2, fun id hid => h.sim.wok.psM 0 g C id hmu h2 hid⟩

/-- What the reckoning does. -/
theorem At.ext {ns : List Int} {I0 : Fz} {w0 : World} {φ φ' : Phi} {rd rd' : Rd} (h : At p ns I0 w0 φ I rd w) (E : Ext φ I rd w φ' I' rd' w') (sm' : Sim φ' I' rd' w') (he : rd' 0 = .tre (.int .i64) (nT ns)) : At p ns I0 w0 φ' I' rd' w' := by
  have hmu0 : (rd' 0).mut = true := by rw [he]; rfl
  have nw : ¬ HasW rd := fun ⟨b, G, hb⟩ => h.now b G hb
  have k0 : φ' 0 = φ 0 := by
    rcases E.keep 0 (by rw [h.zero]; rfl) with hd | ⟨_, h2, _⟩
    · rw [hd] at hmu0; cases hmu0
    · exact h2
  have hps : I'.ps = I.ps := by
    funext id
    cases hq : I.ps id with
    | some g => exact E.wx.psub id g hq
    | none =>
      cases hq' : I'.ps id with
      | none => rfl
      | some g =>
        rcases E.wx.psnew id g hq' with h | ⟨h, _⟩
        · rw [hq] at h; cases h
        · exact (nw h).elim
  have fr : ∀ g, g < w0.heap.size → (∀ q, p ≠ some (g, q)) → w'.heap[g]? = w.heap[g]? := fun g hg hpn => E.frame g (Nat.lt_of_lt_of_le hg h.step.size) (fun b C hmu hφ => by
    rcases h.new b g C hmu hφ with h1 | rfl
    · omega
    · rcases h.place with ⟨_, h1, _⟩ | ⟨g1, C1, h1, h2, _⟩
      · rw [h1] at hφ; cases hφ
      · rw [h2] at hφ; cases hφ; exact hpn _ h1) fun hh => (nw hh).elim
  refine ⟨sm', ⟨fun g hg => E.sub g (h.step.sub g hg), fun g hg => ?_, fun _ => sm'.old, hps.trans h.step.ps, Nat.le_trans h.step.size E.size, fun g hg hpn => (fr g hg hpn).trans (h.step.heap g hg hpn), fun g C ms hpg _ => ?_, E.os.trans h.step.os, E.tape.trans h.step.tape, E.output.trans h.step.output⟩, he, by rw [k0]; exact h.place, fun b g C hmu hφ => ?_, fun b G hb => nw (E.wx.hasw ⟨b, G, hb⟩)⟩
  · rcases E.inew g hg with h1 | h1 | ⟨b, C, h1, h2⟩
    · exact h.step.inew g h1
    · exact .inr (Nat.le_trans h.step.size h1)
    · rcases h.new b g C h1 h2 with h3 | rfl
      · exact .inr h3
      · exact (sm'.notI hmu0 (k0.trans h2) hg).elim
  · rcases h.place with ⟨h1, _⟩ | ⟨g1, C1, h1, h2, _⟩
    · rw [h1] at hpg; cases hpg
    · rw [h1] at hpg; cases hpg
      exact rowI_of sm' he (k0.trans h2)
  · rcases E.mnew b g C hmu hφ with h1 | ⟨b0, C0, h1, h2⟩
    · exact .inl (Nat.le_trans h.step.size h1)
    · rcases h.new b0 g C0 h1 h2 with h3 | rfl
      · exact .inl h3
      · exact .inr (sm'.inj b 0 g C C0 hmu hmu0 hφ (k0.trans h2))

/-- The world's front. -/
def cutW (w : World) (n : Nat) : World := { w with heap := w.heap.extract 0 n }

end

end Go.Proofs.Dw
end

/-
  THE ABSTRACT WALK, 40: append to such a slice; calls within.
-/
section
namespace Go.Proofs.Dw

section
variable {P : Program} {e : TypeId} {I : Fz} {w : World}

theorem append_pok {t ty : TypeId} {inf : TypeInfo} {zv : Value} {p : Pl} {ns : List Int} {i : Int} (hu : P.underlying t = some (.slice e)) (hinf : P.info? e = some inf) (hz : inf.zero = some zv) (hsz : inf.size = 1) (hzs : zv.cells.size = 1)
    {v src : Value} (hv : POk I w v p ns) (hI : FzOk I w) (hn : (ns.length + 1) * inf.bytes ≤ 140737488355328) (hby : inf.bytes ≠ 0) (hs : Src P 1 t src 1 [.int .i64 i] w) :
    ∃ v' w' p', (Builtin.append_ #[t, t] ty #[v, src]).run P w = .ok v' w' ∧ PStep p I w I w' ∧ POk I w' v' p' (ns ++ [i]) ∧ ∀ g D ms, p' = some (g, D, ms) → w.heap.size ≤ g ∨ (p = some (g, D, ns) ∧ ms = ns ++ [i]) := by
  have hs' : Src P inf.size t src 1 [.int .i64 i] w := by rw [hsz]; exact hs
  -- a new row
  have grow : ∀ (A : Option Addr) (c : Nat) (olds : List Value), v = .slice A ns.length c → c < ns.length + 1 → (Builtin.firstCells inf.size ns.length (.slice A ns.length c)).run P w.drew = .ok olds.toArray w.drew → olds = ns.map (.int .i64) →
      ∃ v' w' p', (Builtin.append_ #[t, t] ty #[v, src]).run P w = .ok v' w' ∧ PStep p I w I w' ∧ POk I w' v' p' (ns ++ [i]) ∧ ∀ g D ms, p' = some (g, D, ms) → w.heap.size ≤ g ∨ (p = some (g, D, ns) ∧ ms = ns ++ [i]) := by
    intro A c olds ev hneed hold hole
    subst ev
    have h63 : ((ns.length + 1 : Nat) : Int) ≤ 9223372036854775807 := by
      have : (ns.length + 1) * 1 ≤ (ns.length + 1) * inf.bytes := Nat.mul_le_mul_left _ (by omega)
      omega
    have hrun := run_append_grow_src (P := P) w t t ty e inf zv hu hinf hz A ns.length c olds hold src 1 [.int .i64 i] hs' hneed h63 (growslice_fits hneed hn)
    have hge := grownCap_ge w (ns.length + 1) c e
    have hal : ∀ g : Nat, g < w.heap.size → (w.drew.alloc (.cells ((olds ++ [Value.int .i64 i]).toArray ++ Builtin.zeroCells zv.cells (grownCap w (ns.length + 1) c e - (ns.length + 1))) e)).heap[g]? = w.heap[g]? := fun g hg => by
      show (w.heap.push _)[g]? = _
      rw [Array.getElem?_push, if_neg (by omega)]
    refine ⟨_, _, some (w.heap.size, grownCap w (ns.length + 1) c e, ns ++ [i]), hrun, ⟨fun _ h => h, fun _ h => .inl h, fun ho b hb => ?_, rfl, ?_, fun b hb _ => hal b hb, fun b C ms hp ha => ha.of (hal b ha.lt), rfl, rfl, rfl⟩, .inr ⟨w.heap.size, _, _, rfl, ?_, ?_, Nat.le_refl _, ⟨(olds ++ [Value.int .i64 i]).toArray ++ Builtin.zeroCells zv.cells (grownCap w (ns.length + 1) c e - (ns.length + 1)), e, ?_, ?_, fun j n hj => ?_⟩, (fun hh => ?_), (fun id hh => ?_)⟩, fun g D ms hg => ?_⟩
    · have := ho b hb
      show b < (w.heap.push _).size
      simp; omega
    · show w.heap.size ≤ (w.heap.push _).size
      simp
    · simp
    · simp; exact hge
    · show (w.heap.push _)[w.heap.size]? = _
      simp
    · simp [size_zeroCells, hzs, hole]
      omega
    · have hj' : j < (olds ++ [Value.int .i64 i]).length := by have := (List.getElem?_eq_some_iff.1 hj).1; simp [hole] at this ⊢; omega
      rw [Array.getElem?_append_left (by simpa using hj')]
      rw [List.getElem?_toArray, hole, show [Value.int .i64 i] = [i].map (Value.int .i64) from rfl, ← List.map_append, List.getElem?_map, hj]
      rfl
    · have := hI.old _ hh; omega
    · have := (hI.psI id _ hh).2.1; omega
    · cases hg; exact .inl (Nat.le_refl _)
  rcases hv with ⟨rfl, A, rfl⟩ | ⟨g, c, C, rfl, rfl, h1, h2, h3, h4⟩
  · refine grow A 0 [] rfl (by simp) ?_ rfl
    cases A with
    | none => exact run_firstCells_none _ _ _ _ _
    | some A => exact run_firstCells_some (P := P) w.drew inf.size 0 A 0 0 [] (by simp) (fun j v h => by simp at h)
  · obtain ⟨arr, T, k1, k2, k3⟩ := h3
    by_cases hroom : ns.length + 1 ≤ c
    · have hcells : ∀ j, j < [Value.int .i64 i].length → (w.cell? ⟨g, 0 + ns.length * inf.size + j, none⟩).isSome = true := fun j hj => by
        simp only [List.length_singleton] at hj
        rw [hsz]; simp only [World.cell?, k1]; simp; omega
      have hfroz : ∀ j, j < [Value.int .i64 i].length → w.frozen? ⟨g, 0 + ns.length * inf.size + j, none⟩ = false := fun j hj => by simp [World.frozen?, k1]
      have hrun := run_append_room_src (P := P) w t t ty e inf hu hinf g 0 ns.length c src 1 [.int .i64 i] hs' hroom hcells hfroz
      rw [hsz, Nat.mul_one, Nat.zero_add] at hrun
      obtain ⟨l1, l2, l3, l4, l5, l6⟩ := setCells_heap g T [.int .i64 i] ns.length w arr k1
      have hg : ∀ (j : Nat) n, (ns ++ [i])[j]? = some n → (setArr arr ns.length [Value.int .i64 i])[j]? = some (.int .i64 n) := fun j n hj => by
        rw [setArr_get [Value.int .i64 i] arr ns.length j (by simp; omega)]
        split
        · rename_i hc
          rw [List.getElem?_append_right hc.1] at hj
          have hj0 : j - ns.length = 0 := by have := hc.2; simp at this; omega
          rw [hj0] at hj ⊢
          simp at hj ⊢
          exact hj
        · rename_i hc
          have hl : j < (ns ++ [i]).length := (List.getElem?_eq_some_iff.1 hj).1
          simp only [List.length_append, List.length_singleton, not_and] at hl hc
          have hlt : j < ns.length := by
            rcases Nat.lt_or_ge j ns.length with h | h
            · exact h
            · have := hc h; simp at this; omega
          rw [List.getElem?_append_left hlt] at hj
          exact k3 j n hj
      refine ⟨_, _, some (g, C, ns ++ [i]), hrun, ⟨fun _ h => h, fun _ h => .inl h, fun ho b hb => by rw [l3]; exact ho b hb, rfl, by rw [l3]; exact Nat.le_refl _, fun b hb hp => l2 b fun e => hp (C, ns) (e ▸ rfl), fun b D ms hp ha => ?_, l4, l5, l6⟩, .inr ⟨g, c, C, rfl, by simp, by simpa using hroom, h2, ⟨_, T, l1, by rw [setArr_size]; exact k2, hg⟩, h4⟩, fun g1 D ms hg1 => by cases hg1; exact .inr ⟨rfl, rfl⟩⟩
      cases hp
      exact ⟨_, T, l1, by rw [setArr_size]; exact k2, fun j n hj => hg j n (by rw [List.getElem?_append_left (List.getElem?_eq_some_iff.1 hj).1]; exact hj)⟩
    · refine grow _ c (ns.map (.int .i64)) rfl (by omega) ?_ rfl
      refine run_firstCells_some (P := P) w.drew inf.size ns.length _ ns.length c _ (by rw [hsz]; simp) fun j u hj => ?_
      rw [Addr.add_none]
      rw [List.getElem?_map] at hj
      cases hq : ns[j]? with
      | none => rw [hq] at hj; cases hj
      | some n =>
        rw [hq] at hj
        cases hj
        have hh : w.drew.heap[g]? = some (.cells arr T (0, 0)) := k1
        simp only [World.cell?, hh]
        simpa using k3 j n hq

/-- At a loop's head. -/
theorem At.norm {p : Pl} {ns : List Int} {I0 : Fz} {w0 : World} {φ : Phi} {ts ts1 : List AV} {H H1 : Heap} {live : List Nat} {vs : List Value} (h : At p ns I0 w0 φ I (rdH H) w) (hs : RepL φ (rdH H) w I ts vs) (hn : norm 1 live ⟨ts, H⟩ some = some ⟨ts1, H1⟩) (he : rdH H1 0 = .tre (.int .i64) (nT ns)) :
    ∃ φ1, At p ns I0 w0 φ1 I (rdH H1) w ∧ RepL φ1 (rdH H1) w I ts1 vs := by
  have base : ∀ b, rdH [HObj.tre (.int .i64) (nT ns)] b ≠ .unborn → b = 0 := fun b hb => by
    match b with
    | 0 => rfl
    | b + 1 => exact absurd (rdH_unborn _ _ (by simp)) hb
  have z0 : rdH [HObj.tre (.int .i64) (nT ns)] 0 = .tre (.int .i64) (nT ns) := rfl
  have nw : ¬ HasW (rdH H) := fun ⟨b, G, hb⟩ => h.now b G hb
  have hsz : (cutW w w0.heap.size).heap.size = w0.heap.size := by have := h.step.size; simp [cutW]; omega
  have E : Ext (fun b => if b = 0 then φ 0 else none) I0 (rdH [.tre (.int .i64) (nT ns)]) (cutW w w0.heap.size) φ I (rdH H) w := by
    refine ⟨fun b hb => ?_, fun b hb => ?_, h.step.sub, fun g hg => ?_, fun b g C hmu hφ => ?_, fun g hg _ _ => ?_, by rw [hsz]; exact h.step.size, rfl, rfl, rfl, ⟨fun id g h' => by rw [h.step.ps]; exact h', fun id g h' => .inl (by rw [h.step.ps] at h'; exact h'), fun hh => (nw hh).elim⟩⟩
    · rw [base b (by rw [hb]; simp)] at hb; cases hb
    · have : b = 0 := base b (fun e => by rw [e] at hb; cases hb)
      subst this
      rw [h.zero]
      exact .inr ⟨rfl, by simp, rfl, rfl⟩
    · rcases h.step.inew g hg with h1 | h1
      · exact .inl h1
      · exact .inr (.inl (by rw [hsz]; exact h1))
    · rcases h.new b g C hmu hφ with h1 | rfl
      · exact .inl (by rw [hsz]; exact h1)
      · exact .inr ⟨0, C, rfl, by simpa using hφ⟩
    · rw [hsz] at hg
      have := h.step.size
      simp only [cutW]
      rw [Array.getElem?_extract]
      simp
      omega
  obtain ⟨φ1, st1, k1, k2, k3, k4⟩ := norm_sound (m := 1) (st := ⟨ts, H⟩) (ts := ts) (H := H) rfl hn (fun b hb => by have := base b hb; omega) h.sim E hs
  cases k1
  have hmu0 : (rdH H1 0).mut = true := by rw [he]; rfl
  have p0 : φ1 0 = φ 0 := by
    rcases k3.keep 0 (by rw [z0]; rfl) with hd | ⟨_, h2, _⟩
    · rw [hd] at hmu0; cases hmu0
    · simpa using h2
  refine ⟨φ1, ⟨k2, h.step, he, by rw [p0]; exact h.place, fun b g C hmu hφ => ?_, fun b G hb => ?_⟩, k4⟩
  · rcases k3.mnew b g C hmu hφ with h1 | ⟨b0, C0, h1, h2⟩
    · exact .inl (by rw [hsz] at h1; exact h1)
    · have : b0 = 0 := base b0 (fun e => by rw [e] at h1; cases h1)
      subst this
      have h2 : φ 0 = some (g, C0) := by simpa using h2
      exact .inr (k2.inj b 0 g C C0 hmu hmu0 hφ (p0.trans h2))
  · obtain ⟨b', G', hb'⟩ := k3.wx.hasw ⟨b, G, hb⟩
    have := base b' (by rw [hb']; simp)
    subst this
    rw [z0] at hb'; cases hb'

/-- A call that is handed no heap, by its contract. -/
theorem call0 {Df : List Deferred} {φ : Phi} {rf : Nat → List AV → Heap → Option (AV × Heap)} (hrf : RfOk P rf) {st : St} {a : Act} (ok : StOk Df φ I st a w) {ops : Array Oper} {o : Oper} {g : Nat} {cl : Call} (ho : o.op = .call cl) (hcl : cl.callee = .value (.func g)) (hg : o.guard = none)
    {avs : List AV} (hargs : RepL (fun _ => none) (rdH []) w I avs (cl.args.map a.eval).toList) {y : Tree} {H' : Heap} (h : rf g avs [] = some (.t y, H')) (Kp : Act → World → Prop) (Q : Exit → Act → World → Prop)
    (hK : ∀ φ' I' v w', StOk Df φ' I' ⟨putS st.ts o.dst (.t y), st.H⟩ (a.put o.dst v) w' → Ext φ I (rdH st.H) w φ' I' (rdH st.H) w' → Kp (a.put o.dst v) w') : StepWp P ops o a w Kp Q := by
  obtain ⟨hc, hcall⟩ := hrf g avs [] _ H' h
  have hex : (execOp a.eval o).run P w = .ok (.enter g (cl.args.map a.eval)) w := by
    have := call_exec (a := a) hc ho hcl (va := #[]) (vc := #[]) (by rfl) (w := w)
    simpa using this
  have dead : ∀ b : Nat, rdH [] b = .unborn := fun b => rdH_unborn [] b (by simp)
  have nw : ¬ HasW (rdH []) := fun ⟨b, G, hb⟩ => by rw [dead b] at hb; cases hb
  have hI := ok.sim.fzOk
  have sm : Sim (fun _ => none) I (rdH []) w := ⟨fun b hb => (by rw [dead b] at hb; cases hb), fun b b' g C C' hb => (by rw [dead b] at hb; cases hb), hI.old, ⟨hI.psI, hI.psinj, fun b g C id hb => (by rw [dead b] at hb; cases hb), fun b G hb => (by rw [dead b] at hb; cases hb)⟩⟩
  unfold StepWp
  rw [if_pos (by simp [Region.wanted, hg])]
  unfold Oper.wp
  rw [hex]
  refine Calls.mono (hcall (fun _ => none) w I _ hargs sm) fun e w' he => ?_
  obtain ⟨val, φ', I', rfl, h1, h2, h3⟩ := he
  have hps : I'.ps = I.ps := by
    funext id
    cases hq : I.ps id with
    | some g => exact h3.wx.psub id g hq
    | none =>
      cases hq' : I'.ps id with
      | none => rfl
      | some g =>
        rcases h3.wx.psnew id g hq' with h | ⟨h, _⟩
        · rw [hq] at h; cases h
        · exact (nw h).elim
  obtain ⟨k1, k2⟩ := ok.sim.still h3.sub (fun b hb => by
    rcases h3.inew b hb with h | h | ⟨b0, C0, hm0, _⟩
    · exact .inl h
    · exact .inr h
    · rw [dead b0] at hm0; cases hm0) h2.old ⟨fun b hb => h3.frame b hb (fun b0 C hm _ => by rw [dead b0] at hm; cases hm) fun h => (nw h).elim, h3.size, h3.os, h3.tape, h3.output⟩ hps
  have hput : (a.put o.dst val).defers = a.defers := by unfold Act.put; split <;> rfl
  exact hK φ I' val w' ⟨putS_rep (show RepS φ (rdH st.H) w' I' st.ts a.tmps from ⟨ok.reps.1, fun i x v hx hv => (ok.reps.2 i x v hx hv).ext k2 ok.sim⟩) o.dst (.t _ _ h1.tree), k1, hput.trans ok.defers⟩ k2

theorem At.pok {p : Pl} {ns : List Int} {I0 : Fz} {w0 : World} {φ : Phi} {rd : Rd} {v : Value} (h : At p ns I0 w0 φ I rd w) (hr : RepA φ rd w I (.hsl 0 none) v) : POk I w v p ns := by
  have hal : (rd 0).alive = true := by rw [h.zero]; rfl
  have hlen : (rd 0).els.length = ns.length := by rw [h.zero]; simp [HObj.els, nT]
  rcases hr.hsl_inv hal with ⟨g, C, c, k1, k2, k3, k4, _⟩ | ⟨A, k1, k2, _⟩
  · rcases h.place with ⟨_, h2, _⟩ | ⟨g1, C1, h1, h2, _⟩
    · rw [h2] at k1; cases k1
    · rw [h2] at k1; cases k1
      rw [hlen] at k2 k3
      exact .inr ⟨g, c, C, h1, k2, k3, k4, rowI_of h.sim h.zero h2, h.apart g _ h1⟩
  · rw [hlen] at k2
    exact .inl ⟨List.eq_nil_of_length_eq_zero k2, A, k1⟩

/-- A load out of a block's first element. -/
theorem ldRun {φ : Phi} {rd : Rd} {b g C : Nat} {t : TypeId} {s : Sh} {x : AV} (sm : Sim φ I rd w) (hφ : φ b = some (g, C)) (ht : shOf P t = some s) (he : elemOf (rd b) 0 (fun e => loadBy s 0 e.cells some) = some x) :
    ∃ u, (Instr.loadAt t (.pointer (some ⟨g, 0, none⟩))).run P w = .ok u w ∧ RepA φ rd w I x u := by
  obtain ⟨ha, el, hel, h⟩ := elemOf_some he
  obtain ⟨g', C', h3, hsc, h4⟩ := sm.elem ha hel
  rw [hφ] at h3; cases h3
  obtain ⟨x', v', k1, k2, k3⟩ := loadBy_run ht h4 hsc.2 h
  cases k1
  refine ⟨v', ?_, k3⟩
  rw [Nat.zero_mul] at k2
  simpa [Instr.loadAt, Instr.sureAddr] using k2

def only (ks : List Nat) : Nat → List AV → List AV
  | _, [] => []
  | i, x :: r => (bif memN ks i then x else .any) :: only ks (i + 1) r

theorem only_get (ks : List Nat) : ∀ (ts : List AV) (i t : Nat) x, (only ks i ts)[t]? = some x → x = .any ∨ (ts[t]? = some x ∧ i + t ∈ ks)
  | [], _, t, x, h => by simp [only] at h
  | y :: r, i, 0, x, h => by
    simp only [only, List.getElem?_cons_zero, Option.some.injEq] at h
    cases hm : memN ks i with
    | true => rw [hm] at h; exact .inr ⟨by simpa using h, (memN_iff ks i).1 hm⟩
    | false => rw [hm] at h; exact .inl h.symm
  | y :: r, i, t + 1, x, h => by
    simp only [only, List.getElem?_cons_succ] at h
    rcases only_get ks r (i + 1) t x h with h | ⟨h1, h2⟩
    · exact .inl h
    · exact .inr ⟨by simpa using h1, by rw [show i + (t + 1) = i + 1 + t by omega]; exact h2⟩

theorem only_length (ks : List Nat) : ∀ (ts : List AV) (i : Nat), (only ks i ts).length = ts.length
  | [], _ => rfl
  | _ :: r, i => by simp [only, only_length ks r (i + 1)]

theorem only_rep {φ : Phi} {rd : Rd} {ks : List Nat} {ts : List AV} {tm tm' : Array Value} (h : RepL φ rd w I ts tm.toList) (hs : tm'.size = tm.size) (hk : ∀ t, t ∈ ks → tm'.getD t undef = tm.getD t undef) : RepL φ rd w I (only ks 0 ts) tm'.toList := by
  refine ⟨by rw [only_length]; have := h.1; simp at this ⊢; omega, fun t x v hx hv => ?_⟩
  rcases only_get ks ts 0 t x hx with rfl | ⟨h1, h2⟩
  · exact .any v
  · rw [Nat.zero_add] at h2
    have ht : t < tm.size := by have := (List.getElem?_eq_some_iff.1 h1).1; have := h.1; simp at this; omega
    have e := hk t h2
    rw [Array.getElem?_toList] at hv
    have hv' : tm'.getD t undef = v := by rw [Array.getD_eq_getD_getElem?, hv]; rfl
    refine h.2 t x v h1 ?_
    rw [Array.getElem?_toList]
    have : tm[t]? = some tm[t] := by simp [ht]
    rw [this]
    rw [← hv', e, Array.getD_eq_getD_getElem?, this]; rfl

theorem set_rep {φ : Phi} {rd : Rd} {ts : List AV} {tm : Array Value} {k : Nat} {x : AV} (h : RepL φ rd w I ts tm.toList) (hx : RepA φ rd w I x (tm.getD k undef)) : RepL φ rd w I (setN ts k x) tm.toList := by
  rw [setN_eq]
  refine ⟨by rw [List.length_set]; exact h.1, fun t y v hy hv => ?_⟩
  rw [List.getElem?_set] at hy
  split at hy
  · rename_i e
    subst e
    split at hy
    · cases hy
      rw [Array.getElem?_toList] at hv
      have : tm.getD k undef = v := by rw [Array.getD_eq_getD_getElem?, hv]; rfl
      rw [← this]; exact hx
    · cases hy
  · exact h.2 t y v hy hv

/-- A step at that slice, or at a new one. -/
theorem At.pstep {p q : Pl} {ns : List Int} {I0 I'' : Fz} {w0 w'' : World} {φ : Phi} {rd : Rd} (h : At p ns I0 w0 φ I rd w) (k : PStep q I w I'' w'')
    (hq : ∀ g D ms, q = some (g, D, ms) → Apart I g ∧ RowI w g D ms ∧ ((w0.heap.size ≤ g ∧ ∀ b x, (rd b).mut = true → φ b = some (g, x) → False) ∨ (p = some (g, D, ns) ∧ ∃ ls, ms = ns ++ ls))) : At p ns I0 w0 φ I'' rd w'' ∧ ∀ {y : Tree} {v : Value}, RepT w I y v → RepT w'' I'' y v := by
  have hmu0 : (rd 0).mut = true := by rw [h.zero]; rfl
  have sm : Sim φ I'' rd w'' := by
    refine k.sim h.sim (fun g x hx => ?_) (fun b g x hmu hφ hx => ?_) h.now (g := 0) (q := (0, []))
    · obtain ⟨D, ms⟩ := x
      exact (hq g D ms hx).1
    · obtain ⟨⟨D, ms⟩, hx⟩ := hx
      obtain ⟨k1, k2, k3⟩ := hq g D ms hx
      rcases k3 with ⟨_, k3⟩ | ⟨k3, ls, rfl⟩
      · exact (k3 b x hmu hφ).elim
      · rcases h.place with ⟨h1, _⟩ | ⟨g1, C, h1, h2, _⟩
        · rw [h1] at k3; cases k3
        · rw [h1] at k3; cases k3
          have hb : b = 0 := h.sim.inj b 0 g x _ hmu hmu0 hφ h2
          subst hb
          rw [h2] at hφ; cases hφ
          exact ⟨ns, h.zero, _, ls, hx, Nat.le_refl _, k2⟩
  refine ⟨⟨sm, h.step.trans k fun g D ms hx => ?_, h.zero, h.place, h.new, h.now⟩, fun r => k.rep h.sim.old (fun g x hx => by
    obtain ⟨D, ms⟩ := x
    exact (hq g D ms hx).1.1) r⟩
  obtain ⟨k1, k2, k3⟩ := hq g D ms hx
  rcases k3 with ⟨k3, _⟩ | ⟨k3, ls, rfl⟩
  · exact .inl k3
  · exact .inr ⟨D, ns, ls, k3, Nat.le_refl _, rfl, fun _ => k2⟩

theorem stepV {ops : Array Oper} {o : Oper} {a : Act} {v : Value} {w' : World} {Kp : Act → World → Prop} {Q : Exit → Act → World → Prop} (hg : o.guard = none) (hrun : (execOp a.eval o).run P w = .ok (.value v) w') (hK : Kp (a.put o.dst v) w') : StepWp P ops o a w Kp Q := by
  unfold StepWp
  rw [if_pos (by simp [Region.wanted, hg])]
  unfold Oper.wp
  rw [hrun]
  exact hK

theorem PStep.alloc {p : Pl} (o : Obj) : PStep p I w I (w.alloc o) := by
  have hal : ∀ g : Nat, g < w.heap.size → (w.alloc o).heap[g]? = w.heap[g]? := fun g hg => by
    show (w.heap.push _)[g]? = _
    rw [Array.getElem?_push, if_neg (by omega)]
  refine ⟨fun _ h => h, fun _ h => .inl h, fun ho b hb => ?_, rfl, ?_, fun b hb _ => hal b hb, fun b C ms hp ha => ha.of (hal b ha.lt), rfl, rfl, rfl⟩
  · have := ho b hb
    show b < (w.heap.push _).size
    simp; omega
  · show w.heap.size ≤ (w.heap.push _).size
    simp

end

end Go.Proofs.Dw
end

/-
  THE ABSTRACT WALK, 37: functions with one deferred call of a closure, which may recover.
-/
section
namespace Go.Proofs.Dw

/-! ### the code -/
/-- The operations ahead of a region's last one, a defer statement of a function value in a slot. -/
def dfrOf : List Oper → Option (List Oper × Oper × Nat)
  | [] => none
  | [o] => match o.op, o.guard, o.dst with
    | .defer c, none, none => (match c.callee with
      | .value (.tmp t) => bif Nat.beq c.args.size 0 then some ([], o, t) else none
      | _ => none)
    | _, _, _ => none
  | o :: l => (dfrOf l).bind fun r => some (o :: r.1, r.2.1, r.2.2)

theorem dfrOf_spec : ∀ {l a : List Oper} {o : Oper} {t : Nat}, dfrOf l = some (a, o, t) → l = a ++ [o] ∧ o.guard = none ∧ o.dst = none ∧ ∃ c : Call, o.op = .defer c ∧ c.callee = .value (.tmp t) ∧ c.args = #[]
  | [], _, _, _, h => by cases h
  | [o], a, o', t, h => by
    simp only [dfrOf] at h
    split at h
    · rename_i c h1 h2 h3
      split at h
      · rename_i t' h4
        obtain ⟨h5, h⟩ := bif_some h
        cases h
        exact ⟨rfl, h2, h3, c, h1, h4, Array.eq_empty_of_size_eq_zero (Nat.eq_of_beq_eq_true h5)⟩
      · cases h
    · cases h
  | o :: o2 :: l, a, o', t, h => by
    have h : (dfrOf (o2 :: l)).bind (fun r => some (o :: r.1, r.2.1, r.2.2)) = some (a, o', t) := h
    cases hq : dfrOf (o2 :: l) with
    | none => rw [hq] at h; cases h
    | some r =>
      rw [hq] at h
      simp only [Option.bind_some, Option.some.injEq, Prod.mk.injEq] at h
      obtain ⟨rfl, rfl, rfl⟩ := h
      obtain ⟨k1, k2⟩ := dfrOf_spec (a := r.1) (o := r.2.1) (t := r.2.2) hq
      exact ⟨by rw [k1]; rfl, k2⟩

inductive DCode where
  | pre (a : ICode) (d : DCode)
  | dfr (ops : List IOper) (t : Nat) (b : ICode)

def dregOf : Code → Option (Array Oper × List Oper × Nat)
  | .region _ ops false => (dfrOf ops.toList).bind fun r => some (ops, r.1, r.2.2)
  | _ => none

def compD (P : Program) (rs : Cfg) : Code → List (List Nat) → Option (DCode × List (List Nat))
  | .seq a b, h => match dregOf a with
    | some (ops, l, t) => (match mapO (compOper P rs ops) l, comp P rs b h with
      | some l', some (b', h') => some (.dfr l' t b', h')
      | _, _ => none)
    | none => match comp P rs a h with
      | some (a', h') => (match compD P rs b h' with
        | some (d, h'') => some (.pre a' d, h'')
        | none => none)
      | none => none
  | _, _ => none

structure DInfo where
  ntmps : Nat
  body : DCode
  res : List IRes

def compDF (P : Program) (f : Nat) (live : List (List Nat)) (rs : Cfg) : Option DInfo :=
  match P.funcs[f]? with
  | none => none
  | some fn => match fn.body with
    | none => none
    | some c => bif callable P f then
        (match compD P rs c live, compRes P fn.results.toList with
         | some (b, []), some r => some ⟨fn.ntmps, b, r⟩
         | _, _ => none) else none

/-- The deferred function: what 'recover' gives comes to lie in some slots. -/
structure RInfo where
  ntmps : Nat
  rcv : Option (Nat × List Nat)
  body : ICode

def copyOf (s : Nat) : List Oper → Option (List Nat)
  | [] => some []
  | o :: l => match o.op, o.guard, o.dst with
    | .assign (.tmp t), none, some d => bif Nat.beq t s then (copyOf s l).map (d :: ·) else none
    | .move (.tmp t), none, some d => bif Nat.beq t s then (copyOf s l).map (d :: ·) else none
    | _, _, _ => none

def recOf : Code → Option (Array Oper × Nat × List Nat)
  | .region _ ops false => match ops.toList with
    | o :: l => (match o.op, o.guard, o.dst with
      | .call c, none, some s => (match c.callee with
        | .builtin .recover => bif Nat.beq c.args.size 0 then (copyOf s l).map fun ds => (ops, s, ds) else none
        | _ => none)
      | _, _, _ => none)
    | [] => none
  | _ => none

def compRF (P : Program) (f : Nat) (live : List (List Nat)) (rs : Cfg) : Option RInfo :=
  match P.funcs[f]? with
  | none => none
  | some fn => match fn.body with
    | none => none
    | some c => bif callable P f && Nat.beq fn.results.size 0 then
        (match c with
         | .seq a b => (match recOf a with
           | some (_, s, ds) => (match comp P rs b live with
             | some (b', []) => some ⟨fn.ntmps, some (s, ds), b'⟩
             | _ => none)
           | none => match comp P rs c live with
             | some (b', []) => some ⟨fn.ntmps, none, b'⟩
             | _ => none)
         | c => match comp P rs c live with
           | some (b', []) => some ⟨fn.ntmps, none, b'⟩
           | _ => none) else none

/-! ### the reckoning -/
inductive DRes where
  | ret (st : St)
  | dfr (g : Nat) (caps : List AV) (st : St)
  | pan (g : Nat) (caps : List AV) (v : Tree) (st : St)

def cloOf : AV → Option (Nat × List AV)
  | .fn g [] caps => some (g, caps)
  | .t (.fn g [] caps) => some (g, caps.map .t)
  | _ => none

def evD (F : Fns) (X : PFns) (n m : Nat) : DCode → St → Option DRes
  | .pre a d, st => evC F n m a st fun e st' => match e with
    | .normal => evD F X n m d st'
    | .ret => some (.ret st')
    | .exit _ => none
  | .dfr ops t b, st => evOps F ops st fun st1 => match cloOf (slot st1.ts t) with
    | some (g, caps) => evCX F X n st1.H.length b st1 (fun e st2 => match e with
      | .exit _ => none
      | _ => some (.dfr g caps st2)) fun v st2 => some (.pan g caps v st2)
    | none => none

def putCs (s : Nat) : List Nat → List AV → List AV
  | [], ts => ts
  | d :: ds, ts => putCs s ds (setN ts d (slot ts s))

def putRec (v : AV) : Option (Nat × List Nat) → List AV → List AV
  | none, ts => ts
  | some (s, ds), ts => putCs s ds (setN ts s v)

/-- The deferred call. -/
def runR (F : Fns) (n : Nat) (ri : RInfo) (caps : List AV) (v : Tree) (H : Heap) : Option Heap :=
  evC F n H.length ri.body ⟨putRec (.t v) ri.rcv (start ri.ntmps caps), H⟩ fun e st => match e with
    | .exit _ => none
    | _ => some st.H

def isIfc : Tree → Bool
  | .ifc _ _ => true
  | _ => false

def fin (st : St) (H : Heap) (res : List IRes) : Option (AV × Heap) := resA ⟨st.ts, H⟩ res fun l => some (oneA l, H)

/-- What a call with a deferred one comes to. -/
def runD (E : Env) (k : Nat) (di : DInfo) (RI : Nat → Option RInfo) (args : List AV) (H : Heap) : Option (AV × Heap) :=
  (evD ⟨pureE E.root (runFn E k), E.rf (runFn E k), E.ok, wldOf (runFn E k)⟩ ⟨pxE E.root (runX E k), pwOf (runX E k)⟩ k H.length di.body ⟨start di.ntmps args, H⟩).bind fun r =>
    match r with
    | .ret st => fin st st.H di.res
    | .dfr g caps st => (RI g).bind fun ri => (runR ⟨pureE E.root (runFn E k), E.rf (runFn E k), E.ok, wldOf (runFn E k)⟩ k ri caps .nili st.H).bind fun H' => fin st H' di.res
    | .pan g caps v st => (RI g).bind fun ri => match ri.rcv with
      | none => none
      | _ => bif isIfc v then (runR ⟨pureE E.root (runFn E k), E.rf (runFn E k), E.ok, wldOf (runFn E k)⟩ k ri caps v st.H).bind fun H' => fin st H' di.res else none

/-! ### soundness -/
section
variable {Df : List Deferred} {P : Program} {F : Fns} {X : PFns} {rs : Cfg}

theorem cloOf_rep {φ : Phi} {rd : Rd} {w : World} {I : Fz} {x : AV} {v : Value} {g : Nat} {caps : List AV} (h : cloOf x = some (g, caps)) (hr : RepA φ rd w I x v) :
    ∃ vc : Array Value, v = .func (.func g) #[] vc ∧ RepL φ rd w I caps vc.toList := by
  unfold cloOf at h
  split at h
  · cases h
    obtain ⟨va, vc, rfl, f1, f2⟩ := hr.fn_inv
    refine ⟨vc, ?_, f2⟩
    rw [Array.eq_empty_of_size_eq_zero (xs := va) (by simpa using f1.1)]
  · cases h
    obtain ⟨va, vc, rfl, f1, f2⟩ := hr.tree.fn_inv
    refine ⟨vc, ?_, RepL.ofT f2⟩
    rw [Array.eq_empty_of_size_eq_zero (xs := va) (by simpa using f1.1)]
  · cases h

theorem evOps_cont {α : Type} {r : α} (hF : FnsOk P F) {ops : Array Oper} {Q : Exit → Act → World → Prop} {K : St → Option α} {rest : List Oper} : ∀ (l : List Oper) (l' : List IOper) (st : St) (φ : Phi) (I : Fz) (a : Act) (w : World),
    mapO (compOper P rs ops) l = some l' → evOps F l' st K = some r → StOk Df φ I st a w →
    (∀ st' φ' I' a' w', K st' = some r → StOk Df φ' I' st' a' w' → Ext φ I (rdH st.H) w φ' I' (rdH st'.H) w' → wpList P ops Q rest a' w') → wpList P ops Q (l ++ rest) a w
  | [], l', st, φ, I, a, w, hl, h, ok, hQ => by
    simp [mapO] at hl; subst hl
    exact hQ st φ I a w h ok (.refl _ _ _ _)
  | o :: l, l', st, φ, I, a, w, hl, h, ok, hQ => by
    simp only [mapO] at hl
    split at hl
    · rename_i o' ho
      split at hl
      · rename_i r' hr'
        cases hl
        simp only [evOps] at h
        unfold evOper at h
        obtain ⟨ts', d, _, h1, h2⟩ := operV_sound hF ok.reps ok.sim ho h
        obtain ⟨hb, h1⟩ := bif_some h1
        refine wpList_step fun Kp hKp => ?_
        refine h2 (fun y hy _ => rdH_unborn _ _ hy) Kp Q fun φ' I' a' w' k1 k2 k3 k4 => hKp a' w' ?_
        have e := rdH_to d st.H (belowN_spec hb)
        rw [← e] at k2 k3 k4
        exact evOps_cont hF l r' ⟨ts', d.to st.H⟩ φ' I' a' w' hr' h1 ⟨k2, k3, k1.trans ok.defers⟩ fun st'' φ'' I'' a'' w'' m1 m2 m3 => hQ st'' φ'' I'' a'' w'' m1 m2 (k4.trans m3)
      · cases hl
    · cases hl

def dOf (g : Nat) (vc : Array Value) : Deferred := { target := .fn (.func g) vc, args := #[] }

theorem evD_sound (hF : FnsOk P F) (hX : PFnsOk P X) (hm : P.follows .mixedOrders = true) {n m : Nat} {φ0 : Phi} {I0 : Fz} {rd0 : Rd} {w0 : World} (hm0 : ∀ b, rd0 b ≠ .unborn → b < m) {res : DRes} {Q : Exit → Act → World → Prop}
    (hR : ∀ st' φ' I' a' w', res = .ret st' → StOk [] φ' I' st' a' w' → Ext φ0 I0 rd0 w0 φ' I' (rdH st'.H) w' → Q .ret a' w')
    (hD : ∀ e g caps vc st' φ' I' a' w', (e = .normal ∨ e = .ret) → res = .dfr g caps st' → StOk [dOf g vc] φ' I' st' a' w' → RepL φ' (rdH st'.H) w' I' caps vc.toList → Ext φ0 I0 rd0 w0 φ' I' (rdH st'.H) w' → Q e a' w')
    (hP : ∀ g caps vc v val st' φ' I' a' w', res = .pan g caps v st' → StOk [dOf g vc] φ' I' st' a' w' → RepL φ' (rdH st'.H) w' I' caps vc.toList → RepT w' I' v val → Ext φ0 I0 rd0 w0 φ' I' (rdH st'.H) w' → Q (.panic [{ v := val, recovered := false }]) a' w') :
    ∀ (c : Code) (h h' : List (List Nat)) (dc : DCode) (st : St) (φ : Phi) (I : Fz) (a : Act) (w : World), compD P rs c h = some (dc, h') → evD F X n m dc st = some res → StOk [] φ I st a w → Ext φ0 I0 rd0 w0 φ I (rdH st.H) w → c.wp P Q a w := by
  intro c
  induction c with
  | seq x y ihx ihy =>
    intro h h' dc st φ I a w hc he ok E
    simp only [compD] at hc
    split at hc
    · rename_i ops l t hdr
      split at hc
      · rename_i l' b' h1 hl hb
        cases hc
        unfold dregOf at hdr
        split at hdr
        · rename_i id ops'
          cases hq : dfrOf ops'.toList with
          | none => rw [hq] at hdr; cases hdr
          | some q =>
            rw [hq] at hdr
            simp only [Option.bind_some, Option.some.injEq, Prod.mk.injEq] at hdr
            obtain ⟨rfl, rfl, rfl⟩ := hdr
            obtain ⟨k1, k2, k3, cl, k4, k5, k6⟩ := dfrOf_spec (a := q.1) (o := q.2.1) (t := q.2.2) hq
            simp only [evD] at he
            refine wp_seq (wp_region_list ?_)
            rw [k1]
            refine evOps_cont hF q.1 l' st φ I a w hl he ok fun st1 φ1 I1 a1 w1 m1 m2 m3 => ?_
            split at m1
            · rename_i g caps hclo
              have hv := slot_rep m2.reps q.2.2
              obtain ⟨vc, hvc, hcaps⟩ := cloOf_rep hclo hv
              refine wpList_plain k2 fun Kp hKp => ?_
              have hrun : (execOp a1.eval q.2.1).run P w1 = .ok (.defer (dOf g vc)) w1 := by
                have hev : a1.eval (.tmp q.2.2) = .func (.func g) #[] vc := by rw [← hvc, ← getD_toList]; rfl
                simp [execOp, k4, resolve, k5, k6, hev, Deferred.ofValue, dOf]
              unfold Oper.wp
              rw [hrun]
              refine hKp _ _ (wpList_nil ?_)
              rw [k3]
              show y.wp P Q { a1 with defers := dOf g vc :: a1.defers } w1
              have ok1 : StOk [dOf g vc] φ1 I1 st1 { a1 with defers := dOf g vc :: a1.defers } w1 := ⟨m2.reps, m2.sim, by rw [m2.defers]⟩
              have hm1 : ∀ b, rdH st1.H b ≠ .unborn → b < st1.H.length := fun b hb => by
                rcases Nat.lt_or_ge b st1.H.length with h | h
                · exact h
                · exact absurd (rdH_unborn st1.H b h) hb
              refine evCX_sound (φ0 := φ1) (I0 := I1) (rd0 := rdH st1.H) (w0 := w1) hF hX hm hm1 y h h' b' st1 φ1 I1 _ w1 _ Q hb m1 ok1 (.refl _ _ _ _) (fun e st2 φ2 I2 a2 w2 n1 n2 n3 => ?_) fun v st2 φ2 I2 val a2 w2 n1 n2 n3 n4 => ?_
              · have hc2 : RepL φ2 (rdH st2.H) w2 I2 caps vc.toList := ⟨hcaps.1, fun i x v hx hv => (hcaps.2 i x v hx hv).ext n3 m2.sim⟩
                cases e with
                | normal => cases n1; exact hD _ g caps vc st2 φ2 I2 a2 w2 (.inl rfl) rfl n2 hc2 (E.trans (m3.trans n3))
                | ret => cases n1; exact hD _ g caps vc st2 φ2 I2 a2 w2 (.inr rfl) rfl n2 hc2 (E.trans (m3.trans n3))
                | exit i => cases n1
              · cases n1
                exact hP g caps vc v val st2 φ2 I2 a2 w2 rfl n2 ⟨hcaps.1, fun i x v hx hv => (hcaps.2 i x v hx hv).ext n4 m2.sim⟩ n3 (E.trans (m3.trans n4))
            · cases m1
        · cases hdr
      · cases hc
    · split at hc
      · rename_i a' h1 ha
        split at hc
        · rename_i d h2 hd
          cases hc
          simp only [evD] at he
          refine wp_seq (evC_sound hF hm hm0 x h h1 a' st φ I a w _ _ ha he ok E fun e st' φ' I' a' w' k1 k2 k3 => ?_)
          cases e with
          | normal => exact ihy h1 h' d st' φ' I' a' w' hd k1 k2 k3
          | ret => cases k1; exact hR st' φ' I' a' w' rfl k2 k3
          | exit i => cases k1
        · cases hc
      · cases hc
  | _ =>
    intro h h' dc st φ I a w hc
    simp [compD] at hc

theorem copies_sound {ops : Array Oper} {Q : Exit → Act → List Frame → World → Prop} {φ : Phi} {rd : Rd} {w : World} {I : Fz} {cs : List Frame} {s : Nat} : ∀ (l : List Oper) (k : Nat) (ds : List Nat) (ts : List AV) (a : Act), (∀ j, l[j]? = ops[k + j]?) → copyOf s l = some ds → RepS φ rd w I ts a.tmps →
    (∀ a', a'.defers = a.defers → RepS φ rd w I (putCs s ds ts) a'.tmps → Q .normal a' cs w) → wpOpsS P ops Q (List.range' k l.length) a cs w
  | [], k, ds, ts, a, _, hc, hs, hQ => by
    simp [copyOf] at hc; subst hc
    simp only [List.length_nil, List.range'_zero, wpOpsS]
    exact hQ a rfl hs
  | o :: l, k, ds, ts, a, hk, hc, hs, hQ => by
    have h0 : ops[k]? = some o := by simpa using (hk 0).symm
    have hk' : ∀ j, l[j]? = ops[k + 1 + j]? := fun j => by have := hk (j + 1); simpa [Nat.add_assoc, Nat.add_comm 1 j] using this
    have main : ∀ t d, (execOp a.eval o).run P w = .ok (.value (a.eval (.tmp t))) w → o.guard = none → o.dst = some d → (bif Nat.beq t s then (copyOf s l).map (d :: ·) else none) = some ds → wpOpsS P ops Q (List.range' k (o :: l).length) a cs w := by
      intro t d hrun hg hd hcc
      obtain ⟨ht, hc2⟩ := bif_some hcc
      clear hcc
      cases Nat.eq_of_beq_eq_true ht
      cases hq : copyOf s l with
      | none => rw [hq] at hc2; cases hc2
      | some ds' =>
        rw [hq] at hc2
        cases hc2
        simp only [List.length_cons, List.range'_succ, wpOpsS, h0]
        rw [if_pos (by simp [Region.wanted, hg]), hrun]
        show wpOpsS P ops Q (List.range' (k + 1) l.length) (a.put o.dst (a.eval (.tmp s))) cs w
        have hv : RepA φ rd w I (slot ts s) (a.eval (.tmp s)) := by
          have := slot_rep hs s
          rw [← getD_toList] at this; exact this
        refine copies_sound l (k + 1) ds' (setN ts d (slot ts s)) _ hk' hq (by have := putS_rep hs o.dst hv; rw [hd] at this ⊢; exact this) fun a' h1 h2 => hQ a' (h1.trans ?_) h2
        unfold Act.put; split <;> rfl
    simp only [copyOf] at hc
    split at hc
    · rename_i t d h1 h2 h3
      exact main t d (by simp [execOp, h1]) h2 h3 hc
    · rename_i t d h1 h2 h3
      exact main t d (by simp [execOp, h1]) h2 h3 hc
    · cases hc

/-- What the deferred call does: the world behind, the frame's mode. -/
def RGives (φ : Phi) (I : Fz) (H : Heap) (w : World) (H' : Heap) (w' : World) : Prop :=
  ∃ φ' I', Sim φ' I' (rdH H') w' ∧ Ext φ I (rdH H) w φ' I' (rdH H') w'

theorem rdH_lt {H : Heap} : ∀ b, rdH H b ≠ .unborn → b < H.length := fun b hb => by
  rcases Nat.lt_or_ge b H.length with h | h
  · exact h
  · exact absurd (rdH_unborn H b h) hb

theorem results_nil {fn : Func} (h : fn.results.size = 0) (tm : Array Value) (w : World) : (results fn tm).run P w = .ok (.tuple #[]) w := by
  have e : fn.results = #[] := Array.eq_empty_of_size_eq_zero h
  rw [results_eq, e]
  simp [Sem.run_bind, Sem.run_pure]

theorem recOf_spec {c : Code} {ops : Array Oper} {s : Nat} {ds : List Nat} (h : recOf c = some (ops, s, ds)) :
    ∃ id o l, c = .region id ops false ∧ ops.toList = o :: l ∧ copyOf s l = some ds ∧ o.guard = none ∧ o.dst = some s ∧ ∃ cl : Call, o.op = .call cl ∧ cl.callee = .builtin .recover ∧ cl.args = #[] := by
  unfold recOf at h
  split at h
  · rename_i id ops'
    split at h
    · rename_i o l hl
      split at h
      · rename_i cl s' h1 h2 h3
        split at h
        · rename_i h4
          obtain ⟨h5, h⟩ := bif_some h
          cases hq : copyOf s' l with
          | none => rw [hq] at h; cases h
          | some ds' =>
            rw [hq] at h
            cases h
            exact ⟨id, o, l, rfl, hl, hq, h2, h3, cl, h1, h4, Array.eq_empty_of_size_eq_zero (Nat.eq_of_beq_eq_true h5)⟩
        · cases h
      · cases h
    · cases h
  · cases h

/-- What 'recover' finds. -/
inductive Found : FrameMode → FrameMode → Tree → World → Fz → Prop where
  | none (w : World) (I : Fz) : Found .returning .returning .nili w I
  | some (v : Tree) (val : Value) (w : World) (I : Fz) (h : RepT w I v val) : Found (.panicking [{ v := val, recovered := false }]) (.panicking [{ v := val, recovered := true }]) v w I

theorem runR_sound (hF : FnsOk P F) (hm : P.follows .mixedOrders = true) {g : Nat} {live : List (List Nat)} {ri : RInfo} (hc : compRF P g live rs = some ri) {n : Nat} {caps : List AV} {v : Tree} {H H' : Heap} (h : runR F n ri caps v H = some H')
    {φ : Phi} {I : Fz} {w : World} {vc : Array Value} (hr : RepL φ (rdH H) w I caps vc.toList) (sm : Sim φ I (rdH H) w) {u u' : FrameMode} (hu : Found u u' v w I) (hri : ri.rcv = none → u = .returning) :
    callable P g = true ∧ CallsD P g vc u w fun e u1 w' => u1 = u' ∧ (∃ x, e = .returned x) ∧ RGives φ I H w H' w' := by
  unfold compRF at hc
  split at hc
  · cases hc
  · rename_i fn hfn
    split at hc
    · cases hc
    · rename_i c hbody
      obtain ⟨hb, hc⟩ := bif_some hc
      simp only [Bool.and_eq_true] at hb
      refine ⟨hb.1, ?_⟩
      have hres := results_nil (P := P) (Nat.eq_of_beq_eq_true hb.2)
      have plain : ∀ b', comp P rs c live = some (b', []) → ri = ⟨fn.ntmps, none, b'⟩ → CallsD P g vc u w fun e u1 w' => u1 = u' ∧ (∃ x, e = .returned x) ∧ RGives φ I H w H' w' := by
        intro b' hcomp e
        subst e
        have hu0 := hri rfl
        subst hu0
        cases hu
        have hcd := callsD_of_wp (P := P) (f := g) (u := .returning) (R := fun e w' => (∃ x, e = .returned x) ∧ RGives φ I H w H' w') hfn hbody (args := vc) (w := w) ?_
        · intro c0 cs hc0
          obtain ⟨e, u1, w', fr, h1, h2⟩ := hcd c0 cs hc0
          exact ⟨e, u1, w', fr, ⟨h1.1, h1.2⟩, h2⟩
        · refine evC_sound hF hm (m := H.length) (φ0 := φ) (I0 := I) (rd0 := rdH H) (w0 := w) rdH_lt c live [] b' ⟨start fn.ntmps caps, H⟩ φ I _ w _ _ hcomp h ⟨start_rep fn.ntmps hr, sm, rfl⟩ (.refl _ _ _ _) fun e st' φ' I' a' w' k1 k2 k3 => ?_
          cases e with
          | normal => cases k1; exact ⟨k2.defers, _, hres a'.tmps w', ⟨_, rfl⟩, φ', I', k2.sim, k3⟩
          | ret => cases k1; exact ⟨k2.defers, _, hres a'.tmps w', ⟨_, rfl⟩, φ', I', k2.sim, k3⟩
          | exit i => cases k1
      split at hc
      · rename_i x y _
        split at hc
        · rename_i ops s ds hrec
          split at hc
          · rename_i b' hcomp
            cases hc
            obtain ⟨id, o, l, rfl, hl, hcp, hg, hd, cl, hop, hcl, hargs⟩ := recOf_spec hrec
            refine callsD_of_wpS hfn hbody fun c0 cs hc0 => ?_
            have hsz : List.range ops.size = 0 :: List.range' 1 l.length := by
              rw [List.range_eq_range', ← Array.length_toList, hl]; rfl
            have h00 : ops[0]? = some o := by rw [← Array.getElem?_toList, hl]; rfl
            have hrun : ∀ ρ, (execOp ρ o).run P w = .ok .recover w := fun ρ => by simp [execOp, hop, resolve, hcl, hargs, invoke, builtin]
            have fin : ∀ (val : Value), RepT w I v val → (∀ (a : Act), wpOpsS P ops (Exit.thenS (y.wpS P (bodyPostS P fn c0 cs fun e u1 w' => u1 = u' ∧ (∃ x, e = .returned x) ∧ RGives φ I H w H' w')) (bodyPostS P fn c0 cs fun e u1 w' => u1 = u' ∧ (∃ x, e = .returned x) ∧ RGives φ I H w H' w')) (List.range' 1 l.length) (a.put o.dst val) ({ c0 with mode := u' } :: cs) w →
                wpOpsS P ops (Exit.thenS (y.wpS P (bodyPostS P fn c0 cs fun e u1 w' => u1 = u' ∧ (∃ x, e = .returned x) ∧ RGives φ I H w H' w')) (bodyPostS P fn c0 cs fun e u1 w' => u1 = u' ∧ (∃ x, e = .returned x) ∧ RGives φ I H w H' w')) (0 :: List.range' 1 l.length) a (c0 :: cs) w) →
                (Code.seq (.region id ops false) y).wpS P (bodyPostS P fn c0 cs fun e u1 w' => u1 = u' ∧ (∃ x, e = .returned x) ∧ RGives φ I H w H' w') { tmps := vc ++ Array.replicate (fn.ntmps - vc.size) undef, defers := [] } (c0 :: cs) w := by
              intro val hval hstep
              refine wpS_seq (wpS_region ?_)
              rw [hsz]
              refine hstep _ ?_
              have hs0 : RepS φ (rdH H) w I (start fn.ntmps caps) (vc ++ Array.replicate (fn.ntmps - vc.size) undef) := start_rep fn.ntmps hr
              have hs1 := putS_rep (a := { tmps := vc ++ Array.replicate (fn.ntmps - vc.size) undef, defers := [] }) hs0 o.dst (.t v val hval)
              have hs1 : RepS φ (rdH H) w I (setN (start fn.ntmps caps) s (.t v)) (({ tmps := vc ++ Array.replicate (fn.ntmps - vc.size) undef, defers := [] } : Act).put o.dst val).tmps := by rw [hd] at hs1 ⊢; exact hs1
              refine copies_sound l 1 ds _ _ (fun j => ?_) hcp hs1 fun a' h1 h2 => ?_
              · have : (o :: l)[1 + j]? = ops[1 + j]? := by rw [← hl, Array.getElem?_toList]
                rw [← this, Nat.add_comm]; rfl
              · show y.wpS P _ a' _ w
                refine wpS_of_wp ?_
                have hd1 : a'.defers = [] := h1.trans (by rw [hd]; rfl)
                refine evC_sound hF hm (m := H.length) (φ0 := φ) (I0 := I) (rd0 := rdH H) (w0 := w) rdH_lt y live [] b' ⟨putRec (.t v) (some (s, ds)) (start fn.ntmps caps), H⟩ φ I a' w _ _ hcomp h ⟨h2, sm, hd1⟩ (.refl _ _ _ _) fun e st' φ' I' a2 w' k1 k2 k3 => ?_
                cases e with
                | normal => cases k1; exact ⟨k2.defers, u', rfl, _, hres a2.tmps w', rfl, ⟨_, rfl⟩, φ', I', k2.sim, k3⟩
                | ret => cases k1; exact ⟨k2.defers, u', rfl, _, hres a2.tmps w', rfl, ⟨_, rfl⟩, φ', I', k2.sim, k3⟩
                | exit i => cases k1
            cases hu with
            | none =>
              refine fin .nilIface .nili fun a h => ?_
              simp only [wpOpsS, h00]
              rw [if_pos (by simp [Region.wanted, hg]), hrun]
              simp only [recoverD, hc0]
              have : ({ c0 with mode := FrameMode.returning } : Frame) = c0 := by rw [← hc0]
              rw [this] at h; exact h
            | some _ val _ _ hval =>
              refine fin val hval fun a h => ?_
              simp only [wpOpsS, h00]
              rw [if_pos (by simp [Region.wanted, hg]), hrun]
              simp only [recoverD, hc0]
              exact h
          · cases hc
        · split at hc
          · rename_i b' hcomp
            cases hc
            exact plain b' hcomp rfl
          · cases hc
      · split at hc
        · rename_i b' hcomp
          cases hc
          exact plain b' hcomp rfl
        · cases hc

theorem fin_run {φ : Phi} {I : Fz} {st : St} {H : Heap} {tm : Array Value} {w : World} {fn : Func} {res : List IRes} {v : AV} {H' : Heap} (hs : RepS φ (rdH H) w I st.ts tm) (sm : Sim φ I (rdH H) w) (hc : compRes P fn.results.toList = some res) (h : fin st H res = some (v, H')) :
    H' = H ∧ ∃ val, (results fn tm).run P w = .ok val w ∧ RepA φ (rdH H) w I v val := by
  obtain ⟨x, val, h1, h2, h3⟩ := results_run (Df := []) (a := { tmps := tm, defers := [] }) (st := ⟨st.ts, H⟩) (K := fun x => some (x, H)) ⟨hs, sm, rfl⟩ hc h
  cases h1
  exact ⟨rfl, val, h2, h3⟩

theorem runD_sound {E : Env} (hE : EnvOk P E) (hm : P.follows .mixedOrders = true) {f : Nat} {live : List (List Nat)} {di : DInfo} (hc : compDF P f live rs = some di) {RI : Nat → Option RInfo} (hRI : ∀ g ri, RI g = some ri → ∃ live rs, compRF P g live rs = some ri) (k : Nat) :
    ∀ args H v H', runD E k di RI args H = some (v, H') → callable P f = true ∧ ∀ (φ : Phi) (w : World) (I : Fz) (vals : Array Value), RepL φ (rdH H) w I args vals.toList → Sim φ I (rdH H) w → Calls P f vals w (Comes' φ I H w v H') := by
  intro args H v H' h
  have hF := rf_ok hE (runFn_sound hE hm k)
  have hX : PFnsOk P ⟨pxE E.root (runX E k), pwOf (runX E k)⟩ := pfns_ok (runX_sound hE hm k)
  unfold compDF at hc
  split at hc
  · cases hc
  · rename_i fn hfn
    split at hc
    · cases hc
    · rename_i c hbody
      obtain ⟨hcall, hc⟩ := bif_some hc
      refine ⟨hcall, fun φ w I vals hr sm => ?_⟩
      split at hc
      · rename_i ib ir hcomp hres
        cases hc
        unfold runD at h
        cases hev : evD ⟨pureE E.root (runFn E k), E.rf (runFn E k), E.ok, wldOf (runFn E k)⟩ ⟨pxE E.root (runX E k), pwOf (runX E k)⟩ k H.length ib ⟨start fn.ntmps args, H⟩ with
        | none => rw [hev] at h; cases h
        | some r =>
          rw [hev] at h
          simp only [Option.bind_some] at h
          refine calls_of_wp_defers hfn hbody ?_
          have behind : ∀ {u u' : FrameMode} {x : Tree} {g' : Nat} {caps : List AV} {vc : Array Value} {st : St} {φ1 : Phi} {I1 : Fz} {a1 : Act} {w1 : World} {ri : RInfo} {H1 : Heap}, RI g' = some ri → Found u u' x w1 I1 → (ri.rcv = none → u = .returning) → settle u' = .returning → u ≠ .run →
              runR ⟨pureE E.root (runFn E k), E.rf (runFn E k), E.ok, wldOf (runFn E k)⟩ k ri caps x st.H = some H1 → fin st H1 ir = some (v, H') → StOk [dOf g' vc] φ1 I1 st a1 w1 → RepL φ1 (rdH st.H) w1 I1 caps vc.toList → Ext φ I (rdH H) w φ1 I1 (rdH st.H) w1 →
              Leaves P fn a1.tmps (Comes' φ I H w v H') [dOf g' vc] u w1 := by
            intro u u' x g' caps vc st φ1 I1 a1 w1 ri H1 hri hfo hrn hset hrun hrr hfin ok hcaps E1
            obtain ⟨lv, rs', hcr⟩ := hRI g' ri hri
            obtain ⟨hcal, hcd⟩ := runR_sound hF hm hcr hrr hcaps ok.sim hfo hrn
            refine ⟨hrun, .func g', vc, g', vc, rfl, ?_, ?_⟩
            · have := callable_run hcal vc w1
              simpa [invoke, dOf] using this
            · intro c0 cs hc0
              obtain ⟨e, u1, w2, fr, ⟨rfl, ⟨y, rfl⟩, φ2, I2, sm2, E2⟩, h2⟩ := hcd c0 cs hc0
              refine ⟨_, _, w2, fr, ?_, h2⟩
              show Leaves P fn a1.tmps _ [] (settle u1) w2
              rw [hset]
              obtain ⟨rfl, val, k1, k2⟩ := fin_run (P := P) (φ := φ2) (I := I2) (tm := a1.tmps) (w := w2) ⟨ok.reps.1, fun i x v hx hv => (ok.reps.2 i x v hx hv).ext E2 ok.sim⟩ sm2 hres hfin
              exact ⟨val, k1, val, φ2, I2, rfl, k2, sm2, E1.trans E2⟩
          refine evD_sound hF hX hm (m := H.length) (φ0 := φ) (I0 := I) (rd0 := rdH H) (w0 := w) rdH_lt (res := r) ?_ ?_ ?_ c live [] ib ⟨start fn.ntmps args, H⟩ φ I _ w hcomp hev ⟨start_rep fn.ntmps hr, sm, rfl⟩ (.refl _ _ _ _)
          · intro st' φ' I' a' w' e ok E1
            subst e
            obtain ⟨rfl, val, k1, k2⟩ := fin_run (P := P) ok.reps ok.sim hres h
            show Leaves P fn a'.tmps _ a'.defers .returning w'
            rw [ok.defers]
            exact ⟨val, k1, val, φ', I', rfl, k2, ok.sim, E1⟩
          · intro e g' caps vc st' φ' I' a' w' he e2 ok hcaps E1
            subst e2
            simp only at h
            cases hri : RI g' with
            | none => rw [hri] at h; cases h
            | some ri =>
              rw [hri] at h
              simp only [Option.bind_some] at h
              cases hrr : runR ⟨pureE E.root (runFn E k), E.rf (runFn E k), E.ok, wldOf (runFn E k)⟩ k ri caps .nili st'.H with
              | none => rw [hrr] at h; cases h
              | some H1 =>
                rw [hrr] at h
                have := behind hri (.none w' I') (fun _ => rfl) rfl (by simp) hrr h ok hcaps E1
                rcases he with rfl | rfl
                · show Leaves P fn a'.tmps _ a'.defers .returning w'
                  rw [ok.defers]; exact this
                · show Leaves P fn a'.tmps _ a'.defers .returning w'
                  rw [ok.defers]; exact this
          · intro g' caps vc x val st' φ' I' a' w' e2 ok hcaps hx E1
            subst e2
            simp only at h
            cases hri : RI g' with
            | none => rw [hri] at h; cases h
            | some ri =>
              rw [hri] at h
              simp only [Option.bind_some] at h
              split at h
              · cases h
              · rename_i hne
                obtain ⟨_, h⟩ := bif_some h
                cases hrr : runR ⟨pureE E.root (runFn E k), E.rf (runFn E k), E.ok, wldOf (runFn E k)⟩ k ri caps x st'.H with
                | none => rw [hrr] at h; cases h
                | some H1 =>
                  rw [hrr] at h
                  show Leaves P fn a'.tmps _ a'.defers (.panicking _) w'
                  rw [ok.defers]
                  exact behind hri (.some x val w' I' hx) (fun hn => (hne hn).elim) rfl (by simp) hrr h ok hcaps E1
      · cases hc

/-- As a summary. -/
theorem sumD {E : Env} (hE : EnvOk P E) (hm : P.follows .mixedOrders = true) {f : Nat} {live : List (List Nat)} {di : DInfo} (hc : compDF P f live rs = some di) {RI : Nat → Option RInfo} (hRI : ∀ g ri, RI g = some ri → ∃ live rs, compRF P g live rs = some ri) (k : Nat) {C : List AV → Heap → Bool} :
    SumOk P f C (runD E k di RI) := fun args H v H' _ h =>
  runD_sound hE hm hc hRI k args H v H' h

end

end Go.Proofs.Dw
end

/-
  THE ABSTRACT WALK, 32: a row's readings as trees.
-/
section
namespace Go.Proofs.Dw

/-- A value of a type, its cells in hand. -/
def mkTree (P : Program) (t : TypeId) (cs : List Tree) : Tree :=
  match tyAgg P t with
  | some true => .agg cs
  | _ => cs.headD .nilp

/-- The cells of a value of a type. -/
inductive TV (P : Program) : TypeId → List Tree → Prop where
  | bool (t : TypeId) (b : Bool) (h : P.underlying t = some .bool) : TV P t [.bool b]
  | int (t : TypeId) (k : IntKind) (n : Int) (h : P.underlying t = some (.int k)) (hw : (Lit.int k n).wf = true) : TV P t [.int k n]
  | str (t : TypeId) (s : List UInt8) (h : P.underlying t = some .string) (hl : s.length ≤ reachBytes) : TV P t [.str s]
  | slc (t e : TypeId) (es : List Tree) (h : P.underlying t = some (.slice e)) (hl : es.length * P.bytesOf e ≤ reachBytes) (hm : es.length ≤ maxLen)
      (h1 : ∀ x, x ∈ es → x.fl = true ∧ x = mkTree P e x.cells) (h2 : ∀ x, x ∈ es → TV P e x.cells) : TV P t [.slc es]
  | struct (t : TypeId) (fs : Array Field) (cs : List Tree) (h : P.underlying t = some (.struct fs)) (hl : cs.length = P.cellsOf t)
      (hf : ∀ f, f ∈ fs.toList → TV P f.type ((cs.drop f.offset).take (P.cellsOf f.type))) : TV P t cs
  | array (t : TypeId) (n : Nat) (e : TypeId) (cs : List Tree) (h : P.underlying t = some (.array n e)) (hl : cs.length = P.cellsOf t)
      (hf : ∀ i, i < n → TV P e ((cs.drop (i * P.cellsOf e)).take (P.cellsOf e))) : TV P t cs

/-- A value of a type. -/
def WT (P : Program) (t : TypeId) (x : Tree) : Prop := x.fl = true ∧ x = mkTree P t x.cells ∧ TV P t x.cells

def tiles (P : Program) (L : List Nat) (total : Nat) : Nat → List Field → Bool
  | off, [] => Nat.beq off total
  | off, f :: r => memN L f.type && (Nat.beq f.offset off && tiles P L total (off + P.cellsOf f.type) r)

/-- Types of which all parts are plain data, and of the list. -/
def kidsOk (P : Program) (L : List Nat) (t : TypeId) : Bool :=
  match P.underlying t with
  | some .bool => true
  | some (.int _) => true
  | some .string => true
  | some (.slice e) => memN L e && Nat.ble 1 (P.cellsOf e)
  | some (.struct fs) => tiles P L (P.cellsOf t) 0 fs.toList
  | some (.array n e) => memN L e && Nat.beq (n * P.cellsOf e) (P.cellsOf t)
  | _ => false

def kidsB (P : Program) (L : List Nat) : Bool := L.all (kidsOk P L)

theorem mapM_some {α β : Type} {f : α → Option β} : ∀ {l : List α} {r : List β}, l.mapM f = some r → r.length = l.length ∧ ∀ (i : Nat) x y, l[i]? = some x → r[i]? = some y → f x = some y
  | [], r, h => by simp at h; subst h; exact ⟨rfl, fun i x y h => by simp at h⟩
  | x :: l, r, h => by
    rw [List.mapM_cons] at h
    cases hx : f x with
    | none => simp [hx] at h
    | some y =>
      cases hl : l.mapM f with
      | none => simp [hx, hl] at h
      | some r' =>
        simp [hx, hl] at h; subst h
        obtain ⟨h1, h2⟩ := mapM_some hl
        refine ⟨by simp [h1], fun i a b ha hb => ?_⟩
        cases i with
        | zero => simp at ha hb; subst ha; subst hb; exact hx
        | succ i => exact h2 i a b (by simpa using ha) (by simpa using hb)

theorem cells_some {w : World} {a : Addr} {n : Nat} {l : List Value} (h : w.cells? 0 a n = some l) : l.length = n ∧ ∀ i, i < n → w.cell? (a.add i) = l[i]? := by
  unfold World.cells? at h
  rw [if_pos (Nat.zero_le _)] at h
  obtain ⟨h1, h2⟩ := mapM_some h
  rw [List.length_range] at h1
  refine ⟨h1, fun i hi => ?_⟩
  have hl : i < l.length := by omega
  rw [List.getElem?_eq_getElem hl]
  exact h2 i i _ (by simp [hi]) (by simp)

def oldI (w : World) : Fz := ⟨fun b => b < w.heap.size, fun _ => none⟩

theorem cell_lt {w : World} {b o : Nat} {s : Option Nat} {v : Value} (h : w.cell? ⟨b, o, s⟩ = some v) : b < w.heap.size ∧ s = none := by
  unfold World.cell? at h
  simp only at h
  split at h
  · rename_i hq
    refine ⟨(Array.getElem?_eq_some_iff.1 hq).1, ?_⟩
    cases s with
    | none => rfl
    | some s => simp at h
  · cases h

theorem TV.one {P : Program} {t : TypeId} {cs : List Tree} (h : TV P t cs) (ha : tyAgg P t ≠ some true) : ∃ x, cs = [x] ∧ x.isSc = true := by
  cases h with
  | bool b h => exact ⟨_, rfl, rfl⟩
  | int k n h hw => exact ⟨_, rfl, rfl⟩
  | str s h hl => exact ⟨_, rfl, rfl⟩
  | slc e es h hl hm h1 h2 => exact ⟨_, rfl, rfl⟩
  | struct _ fs _ h => exact absurd (by simp [tyAgg, h]) ha
  | array _ n e _ h => exact absurd (by simp [tyAgg, h]) ha

theorem mkTree_cells {P : Program} {t : TypeId} {cs : List Tree} (h : TV P t cs) : (mkTree P t cs).cells = cs := by
  unfold mkTree
  split
  · rfl
  · rename_i ha
    obtain ⟨x, rfl, hx⟩ := h.one (fun e => ha e)
    exact Tree.cells_len_sc hx

theorem mkTree_WT {P : Program} {t : TypeId} {cs : List Tree} (h : TV P t cs) (hs : ∀ x, x ∈ cs → x.isSc = true) : WT P t (mkTree P t cs) := by
  refine ⟨?_, by rw [mkTree_cells h], by rw [mkTree_cells h]; exact h⟩
  unfold Tree.fl
  rw [mkTree_cells h]
  exact List.all_eq_true.2 hs

section
variable {H : Type} {enc : TypeId × Value → H} {P : Program} {w : World} {sp : Nat → Bool} {held : Bool} {L : List Nat}

/-- What a reading of cells gives. -/
def Read (P : Program) (w : World) (t : TypeId) (cs : List Value) : Prop := ∃ ts : List Tree, RepTL w (oldI w) ts cs ∧ TV P t ts ∧ ∀ x, x ∈ ts → x.isSc = true

theorem RepTL.nil' {w : World} {I : Fz} : RepTL w I [] [] := ⟨rfl, fun i x v h => by simp at h⟩

theorem RepTL.one {w : World} {I : Fz} {x : Tree} {v : Value} (h : RepT w I x v) : RepTL w I [x] [v] := by
  refine ⟨rfl, fun i y u hy hu => ?_⟩
  cases i with
  | zero => simp at hy hu; subst hy; subst hu; exact h
  | succ i => simp at hy

theorem RepTL.append {w : World} {I : Fz} {xs ys : List Tree} {us vs : List Value} (h : RepTL w I xs us) (k : RepTL w I ys vs) : RepTL w I (xs ++ ys) (us ++ vs) := by
  refine ⟨by simp [h.1, k.1], fun i x v hx hv => ?_⟩
  rcases Nat.lt_or_ge i xs.length with hi | hi
  · rw [List.getElem?_append_left hi] at hx
    rw [List.getElem?_append_left (by rw [h.1]; exact hi)] at hv
    exact h.2 i x v hx hv
  · rw [List.getElem?_append_right hi] at hx
    rw [List.getElem?_append_right (by rw [h.1]; exact hi), h.1] at hv
    exact k.2 _ x v hx hv

/-- A slice whose elements are read one by one. -/
theorem read_slice {t e : TypeId} {a : Addr} {len cap : Nat} (ht : P.underlying t = some (.slice e)) (hc1 : 1 ≤ P.cellsOf e) (hcap : len ≤ cap) (hm : len ≤ maxLen) (hb : len * P.bytesOf e ≤ reachBytes)
    (hr : ∀ i, i < len → ∃ cs, w.cells? 0 (a.add (i * P.cellsOf e)) (P.cellsOf e) = some cs ∧ Read P w e cs) : Read P w t [.slice (some a) len cap] := by
  have hch : ∃ f : Nat → List Tree, ∀ i, i < len → ∃ cs, w.cells? 0 (a.add (i * P.cellsOf e)) (P.cellsOf e) = some cs ∧ RepTL w (oldI w) (f i) cs ∧ TV P e (f i) ∧ ∀ x, x ∈ f i → x.isSc = true := by
    refine ⟨fun i => if h : i < len then (hr i h).choose_spec.2.choose else [], fun i hi => ?_⟩
    simp only [dif_pos hi]
    exact ⟨_, (hr i hi).choose_spec.1, (hr i hi).choose_spec.2.choose_spec⟩
  obtain ⟨f, hf⟩ := hch
  have hel : ∀ (i : Nat) x, ((List.range len).map fun i => mkTree P e (f i))[i]? = some x → i < len ∧ x = mkTree P e (f i) := by
    intro i x hx
    rw [List.getElem?_map] at hx
    rcases Nat.lt_or_ge i len with hi | hi
    · simp [hi] at hx; exact ⟨hi, hx.symm⟩
    · simp [List.getElem?_range, hi] at hx
  have hlen : ((List.range len).map fun i => mkTree P e (f i)).length = len := by simp
  have hwt : ∀ x, x ∈ ((List.range len).map fun i => mkTree P e (f i)) → WT P e x := by
    intro x hx
    obtain ⟨i, hi, rfl⟩ := List.mem_map.1 hx
    obtain ⟨cs, _, _, h3, h4⟩ := hf i (by simpa using hi)
    exact mkTree_WT h3 h4
  refine ⟨[.slc ((List.range len).map fun i => mkTree P e (f i))], RepTL.one ?_, .slc t e _ ht (by rw [hlen]; exact hb) (by rw [hlen]; exact hm) (fun x hx => ⟨(hwt x hx).1, (hwt x hx).2.1⟩) (fun x hx => (hwt x hx).2.2), fun x hx => by simp at hx; subst hx; rfl⟩
  rcases Nat.eq_zero_or_pos len with h0 | hpos
  · subst h0; exact .slc0 (some a) cap
  · obtain ⟨b, o, s⟩ := a
    have hsp : s = none := by
      obtain ⟨cs, h1, h2, _⟩ := hf 0 hpos
      obtain ⟨k1, k2⟩ := cells_some h1
      have := k2 0 (by omega)
      rw [show ((⟨b, o, s⟩ : Addr).add (0 * P.cellsOf e)).add 0 = ⟨b, o, s⟩ by simp [Addr.add], List.getElem?_eq_getElem (by omega)] at this
      exact (cell_lt this).2
    subst hsp
    have hcells : ∀ (i j : Nat) x y, ((List.range len).map fun i => mkTree P e (f i))[i]? = some x → x.cells[j]? = some y → ∃ v, w.cell? ⟨b, o + i * P.cellsOf e + j, none⟩ = some v ∧ RepT w (oldI w) y v := by
      intro i j x y hx hy
      obtain ⟨hi, rfl⟩ := hel i x hx
      obtain ⟨cs, h1, h2, h3, h4⟩ := hf i hi
      obtain ⟨k1, k2⟩ := cells_some h1
      rw [mkTree_cells h3] at hy
      have hj : j < cs.length := by have := (List.getElem?_eq_some_iff.1 hy).1; have := h2.1; omega
      have := k2 j (by omega)
      rw [Addr.add_none, Addr.add_none, List.getElem?_eq_getElem hj] at this
      exact ⟨_, this, h2.2 j y _ hy (by simp)⟩
    have hlt : oldI w b := by
      obtain ⟨cs, h1, h2, _⟩ := hf 0 hpos
      obtain ⟨k1, k2⟩ := cells_some h1
      have := k2 0 (by omega)
      rw [Addr.add_none, Addr.add_none, List.getElem?_eq_getElem (by omega)] at this
      exact (cell_lt this).1
    have := RepT.slc (w := w) (I := oldI w) ((List.range len).map fun i => mkTree P e (f i)) b o cap (P.cellsOf e) (fun i j => (w.cell? ⟨b, o + i * P.cellsOf e + j, none⟩).getD undef) hlt (by rw [hlen]; exact hcap)
      (fun i x hx => by
        obtain ⟨hi, rfl⟩ := hel i x hx
        obtain ⟨cs, h1, h2, h3, h4⟩ := hf i hi
        rw [mkTree_cells h3]
        have := h2.1; have := (cells_some h1).1; omega)
      (fun x hx => (hwt x hx).1)
      (fun i j x y hx hy => by obtain ⟨v, hv, _⟩ := hcells i j x y hx hy; rw [hv]; rfl)
      (fun i j x y hx hy => by obtain ⟨v, hv, hr⟩ := hcells i j x y hx hy; rw [hv]; exact hr)
    rw [hlen] at this
    exact this

/-- Parts one behind the other. -/
theorem read_parts (total : Nat) : ∀ (fs : List Field) (off : Nat) (cs : List Value), cs.length = total → tiles P L total off fs = true → off ≤ total →
    (∀ f, f ∈ fs → f.type ∈ L → Read P w f.type ((cs.drop f.offset).take (P.cellsOf f.type))) →
    ∃ ts : List Tree, RepTL w (oldI w) ts (cs.drop off) ∧ (∀ x, x ∈ ts → x.isSc = true) ∧ ∀ f, f ∈ fs → off ≤ f.offset ∧ TV P f.type ((ts.drop (f.offset - off)).take (P.cellsOf f.type))
  | [], off, cs, hl, ht, hle, _ => by
    simp only [tiles] at ht
    have := Nat.eq_of_beq_eq_true ht
    refine ⟨[], ?_, fun x h => by simp at h, fun f h => by simp at h⟩
    rw [List.drop_eq_nil_of_le (by omega)]
    exact RepTL.nil'
  | f :: fs, off, cs, hl, ht, hle, hr => by
    simp only [tiles, Bool.and_eq_true] at ht
    obtain ⟨h1, h2, h3⟩ := ht
    have h2 := Nat.eq_of_beq_eq_true h2
    have hle2 : ∀ (fs : List Field) (o : Nat), tiles P L total o fs = true → o ≤ total := by
      intro fs
      induction fs with
      | nil => intro o h; simp only [tiles] at h; have := Nat.eq_of_beq_eq_true h; omega
      | cons g gs ih =>
        intro o h
        simp only [tiles, Bool.and_eq_true] at h
        have := ih _ h.2.2
        omega
    have hb := hle2 fs _ h3
    obtain ⟨t1, k1, k2, k3⟩ := hr f (by simp) ((memN_iff _ _).1 h1)
    obtain ⟨t2, m1, m2, m3⟩ := read_parts total fs (off + P.cellsOf f.type) cs hl h3 hb fun g hg hgL => hr g (by simp [hg]) hgL
    have hl1 : t1.length = P.cellsOf f.type := by
      have := k1.1
      rw [List.length_take, List.length_drop] at this
      omega
    refine ⟨t1 ++ t2, ?_, fun x hx => ?_, fun g hg => ?_⟩
    · have hsplit : cs.drop off = (cs.drop f.offset).take (P.cellsOf f.type) ++ cs.drop (off + P.cellsOf f.type) := by
        rw [h2, ← List.drop_drop, List.take_append_drop]
      rw [hsplit]
      exact k1.append m1
    · rcases List.mem_append.1 hx with h | h
      · exact k3 x h
      · exact m2 x h
    · rcases List.mem_cons.1 hg with e | hg
      · subst e
        refine ⟨by omega, ?_⟩
        rw [h2, Nat.sub_self, List.drop_zero, ← hl1, List.take_left]
        exact k2
      · obtain ⟨p1, p2⟩ := m3 g hg
        refine ⟨by omega, ?_⟩
        rw [show g.offset - off = t1.length + (g.offset - (off + P.cellsOf f.type)) by omega, List.drop_append]
        rw [List.drop_eq_nil_of_le (by omega), List.nil_append, show t1.length + (g.offset - (off + P.cellsOf f.type)) - t1.length = g.offset - (off + P.cellsOf f.type) by omega]
        exact p2

end

end Go.Proofs.Dw
end

/-
  THE ABSTRACT WALK, 33: a row's readings as trees: the theorem.
-/
section
namespace Go.Proofs.Dw

section
variable {H : Type} {enc : TypeId × Value → H} {P : Program} {w : World} {sp : Nat → Bool} {held : Bool} {L : List Nat}

theorem all_app {p : Nat → Bool} {l m : List Nat} (h : (l ++ m).all p = true) : l.all p = true ∧ m.all p = true := by simpa [List.all_append] using h

theorem weightsAll_get {e : TypeId} : ∀ {ds : List (DataW H)} {i : Nat} {d : DataW H}, (DataW.weightsAll P e ds).all (· ≤ reachBytes) = true → ds[i]? = some d → (d.weights P e).all (· ≤ reachBytes) = true
  | [], i, d, _, h => by simp at h
  | x :: ds, i, d, hw, h => by
    simp only [DataW.weightsAll] at hw
    obtain ⟨h1, h2⟩ := all_app hw
    cases i with
    | zero => simp at h; subst h; exact h1
    | succ i => exact weightsAll_get h2 (by simpa using h)

theorem weightsEach_get : ∀ {ts : List TypeId} {ds : List (DataW H)} {i : Nat} {t : TypeId} {d : DataW H}, (DataW.weightsEach P ts ds).all (· ≤ reachBytes) = true → ts[i]? = some t → ds[i]? = some d → (d.weights P t).all (· ≤ reachBytes) = true
  | [], _, i, t, d, _, h, _ => by simp at h
  | _ :: _, [], i, t, d, _, _, h => by simp at h
  | t0 :: ts, x :: ds, i, t, d, hw, h, k => by
    simp only [DataW.weightsEach] at hw
    obtain ⟨h1, h2⟩ := all_app hw
    cases i with
    | zero => simp at h k; subst h; subst k; exact h1
    | succ i => exact weightsEach_get h2 (by simpa using h) (by simpa using k)

theorem kidsB_spec (hk : kidsB P L = true) {t : TypeId} (ht : t ∈ L) : kidsOk P L t = true := List.all_eq_true.1 hk t ht

theorem trod_bool {fuel : Nat} {t : TypeId} {cs : List Value} {d : DataW H} {ps : List MemPlace} (hu : P.underlying t = some .bool) (h : DataW.trod enc P w 0 sp held (fuel + 1) t cs = some (d, ps)) : ∃ b, cs = [.bool b] := by
  match cs, h with
  | [], h => simp [DataW.trod, hu] at h
  | [v], h => cases v <;> simp [DataW.trod, hu] at h; exact ⟨_, rfl⟩
  | v :: u :: r, h => simp [DataW.trod, hu] at h

theorem trod_int {fuel : Nat} {t : TypeId} {k : IntKind} {cs : List Value} {d : DataW H} {ps : List MemPlace} (hu : P.underlying t = some (.int k)) (h : DataW.trod enc P w 0 sp held (fuel + 1) t cs = some (d, ps)) :
    ∃ n, cs = [.int k n] ∧ (Lit.int k n).wf = true := by
  match cs, h with
  | [], h => simp [DataW.trod, hu] at h
  | [v], h =>
    cases v <;> simp [DataW.trod, hu] at h
    obtain ⟨⟨rfl, h⟩, _⟩ := h
    exact ⟨_, rfl, h⟩
  | v :: u :: r, h => simp [DataW.trod, hu] at h

theorem trod_str {fuel : Nat} {t : TypeId} {cs : List Value} {d : DataW H} {ps : List MemPlace} (hu : P.underlying t = some .string) (h : DataW.trod enc P w 0 sp held (fuel + 1) t cs = some (d, ps)) :
    ∃ s : ByteArray, cs = [.string s] ∧ d = .lit (.string s.data.toList) := by
  match cs, h with
  | [], h => simp [DataW.trod, hu] at h
  | [v], h =>
    cases v <;> simp [DataW.trod, hu] at h
    obtain ⟨_, h, _⟩ := h
    exact ⟨_, rfl, h.symm⟩
  | v :: u :: r, h => simp [DataW.trod, hu] at h

theorem trod_slice {fuel : Nat} {t e : TypeId} {cs : List Value} {d : DataW H} {ps : List MemPlace} (hu : P.underlying t = some (.slice e)) (h : DataW.trod enc P w 0 sp held (fuel + 1) t cs = some (d, ps)) :
    cs = [.slice none 0 0] ∨ ∃ (a : Addr) (len cap : Nat) (elems rest : List (DataW H × List MemPlace)), cs = [.slice (some a) len cap] ∧ len ≤ cap ∧ cap ≤ maxLen ∧ elems.length = len ∧ d = .slice (elems.map (·.1)) (rest.map (·.1)) ∧
      ∀ i, i < len → ∃ c x, w.cells? 0 (a.add (i * P.cellsOf e)) (P.cellsOf e) = some c ∧ elems[i]? = some x ∧ DataW.trod enc P w 0 sp held fuel e c = some x := by
  match cs, h with
  | [], h => simp [DataW.trod, hu] at h
  | v :: u :: r, h => simp [DataW.trod, hu] at h
  | [v], h =>
    cases v with
    | slice a len cap =>
      cases a with
      | none =>
        left
        unfold DataW.trod at h
        rw [hu] at h
        match len, cap, h with
        | 0, 0, _ => rfl
        | l + 1, _, h => simp at h
        | 0, c + 1, h => simp at h
      | some a =>
        right
        unfold DataW.trod at h
        rw [hu] at h
        simp only at h
        split at h
        · rename_i hb
          simp only [Option.bind_eq_some_iff, Option.map_eq_some_iff] at h
          obtain ⟨elems, he, rest, hr, hd⟩ := h
          obtain ⟨k1, k2⟩ := mapM_some he
          rw [List.length_range] at k1
          refine ⟨a, len, cap, elems, rest, rfl, hb.2.1, hb.2.2, k1, by cases hd; rfl, fun i hi => ?_⟩
          have hx : elems[i]? = some (elems[i]'(by omega)) := by simp
          have := k2 i i _ (by simp [hi]) hx
          simp only [Option.bind_eq_some_iff] at this
          obtain ⟨c, hc, ht⟩ := this
          exact ⟨c, _, hc, hx, ht⟩
        · cases h
    | _ => simp [DataW.trod, hu] at h

theorem trod_struct {fuel : Nat} {t : TypeId} {fs : Array Field} {cs : List Value} {d : DataW H} {ps : List MemPlace} (hu : P.underlying t = some (.struct fs)) (h : DataW.trod enc P w 0 sp held (fuel + 1) t cs = some (d, ps)) :
    cs.length = P.cellsOf t ∧ ∃ xs : List (DataW H × List MemPlace), d = .agg (xs.map (·.1)) ∧ xs.length = fs.toList.length ∧
      ∀ (i : Nat) f, fs.toList[i]? = some f → ∃ x, xs[i]? = some x ∧ DataW.trod enc P w 0 sp held fuel f.type ((cs.drop f.offset).take (P.cellsOf f.type)) = some x := by
  unfold DataW.trod at h
  rw [hu] at h
  simp only at h
  split at h
  · rename_i hl
    simp only [Option.map_eq_some_iff] at h
    obtain ⟨xs, hx, hd⟩ := h
    obtain ⟨k1, k2⟩ := mapM_some hx
    refine ⟨hl, xs, by cases hd; rfl, k1, fun i f hf => ?_⟩
    have hi : i < xs.length := by have := (List.getElem?_eq_some_iff.1 hf).1; omega
    exact ⟨xs[i], by simp, k2 i f _ hf (by simp)⟩
  · cases h

theorem trod_array {fuel : Nat} {t e : TypeId} {n : Nat} {cs : List Value} {d : DataW H} {ps : List MemPlace} (hu : P.underlying t = some (.array n e)) (h : DataW.trod enc P w 0 sp held (fuel + 1) t cs = some (d, ps)) :
    cs.length = P.cellsOf t ∧ ∃ xs : List (DataW H × List MemPlace), d = .agg (xs.map (·.1)) ∧ xs.length = n ∧
      ∀ (i : Nat), i < n → ∃ x, xs[i]? = some x ∧ DataW.trod enc P w 0 sp held fuel e ((cs.drop (i * P.cellsOf e)).take (P.cellsOf e)) = some x := by
  unfold DataW.trod at h
  rw [hu] at h
  simp only at h
  split at h
  · rename_i hl
    simp only [Option.map_eq_some_iff] at h
    obtain ⟨xs, hx, hd⟩ := h
    obtain ⟨k1, k2⟩ := mapM_some hx
    rw [List.length_range] at k1
    refine ⟨hl, xs, by cases hd; rfl, k1, fun i hi => ?_⟩
    exact ⟨xs[i]'(by omega), by simp, k2 i i _ (by simp [hi]) (by simp)⟩
  · cases h

/-- Elements one behind the other. -/
theorem read_elems {e : TypeId} (c : Nat) : ∀ (n i0 : Nat) (cs : List Value), (i0 + n) * c = cs.length → (∀ i, i < n → Read P w e ((cs.drop ((i0 + i) * c)).take c)) →
    ∃ ts : List Tree, RepTL w (oldI w) ts (cs.drop (i0 * c)) ∧ (∀ x, x ∈ ts → x.isSc = true) ∧ ∀ i, i < n → TV P e ((ts.drop (i * c)).take c)
  | 0, i0, cs, hl, _ => ⟨[], by rw [List.drop_eq_nil_of_le (by rw [← hl]; simp)]; exact RepTL.nil', fun x h => by simp at h, fun i h => by omega⟩
  | n + 1, i0, cs, hl, hr => by
    obtain ⟨t1, k1, k2, k3⟩ := hr 0 (by omega)
    obtain ⟨t2, m1, m2, m3⟩ := read_elems c n (i0 + 1) cs (by rw [← hl]; congr 1; omega) fun i hi => by
      have := hr (i + 1) (by omega)
      rwa [show i0 + (i + 1) = i0 + 1 + i by omega] at this
    rw [Nat.add_zero] at k1
    have hbig : (i0 + 1) * c ≤ cs.length := by rw [← hl]; exact Nat.mul_le_mul_right _ (by omega)
    have hl1 : t1.length = c := by
      have := k1.1
      rw [List.length_take, List.length_drop] at this
      rw [Nat.add_mul, Nat.one_mul] at hbig
      omega
    refine ⟨t1 ++ t2, ?_, fun x hx => ?_, fun i hi => ?_⟩
    · have hsplit : cs.drop (i0 * c) = (cs.drop (i0 * c)).take c ++ cs.drop ((i0 + 1) * c) := by
        rw [Nat.add_mul, Nat.one_mul, ← List.drop_drop, List.take_append_drop]
      rw [hsplit]
      exact k1.append m1
    · rcases List.mem_append.1 hx with h | h
      · exact k3 x h
      · exact m2 x h
    · cases i with
      | zero => rw [Nat.zero_mul, List.drop_zero, ← hl1, List.take_left]; exact k2
      | succ i =>
        have := m3 i (by omega)
        rw [Nat.add_mul, Nat.one_mul, List.drop_append, List.drop_eq_nil_of_le (by omega), List.nil_append, hl1, Nat.add_sub_cancel]
        exact this

theorem trod_read (hk : kidsB P L = true) : ∀ (fuel : Nat) (t : TypeId) (cs : List Value) (d : DataW H) (ps : List MemPlace), t ∈ L → DataW.trod enc P w 0 sp held fuel t cs = some (d, ps) →
    (d.weights P t).all (· ≤ reachBytes) = true → Read P w t cs
  | 0, t, cs, d, ps, _, h, _ => by simp [DataW.trod] at h
  | fuel + 1, t, cs, d, ps, ht, h, hw => by
    have hkt := kidsB_spec hk ht
    unfold kidsOk at hkt
    have one : ∀ {x : Tree} {v : Value}, RepT w (oldI w) x v → TV P t [x] → x.isSc = true → Read P w t [v] := fun h1 h2 h3 => ⟨[_], RepTL.one h1, h2, fun y hy => by simp at hy; subst hy; exact h3⟩
    split at hkt
    · rename_i hu
      obtain ⟨b, rfl⟩ := trod_bool hu h
      exact one (.bool b) (.bool t b hu) rfl
    · rename_i k hu
      obtain ⟨n, rfl, hn⟩ := trod_int hu h
      exact one (.int k n) (.int t k n hu hn) rfl
    · rename_i hu
      obtain ⟨s, rfl, rfl⟩ := trod_str hu h
      have hs := RepT.str (w := w) (I := oldI w) s.data.toList
      refine one (by simpa using hs) (.str t _ hu ?_) rfl
      simp only [DataW.weights, List.all_cons, List.all_nil, Bool.and_true, decide_eq_true_eq] at hw
      exact hw
    · rename_i e hu
      simp only [Bool.and_eq_true] at hkt
      rcases trod_slice hu h with rfl | ⟨a, len, cap, elems, rest, rfl, h1, h2, h3, rfl, h4⟩
      · exact one (.slc0 none 0) (.slc t e [] hu (by simp) (by simp) (fun x hx => by simp at hx) (fun x hx => by simp at hx)) rfl
      · simp only [DataW.weights, hu, List.all_cons, Bool.and_eq_true, decide_eq_true_eq] at hw
        obtain ⟨hw1, hw2⟩ := hw
        obtain ⟨hw2, _⟩ := all_app hw2
        refine read_slice hu (Nat.le_of_ble_eq_true hkt.2) h1 (by omega) ?_ fun i hi => ?_
        · refine Nat.le_trans (Nat.mul_le_mul_right _ ?_) hw1
          simp [h3]
        · obtain ⟨c, x, hc, hx, hx2⟩ := h4 i hi
          exact ⟨c, hc, trod_read hk fuel e c x.1 x.2 ((memN_iff _ _).1 hkt.1) hx2 (weightsAll_get hw2 (by rw [List.getElem?_map, hx]; rfl))⟩
    · rename_i fs hu
      obtain ⟨hl, xs, rfl, hx1, hx2⟩ := trod_struct hu h
      simp only [DataW.weights, hu] at hw
      obtain ⟨ts, k1, k2, k3⟩ := read_parts (P := P) (w := w) (L := L) (P.cellsOf t) fs.toList 0 cs hl hkt (Nat.zero_le _) fun f hf hfL => by
        obtain ⟨i, hi, rfl⟩ := List.mem_iff_getElem.1 hf
        obtain ⟨x, e1, e2⟩ := hx2 i _ (List.getElem?_eq_getElem hi)
        exact trod_read hk fuel _ _ x.1 x.2 hfL e2 (weightsEach_get (i := i) hw (by rw [List.getElem?_map, List.getElem?_eq_getElem hi]; rfl) (by rw [List.getElem?_map, e1]; rfl))
      rw [List.drop_zero] at k1
      refine ⟨ts, k1, .struct t fs ts hu (by rw [← hl]; exact k1.1.symm) (fun f hf => ?_), k2⟩
      have := (k3 f hf).2
      rwa [Nat.sub_zero] at this
    · rename_i n e hu
      simp only [Bool.and_eq_true] at hkt
      obtain ⟨hl, xs, rfl, hx1, hx2⟩ := trod_array hu h
      simp only [DataW.weights, hu] at hw
      obtain ⟨ts, k1, k2, k3⟩ := read_elems (P := P) (w := w) (e := e) (P.cellsOf e) n 0 cs (by rw [Nat.zero_add, hl]; exact Nat.eq_of_beq_eq_true hkt.2) fun i hi => by
        obtain ⟨x, e1, e2⟩ := hx2 i hi
        rw [Nat.zero_add]
        exact trod_read hk fuel e _ x.1 x.2 ((memN_iff _ _).1 hkt.1) e2 (weightsAll_get hw (by rw [List.getElem?_map, e1]; rfl))
      rw [Nat.zero_mul, List.drop_zero] at k1
      exact ⟨ts, k1, .array t n e ts hu (by rw [← hl]; exact k1.1.symm) k3, k2⟩
    · cases hkt

/-- An argument of a row, as a tree. -/
theorem arg_read (hk : kidsB P L = true) {t : TypeId} {v : Value} {d : DataW H} {ps : List MemPlace} {base : Nat} (ht : t ∈ L) (hv : Value.okWide P w .any base t v) (h : DataW.Trod enc P w 0 sp held t v d ps) (hw : (d.weights P t).all (· ≤ reachBytes) = true) :
    ∃ x, RepT w (oldI w) x v ∧ WT P t x := by
  obtain ⟨fuel, h⟩ := h
  obtain ⟨ts, h1, h2, h3⟩ := trod_read hk fuel t _ d ps ht h hw
  refine ⟨mkTree P t ts, ?_, mkTree_WT h2 h3⟩
  unfold mkTree
  split
  · rename_i ha
    unfold Value.okWide at hv
    unfold tyAgg at ha
    have : ∃ cs, v = .agg cs := by
      split at ha
      · rename_i hu; rw [hu] at hv; obtain ⟨cs, rfl, _⟩ := hv; exact ⟨cs, rfl⟩
      · rename_i hu; rw [hu] at hv; obtain ⟨cs, rfl, _⟩ := hv; exact ⟨cs, rfl⟩
      · cases ha
      · cases ha
    obtain ⟨cs, rfl⟩ := this
    exact .agg ts cs (by simpa [Value.cells] using h1.1) h3 fun i x u hx hu => h1.2 i x u hx (by simpa [Value.cells] using hu)
  · rename_i ha
    obtain ⟨x, rfl, hx⟩ := h2.one (fun e => ha e)
    have hl := h1.1
    simp only [List.headD_cons]
    cases v with
    | agg cs =>
      exfalso
      unfold Value.okWide at hv
      unfold tyAgg at ha
      cases hu : P.underlying t with
      | none => rw [hu] at hv; simp [Cell.okWide, Cell.ok, hu] at hv
      | some dd => cases dd <;> simp [hu, Cell.okWide, Cell.ok] at hv ha
    | _ => exact h1.2 0 x _ rfl (by simp [Value.cells])

end

end Go.Proofs.Dw
end

/-
  THE ABSTRACT WALK, 34: what a row wants of a law.
-/
section
namespace Go.Proofs.Dw
open Go.RowKit

theorem Still.below {w w' : World} (h : Still w w') : Below w.heap.size w w' := ⟨h.os, h.tape, h.output, h.size, h.heap⟩

/-- Values and the trees that they are read as. -/
theorem RepTL.cons {w : World} {I : Fz} {x : Tree} {v : Value} {xs : List Tree} {vs : List Value} (h : RepT w I x v) (k : RepTL w I xs vs) : RepTL w I (x :: xs) (v :: vs) := by
  have := (RepTL.one h).append k
  exact this

theorem law_calls {P : Program} {E : Env} (hE : EnvOk P E) (hm : P.follows .mixedOrders = true) {g k : Nat} {xs : List Tree} {w : World} {vals : Array Value} (h : evP E k g xs = some (.bool true)) (hr : RepTL w (oldI w) xs vals.toList) :
    Calls P g vals w fun e w' => e = .returned (.bool true) ∧ Below w.heap.size w w' := by
  refine Calls.mono (evP_calls hE hm h hr ⟨fun b hb => hb, fun id g h => (by cases h), fun id id' g h => (by cases h)⟩) fun e w' he => ?_
  obtain ⟨v, I', rfl, h1, _, _, _, h5⟩ := he
  cases h1
  exact ⟨rfl, h5.1.below⟩

end Go.Proofs.Dw
end

/-
  THE ABSTRACT WALK, 35: a call as it is reckoned in one piece, its result made a tree where it is given back: for equations.
-/
section
namespace Go.Proofs.Dw

theorem evOps_par {F : Fns} {α : Type} {r : α} : ∀ {l : List IOper} {st : St} {K : St → Option α}, evOps F l st K = some r → ∃ st', K st' = some r ∧ ∀ {β : Type} (K' : St → Option β), evOps F l st K' = K' st'
  | [], st, K, h => ⟨st, h, fun K' => rfl⟩
  | o :: l, st, K, h => by
    simp only [evOps, evOper] at h
    obtain ⟨v, d, fp, h, hl⟩ := operV_par h
    obtain ⟨hb, h⟩ := bif_some h
    obtain ⟨st', h, e⟩ := evOps_par h
    refine ⟨st', h, fun K' => ?_⟩
    simp only [evOps, evOper]
    rw [hl _ _ (fun _ _ => rfl) (fun _ _ => rfl), hb, cond_true]
    exact e K'

theorem evDops_par {F : Fns} {bef : List Nat} {α : Type} {r : α} : ∀ {l : List IOper} {acc : List (List Nat × List Nat)} {st : St} {K : St → Option α}, evDops F bef l acc st K = some r → ∃ st', K st' = some r ∧ ∀ {β : Type} (K' : St → Option β), evDops F bef l acc st K' = K' st'
  | [], acc, st, K, h => by
    simp only [evDops] at h
    obtain ⟨hb, h⟩ := bif_some h
    exact ⟨st, h, fun K' => by simp only [evDops, hb, cond_true]⟩
  | o :: l, acc, st, K, h => by
    simp only [evDops, evOperD] at h
    obtain ⟨v, d, fp, h, hl⟩ := operV_par h
    obtain ⟨hb, h⟩ := bif_some h
    obtain ⟨st', h, e⟩ := evDops_par h
    refine ⟨st', h, fun K' => ?_⟩
    simp only [evDops, evOperD]
    rw [hl _ _ (fun _ _ => rfl) (fun _ _ => rfl), hb, cond_true]
    exact e K'

theorem norm_par {m : Nat} {live : List Nat} {st : St} {α : Type} {r : α} {K : St → Option α} (h : norm m live st K = some r) : ∃ st', K st' = some r ∧ ∀ {β : Type} (K' : St → Option β), norm m live st K' = K' st' := by
  simp only [norm] at h
  obtain ⟨hb, h⟩ := bif_some h
  exact ⟨_, h, fun K' => by simp only [norm, hb, cond_true]⟩

theorem evC_par {F : Fns} {n m : Nat} {α : Type} {r : α} : ∀ (c : ICode) (st : St) (K : IExit → St → Option α), evC F n m c st K = some r → ∃ e st', K e st' = some r ∧ ∀ {β : Type} (K' : IExit → St → Option β), evC F n m c st K' = K' e st' := by
  intro c
  induction c with
  | skip => intro st K h; exact ⟨_, _, h, fun K' => rfl⟩
  | reg ops =>
    intro st K h
    simp only [evC] at h
    obtain ⟨st', h, e⟩ := evOps_par h
    exact ⟨_, _, h, fun K' => by simp only [evC]; exact e _⟩
  | dreg ops bef =>
    intro st K h
    simp only [evC] at h
    obtain ⟨st', h, e⟩ := evDops_par h
    exact ⟨_, _, h, fun K' => by simp only [evC]; exact e _⟩
  | seq a b iha ihb =>
    intro st K h
    simp only [evC] at h
    obtain ⟨e, st', h, q⟩ := iha st _ h
    cases e with
    | normal =>
      obtain ⟨e2, st2, h, q2⟩ := ihb st' K h
      exact ⟨_, _, h, fun K' => by simp only [evC]; rw [q]; exact q2 K'⟩
    | exit i => exact ⟨_, _, h, fun K' => by simp only [evC]; rw [q]⟩
    | ret => exact ⟨_, _, h, fun K' => by simp only [evC]; rw [q]⟩
  | cond c a b iha ihb =>
    intro st K h
    simp only [evC] at h
    obtain ⟨t, h, q⟩ := asB_par h
    cases c with
    | s i =>
      simp only at h
      cases t with
      | true =>
        obtain ⟨e, st', h, q2⟩ := iha _ K h
        exact ⟨_, _, h, fun K' => by simp only [evC]; rw [q]; exact q2 K'⟩
      | false =>
        obtain ⟨e, st', h, q2⟩ := ihb _ K h
        exact ⟨_, _, h, fun K' => by simp only [evC]; rw [q]; exact q2 K'⟩
    | c v =>
      simp only at h
      cases t with
      | true =>
        obtain ⟨e, st', h, q2⟩ := iha _ K h
        exact ⟨_, _, h, fun K' => by simp only [evC]; rw [q]; exact q2 K'⟩
      | false =>
        obtain ⟨e, st', h, q2⟩ := ihb _ K h
        exact ⟨_, _, h, fun K' => by simp only [evC]; rw [q]; exact q2 K'⟩
    | f g =>
      simp only at h
      cases t with
      | true =>
        obtain ⟨e, st', h, q2⟩ := iha _ K h
        exact ⟨_, _, h, fun K' => by simp only [evC]; rw [q]; exact q2 K'⟩
      | false =>
        obtain ⟨e, st', h, q2⟩ := ihb _ K h
        exact ⟨_, _, h, fun K' => by simp only [evC]; rw [q]; exact q2 K'⟩
  | block id b ih =>
    intro st K h
    simp only [evC] at h
    obtain ⟨e, st', h, q⟩ := ih st _ h
    cases e with
    | normal => exact ⟨_, _, h, fun K' => by simp only [evC]; rw [q]⟩
    | exit i =>
      simp only at h
      cases hb : Nat.beq i id with
      | true => rw [hb, cond_true] at h; exact ⟨_, _, h, fun K' => by simp only [evC]; rw [q]; simp only [hb, cond_true]⟩
      | false => rw [hb, cond_false] at h; exact ⟨_, _, h, fun K' => by simp only [evC]; rw [q]; simp only [hb, cond_false]⟩
    | ret => exact ⟨_, _, h, fun K' => by simp only [evC]; rw [q]⟩
  | loop live b ih =>
    intro st K h
    simp only [evC] at h
    have loop : ∀ (q : Nat) (st : St), evLoop m live (fun s K' => evC F n m b s K') q st K = some r → ∃ e st', K e st' = some r ∧ ∀ {β : Type} (K' : IExit → St → Option β), evLoop m live (fun s K' => evC F n m b s K') q st K' = K' e st' := by
      intro q
      induction q with
      | zero => intro st h; simp [evLoop] at h
      | succ q ihq =>
        intro st h
        simp only [evLoop] at h
        obtain ⟨e, st', h, e1⟩ := ih st _ h
        cases e with
        | normal =>
          obtain ⟨st2, h, e2⟩ := norm_par h
          obtain ⟨e', st3, h, e3⟩ := ihq st2 h
          exact ⟨_, _, h, fun K' => by simp only [evLoop]; rw [e1]; simp only; rw [e2]; exact e3 K'⟩
        | exit i => exact ⟨_, _, h, fun K' => by simp only [evLoop]; rw [e1]⟩
        | ret => exact ⟨_, _, h, fun K' => by simp only [evLoop]; rw [e1]⟩
    obtain ⟨st1, h, e1⟩ := norm_par h
    obtain ⟨e, st', h, e2⟩ := loop n st1 h
    exact ⟨_, _, h, fun K' => by simp only [evC]; rw [e1]; exact e2 K'⟩
  | exit id => intro st K h; exact ⟨_, _, h, fun K' => rfl⟩
  | ret => intro st K h; exact ⟨_, _, h, fun K' => rfl⟩

theorem resA_par {st : St} {α : Type} {r : α} : ∀ {l : List IRes} {K : List AV → Option α}, resA st l K = some r → ∃ xs, K xs = some r ∧ ∀ {β : Type} (K' : List AV → Option β), resA st l K' = K' xs
  | [], K, h => ⟨_, h, fun K' => rfl⟩
  | .slot t :: l, K, h => by
    simp only [resA] at h
    obtain ⟨xs, h, e⟩ := resA_par h
    exact ⟨_, h, fun K' => by simp only [resA]; exact e _⟩
  | .cell t s :: l, K, h => by
    simp only [resA] at h
    split at h
    · rename_i q
      obtain ⟨v, h, e1⟩ := elemOf_par h
      obtain ⟨u, h, e2⟩ := loadBy_par h
      obtain ⟨xs, h, e⟩ := resA_par h
      exact ⟨_, h, fun K' => by simp only [resA, q]; rw [e1, e2]; exact e _⟩
    · rename_i q
      obtain ⟨u, h, e2⟩ := loadBy_par h
      obtain ⟨xs, h, e⟩ := resA_par h
      exact ⟨_, h, fun K' => by simp only [resA, q]; rw [e2]; exact e _⟩
    · rename_i q
      obtain ⟨G, h, e1⟩ := withW_par h
      obtain ⟨u, h, e2⟩ := loadW_par h
      obtain ⟨xs, h, e⟩ := resA_par h
      exact ⟨_, h, fun K' => by simp only [resA, q]; rw [e1, e2]; exact e _⟩
    · cases h

/-- A call over trees, reckoned in one piece. -/
def evQ (E : Env) (k f : Nat) (xs : List Tree) : Option Tree :=
  match E.code f with
  | none => none
  | some fi => bif E.root f then none else evC ⟨pureE E.root (runFn E k), E.rf (runFn E k), E.ok, wldOf (runFn E k)⟩ k 0 fi.body ⟨start fi.ntmps (xs.map .t), []⟩ fun e st => match e with
    | .exit _ => none
    | .normal => resA st fi.res fun l => toTree (fun _ => true) (rdH st.H) depth (oneA l)
    | .ret => resA st fi.res fun l => toTree (fun _ => true) (rdH st.H) depth (oneA l)

theorem evP_of_evQ {E : Env} {k f : Nat} {xs : List Tree} {y : Tree} (h : evQ E k f xs = some y) : evP E (k + 1) f xs = some y := by
  unfold evQ at h
  split at h
  · cases h
  · rename_i fi hfi
    cases hr : E.root f with
    | true => rw [hr, cond_true] at h; cases h
    | false =>
    rw [hr, cond_false] at h
    unfold evP pureE pureOf
    rw [hr, cond_false]
    simp only [runFn]
    obtain ⟨e, st, h, q⟩ := evC_par _ _ _ h
    simp only [hfi, List.length_nil]
    rw [q]
    cases e with
    | exit i => cases h
    | normal =>
      obtain ⟨l, h, q2⟩ := resA_par h
      simp only
      rw [q2]
      exact h
    | ret =>
      obtain ⟨l, h, q2⟩ := resA_par h
      simp only
      rw [q2]
      exact h

/-- A call that is handed the world, reckoned in one piece. -/
def evWQ (E : Env) (k f : Nat) (xs : List Tree) (G : World') : Option (Tree × World') :=
  match E.code f with
  | none => none
  | some fi => evC ⟨pureE E.root (runFn E k), E.rf (runFn E k), E.ok, wldOf (runFn E k)⟩ k 1 fi.body ⟨start fi.ntmps (xs.map .t), [.wld G]⟩ fun e st => match e with
    | .exit _ => none
    | .normal => resA st fi.res fun l => withW (rdH st.H) fun G' => (toTree (fun _ => true) (rdH st.H) depth (oneA l)).bind fun y => some (y, G')
    | .ret => resA st fi.res fun l => withW (rdH st.H) fun G' => (toTree (fun _ => true) (rdH st.H) depth (oneA l)).bind fun y => some (y, G')

theorem evW_of_evWQ {E : Env} {k f : Nat} {xs : List Tree} {G : World'} {r : Tree × World'} (h : evWQ E k f xs G = some r) : evW E (k + 1) f xs G = some r := by
  unfold evWQ at h
  unfold evW wldOf
  simp only [runFn]
  split at h
  · cases h
  · rename_i fi hfi
    obtain ⟨e, st, h, q⟩ := evC_par _ _ _ h
    simp only [hfi, List.length_singleton]
    rw [q]
    cases e with
    | exit i => cases h
    | normal =>
      obtain ⟨l, h, q2⟩ := resA_par h
      simp only
      rw [q2]
      exact h
    | ret =>
      obtain ⟨l, h, q2⟩ := resA_par h
      simp only
      rw [q2]
      exact h

end Go.Proofs.Dw
end

/-
  THE ABSTRACT WALK, 36: the reckoning from a loop's head on, under a name: for loops over lists of any length.
-/
section
namespace Go.Proofs.Dw

/-- From the head of the loop at a place of a body on: 'qs': the rounds that are left, of the loop itself first and then of those around it. -/
def evFrom {α : Type} (F : Fns) (n m : Nat) : ICode → List Nat → List Nat → St → (IExit → St → Option α) → Option α
  | .seq a b, 0 :: p, qs, st, K => evFrom F n m a p qs st fun e st' => match e with
    | .normal => evC F n m b st' K
    | .exit id => K (.exit id) st'
    | .ret => K .ret st'
  | .seq _ b, _ :: p, qs, st, K => evFrom F n m b p qs st K
  | .cond _ a _, 0 :: p, qs, st, K => evFrom F n m a p qs st K
  | .cond _ _ b, _ :: p, qs, st, K => evFrom F n m b p qs st K
  | .block id b, _ :: p, qs, st, K => evFrom F n m b p qs st fun e st' => match e with
    | .normal => K .normal st'
    | .exit i => bif Nat.beq i id then K .normal st' else K (.exit i) st'
    | .ret => K .ret st'
  | .loop live b, [], q :: _, st, K => evLoop m live (fun s K' => evC F n m b s K') q st K
  | .loop live b, _ :: p, qs, st, K => evFrom F n m b p (qs.dropLast) st fun e st' => match e with
    | .normal => norm m live st' fun st'' => evLoop m live (fun s K' => evC F n m b s K') (qs.getLastD 0) st'' K
    | .exit id => K (.exit id) st'
    | .ret => K .ret st'
  | _, _, _, _, _ => none

/-- The rest of a call over trees, from a loop's head on. -/
def evL (E : Env) (k f : Nat) (path qs : List Nat) (st : St) : Option Tree :=
  match E.code f with
  | none => none
  | some fi => evFrom ⟨pureE E.root (runFn E k), E.rf (runFn E k), E.ok, wldOf (runFn E k)⟩ k 0 fi.body path qs st fun e st => match e with
    | .exit _ => none
    | .normal => resA st fi.res fun l => toTree (fun _ => true) (rdH st.H) depth (oneA l)
    | .ret => resA st fi.res fun l => toTree (fun _ => true) (rdH st.H) depth (oneA l)

/-- The same of a call that is handed the world. -/
def evLW (E : Env) (k f : Nat) (path qs : List Nat) (st : St) : Option (Tree × World') :=
  match E.code f with
  | none => none
  | some fi => evFrom ⟨pureE E.root (runFn E k), E.rf (runFn E k), E.ok, wldOf (runFn E k)⟩ k 1 fi.body path qs st fun e st => match e with
    | .exit _ => none
    | .normal => resA st fi.res fun l => withW (rdH st.H) fun G' => (toTree (fun _ => true) (rdH st.H) depth (oneA l)).bind fun y => some (y, G')
    | .ret => resA st fi.res fun l => withW (rdH st.H) fun G' => (toTree (fun _ => true) (rdH st.H) depth (oneA l)).bind fun y => some (y, G')

end Go.Proofs.Dw
end

/-
  THE ABSTRACT WALK, 37: what a call gives, whatever the fuel from some amount on; whole numbers that fit their kinds.
-/
section
namespace Go.Proofs.Dw

/-- With fuel from c on the call gives r. -/
def Ev (E : Env) (c g : Nat) (xs : List Tree) (r : Tree) : Prop := ∀ n, c ≤ n → evP E n g xs = some r

theorem Ev.mk {E : Env} {c g : Nat} {xs : List Tree} {r : Tree} (h : ∀ n, c ≤ n → evQ E n g xs = some r) : Ev E (c + 1) g xs r := by
  intro n hn
  cases n with
  | zero => omega
  | succ n => exact evP_of_evQ (h n (by omega))

theorem Ev.mono {E : Env} {c d g : Nat} {xs : List Tree} {r : Tree} (h : Ev E c g xs r) (hd : c ≤ d) : Ev E d g xs r := fun n hn => h n (by omega)

/-- With fuel from c on the call that is handed the world gives r. -/
def EvW (E : Env) (c g : Nat) (xs : List Tree) (G : World') (y : Tree) (G' : World') : Prop := ∀ n, c ≤ n → evW E n g xs G = some (y, G')

theorem EvW.mk {E : Env} {c g : Nat} {xs : List Tree} {G : World'} {y : Tree} {G' : World'} (h : ∀ n, c ≤ n → evWQ E n g xs G = some (y, G')) : EvW E (c + 1) g xs G y G' := by
  intro n hn
  cases n with
  | zero => omega
  | succ n => exact evW_of_evWQ (h n (by omega))

theorem EvW.mono {E : Env} {c d g : Nat} {xs : List Tree} {G : World'} {y : Tree} {G' : World'} (h : EvW E c g xs G y G') (hd : c ≤ d) : EvW E d g xs G y G' := fun n hn => h n (by omega)

/-- A call that begins a world of its own. -/
theorem Ev.root {E : Env} {c g : Nat} {xs : List Tree} {y : Tree} {G' : World'} (hr : E.root g = true) (hx : noWs xs = true) (h : EvW E c g xs [] y G') (hy : noW y = true) : Ev E c g xs y := by
  intro n hn
  have := h n hn
  unfold evP pureE rootOf
  rw [hr, cond_true, hx, cond_true]
  unfold evW at this
  rw [this, Option.bind_some, hy, cond_true]

theorem w64 {x : Int} (h : -9223372036854775808 ≤ x ∧ x < 9223372036854775808) : IntKind.wrap .i64 x = x := by
  show (if (true && decide (x % 18446744073709551616 ≥ 9223372036854775808)) = true then x % 18446744073709551616 - 18446744073709551616 else x % 18446744073709551616) = x
  by_cases h2 : x % 18446744073709551616 ≥ 9223372036854775808
  · rw [if_pos (by simp [h2])]; omega
  · rw [if_neg (by simp [h2])]; omega

theorem wu64_eq (x : Int) : IntKind.wrap .u64 x = x % 18446744073709551616 := rfl

theorem wu64 {x : Int} (h : 0 ≤ x ∧ x < 18446744073709551616) : IntKind.wrap .u64 x = x := by
  rw [wu64_eq]; omega

theorem bif_pos {α : Type} {c : Bool} {x y : α} (h : c = true) : (bif c then x else y) = x := by rw [h]; rfl
theorem bif_neg {α : Type} {c : Bool} {x y : α} (h : c = false) : (bif c then x else y) = y := by rw [h]; rfl

/-- Trees of whole numbers. -/
abbrev I (x : Int) : Tree := .int .i64 x
abbrev U (x : Int) : Tree := .int .u64 x

@[simp] theorem ok_int (k : IntKind) (x : Int) : Sh.ok (.int k) (.int k x) = true := by cases k <;> rfl
@[simp] theorem ok_bool (b : Bool) : Sh.ok .bool (.bool b) = true := rfl
@[simp] theorem ok_slc (l : List Tree) : Sh.ok .slc (.slc l) = true := rfl
@[simp] theorem ok_agg (l : List Sh) (cs : List Tree) : Sh.ok (.agg l) (.agg cs) = Sh.oks l cs := rfl
@[simp] theorem ok_tup (l : List Sh) (cs : List Tree) : Sh.ok (.tup l) (.tup cs) = Sh.oks l cs := rfl
@[simp] theorem oks_nil : Sh.oks [] [] = true := rfl
@[simp] theorem oks_cons (s : Sh) (l : List Sh) (x : Tree) (r : List Tree) : Sh.oks (s :: l) (x :: r) = (Sh.ok s x && Sh.oks l r) := by
  simp only [Sh.oks]; cases Sh.ok s x <;> rfl
@[simp] theorem toInt_int (k : IntKind) (x : Int) : Tree.toInt (.int k x) = x := rfl
@[simp] theorem toBool_bool (b : Bool) : Tree.toBool (.bool b) = b := rfl
@[simp] theorem elems_slc (l : List Tree) : Tree.elems (.slc l) = l := rfl
@[simp] theorem cs_agg (l : List Tree) : Tree.cs (.agg l) = l := rfl
@[simp] theorem tupl_tup (l : List Tree) : Tree.tupl (.tup l) = l := rfl
@[simp] theorem open_int (k : IntKind) (x : Int) : Sh.open (.int k) (.int k x) = .int k x := rfl
@[simp] theorem open_bool (b : Bool) : Sh.open .bool (.bool b) = .bool b := rfl
@[simp] theorem open_slc (l : List Tree) : Sh.open .slc (.slc l) = .slc l := rfl

theorem nth_map {α β : Type} (f : α → β) : ∀ (l : List α) (i : Nat), nth (l.map f) i = (nth l i).map f
  | [], _ => rfl
  | _ :: _, 0 => rfl
  | _ :: l, i + 1 => nth_map f l i

theorem nth_app {α : Type} (x : α) (r : List α) : ∀ (l : List α), nth (l ++ x :: r) l.length = some x
  | [] => rfl
  | _ :: l => nth_app x r l

end Go.Proofs.Dw
end

/-
  THE ABSTRACT WALK, 40: a call that hands back its heap, reckoned in one piece.
-/
section
namespace Go.Proofs.Dw

def evR (E : Env) (n f : Nat) (args : List AV) (H : Heap) : Option (AV × Heap) :=
  match E.code f with
  | none => bif E.has f && E.cond f args H then E.sum f args H else none
  | some fi => evC ⟨pureE E.root (runFn E n), E.rf (runFn E n), E.ok, wldOf (runFn E n)⟩ n H.length fi.body ⟨start fi.ntmps args, H⟩ fun e st => match e with
    | .exit _ => none
    | .normal => resA st fi.res fun l => some (oneA l, st.H)
    | .ret => resA st fi.res fun l => some (oneA l, st.H)

theorem runFn_evR {E : Env} {n f : Nat} {args : List AV} {H : Heap} : runFn E (n + 1) f args H = evR E n f args H := rfl

def evLR (E : Env) (k f : Nat) (path qs : List Nat) (st : St) : Option (AV × Heap) :=
  match E.code f with
  | none => none
  | some fi => evFrom ⟨pureE E.root (runFn E k), E.rf (runFn E k), E.ok, wldOf (runFn E k)⟩ k 0 fi.body path qs st fun e st => match e with
    | .exit _ => none
    | .normal => resA st fi.res fun l => some (oneA l, st.H)
    | .ret => resA st fi.res fun l => some (oneA l, st.H)

/-- The same in a call that is handed a heap of m blocks. -/
def evLH (E : Env) (m k f : Nat) (path qs : List Nat) (st : St) : Option (AV × Heap) :=
  match E.code f with
  | none => none
  | some fi => evFrom ⟨pureE E.root (runFn E k), E.rf (runFn E k), E.ok, wldOf (runFn E k)⟩ k m fi.body path qs st fun e st => match e with
    | .exit _ => none
    | .normal => resA st fi.res fun l => some (oneA l, st.H)
    | .ret => resA st fi.res fun l => some (oneA l, st.H)

/-- With fuel from c on the call over a heap gives r. -/
def EvH (E : Env) (c g : Nat) (args : List AV) (H : Heap) (r : AV × Heap) : Prop := ∀ n, c ≤ n → runFn E n g args H = some r

theorem EvH.mk {E : Env} {c g : Nat} {args : List AV} {H : Heap} {r : AV × Heap} (h : ∀ n, c ≤ n → evR E n g args H = some r) : EvH E (c + 1) g args H r := by
  intro n hn
  cases n with
  | zero => omega
  | succ n => exact h n (by omega)

/-- With fuel from c on the call over a heap of its own gives r. -/
def EvR (E : Env) (c g : Nat) (args : List AV) (r : AV × Heap) : Prop := ∀ n, c ≤ n → runFn E n g args [] = some r

theorem EvR.mk {E : Env} {c g : Nat} {args : List AV} {r : AV × Heap} (h : ∀ n, c ≤ n → evR E n g args [] = some r) : EvR E (c + 1) g args r := by
  intro n hn
  cases n with
  | zero => omega
  | succ n => exact h n (by omega)

end Go.Proofs.Dw
end

/-
  THE ABSTRACT WALK, 39: a call cut in two: its first statements, and the rest from the state that they leave.
-/
section
namespace Go.Proofs.Dw

def takeSeq : Nat → ICode → ICode
  | 0, _ => .skip
  | k + 1, .seq a b => .seq a (takeSeq k b)
  | _ + 1, c => c

def dropSeq : Nat → ICode → ICode
  | 0, c => c
  | k + 1, .seq _ b => dropSeq k b
  | _ + 1, _ => .skip

/-- What comes behind: the code c, then K. -/
def thenK {α : Type} (F : Fns) (n m : Nat) (c : ICode) (K : IExit → St → Option α) : IExit → St → Option α := fun e st => match e with
  | .normal => evC F n m c st K
  | .exit i => K (.exit i) st
  | .ret => K .ret st

theorem evC_cut {α : Type} {F : Fns} {n m : Nat} : ∀ (k : Nat) (c : ICode) (st : St) (K : IExit → St → Option α), evC F n m c st K = evC F n m (takeSeq k c) st (thenK F n m (dropSeq k c) K)
  | 0, c, st, K => rfl
  | k + 1, .seq a b, st, K => by
    show evC F n m a st _ = evC F n m a st _
    congr 1
    funext e st'
    cases e with
    | normal => exact evC_cut k b st' K
    | exit i => rfl
    | ret => rfl
  | k + 1, .skip, st, K => rfl
  | k + 1, .reg ops, st, K => by
    show evC F n m (.reg ops) st K = evC F n m (.reg ops) st _
    congr 1
    funext e st'
    cases e <;> rfl
  | k + 1, .dreg ops bef, st, K => by
    show evC F n m (.dreg ops bef) st K = evC F n m (.dreg ops bef) st _
    congr 1
    funext e st'
    cases e <;> rfl
  | k + 1, .cond x a b, st, K => by
    show evC F n m (.cond x a b) st K = evC F n m (.cond x a b) st _
    congr 1
    funext e st'
    cases e <;> rfl
  | k + 1, .block id b, st, K => by
    show evC F n m (.block id b) st K = evC F n m (.block id b) st _
    congr 1
    funext e st'
    cases e <;> rfl
  | k + 1, .loop live b, st, K => by
    show evC F n m (.loop live b) st K = evC F n m (.loop live b) st _
    congr 1
    funext e st'
    cases e <;> rfl
  | k + 1, .exit id, st, K => rfl
  | k + 1, .ret, st, K => rfl

abbrev fnsOf (E : Env) (k : Nat) : Fns := ⟨pureE E.root (runFn E k), E.rf (runFn E k), E.ok, wldOf (runFn E k)⟩

/-- How a call ends. -/
def resK (fi : FInfo) : IExit → St → Option Tree := fun e st => match e with
  | .exit _ => none
  | .normal => resA st fi.res fun l => toTree (fun _ => true) (rdH st.H) depth (oneA l)
  | .ret => resA st fi.res fun l => toTree (fun _ => true) (rdH st.H) depth (oneA l)

theorem evQ_cut {E : Env} {n f : Nat} {fi : FInfo} {xs : List Tree} (k : Nat) (h : E.code f = some fi) (hr : E.root f = false) :
    evQ E n f xs = evC (fnsOf E n) n 0 (takeSeq k fi.body) ⟨start fi.ntmps (xs.map .t), []⟩ (thenK (fnsOf E n) n 0 (dropSeq k fi.body) (resK fi)) := by
  unfold evQ
  rw [h]
  simp only [hr, cond_false]
  exact evC_cut k fi.body _ _

/-! ### from a loop on, cut behind it -/
theorem thenK_skip {α : Type} {F : Fns} {n m : Nat} {K : IExit → St → Option α} : thenK F n m .skip K = K := by
  funext e st
  cases e <;> rfl

theorem evFrom_cut {α : Type} {F : Fns} {n m : Nat} : ∀ (j k : Nat) (c : ICode) (p qs : List Nat) (st : St) (K : IExit → St → Option α), j < k →
    evFrom F n m c (List.replicate j 1 ++ 0 :: p) qs st K = evFrom F n m (takeSeq k c) (List.replicate j 1 ++ 0 :: p) qs st (thenK F n m (dropSeq k c) K)
  | 0, k + 1, .seq a b, p, qs, st, K, _ => by
    show evFrom F n m a p qs st _ = evFrom F n m a p qs st _
    congr 1
    funext e st'
    cases e with
    | normal => exact evC_cut k b st' K
    | exit i => rfl
    | ret => rfl
  | j + 1, k + 1, .seq a b, p, qs, st, K, h => evFrom_cut j k b p qs st K (by omega)
  | j, k + 1, .skip, p, qs, st, K, _ => by simp only [takeSeq, dropSeq, thenK_skip]
  | j, k + 1, .reg ops, p, qs, st, K, _ => by simp only [takeSeq, dropSeq, thenK_skip]
  | j, k + 1, .dreg ops bef, p, qs, st, K, _ => by simp only [takeSeq, dropSeq, thenK_skip]
  | j, k + 1, .cond x a b, p, qs, st, K, _ => by simp only [takeSeq, dropSeq, thenK_skip]
  | j, k + 1, .block id b, p, qs, st, K, _ => by simp only [takeSeq, dropSeq, thenK_skip]
  | j, k + 1, .loop live b, p, qs, st, K, _ => by simp only [takeSeq, dropSeq, thenK_skip]
  | j, k + 1, .exit id, p, qs, st, K, _ => by simp only [takeSeq, dropSeq, thenK_skip]
  | j, k + 1, .ret, p, qs, st, K, _ => by simp only [takeSeq, dropSeq, thenK_skip]
  | _, 0, _, _, _, _, _, h => by omega

def resW (fi : FInfo) : IExit → St → Option (Tree × World') := fun e st => match e with
  | .exit _ => none
  | .normal => resA st fi.res fun l => withW (rdH st.H) fun G' => (toTree (fun _ => true) (rdH st.H) depth (oneA l)).bind fun y => some (y, G')
  | .ret => resA st fi.res fun l => withW (rdH st.H) fun G' => (toTree (fun _ => true) (rdH st.H) depth (oneA l)).bind fun y => some (y, G')

def resH (fi : FInfo) : IExit → St → Option (AV × Heap) := fun e st => match e with
  | .exit _ => none
  | .normal => resA st fi.res fun l => some (oneA l, st.H)
  | .ret => resA st fi.res fun l => some (oneA l, st.H)

/-- From a loop's head on; behind the first k statements comes K. -/
def evLK {α : Type} (E : Env) (m n f k : Nat) (path qs : List Nat) (st : St) (K : IExit → St → Option α) : Option α :=
  match E.code f with
  | none => none
  | some fi => evFrom ⟨pureE E.root (runFn E n), E.rf (runFn E n), E.ok, wldOf (runFn E n)⟩ n m (takeSeq k fi.body) path qs st K

/-- What comes behind the first k statements. -/
def evZ (E : Env) (n f k : Nat) (st : St) : Option Tree :=
  match E.code f with
  | none => none
  | some fi => evC ⟨pureE E.root (runFn E n), E.rf (runFn E n), E.ok, wldOf (runFn E n)⟩ n 0 (dropSeq k fi.body) st (resK fi)

def evZW (E : Env) (n f k : Nat) (st : St) : Option (Tree × World') :=
  match E.code f with
  | none => none
  | some fi => evC ⟨pureE E.root (runFn E n), E.rf (runFn E n), E.ok, wldOf (runFn E n)⟩ n 1 (dropSeq k fi.body) st (resW fi)

def evZH (E : Env) (m n f k : Nat) (st : St) : Option (AV × Heap) :=
  match E.code f with
  | none => none
  | some fi => evC ⟨pureE E.root (runFn E n), E.rf (runFn E n), E.ok, wldOf (runFn E n)⟩ n m (dropSeq k fi.body) st (resH fi)

def endQ (E : Env) (f : Nat) (e : IExit) (st : St) : Option Tree :=
  match E.code f with
  | none => none
  | some fi => resK fi e st

def endW (E : Env) (f : Nat) (e : IExit) (st : St) : Option (Tree × World') :=
  match E.code f with
  | none => none
  | some fi => resW fi e st

def endH (E : Env) (f : Nat) (e : IExit) (st : St) : Option (AV × Heap) :=
  match E.code f with
  | none => none
  | some fi => resH fi e st

/-- The loop's end: K, where it ends of itself. -/
def onQ (E : Env) (f : Nat) (K : St → Option Tree) : IExit → St → Option Tree := fun e st => match e with
  | .normal => K st
  | e => endQ E f e st

def onW (E : Env) (f : Nat) (K : St → Option (Tree × World')) : IExit → St → Option (Tree × World') := fun e st => match e with
  | .normal => K st
  | e => endW E f e st

def onH (E : Env) (f : Nat) (K : St → Option (AV × Heap)) : IExit → St → Option (AV × Heap) := fun e st => match e with
  | .normal => K st
  | e => endH E f e st

theorem evL_cut {E : Env} {n f : Nat} {j : Nat} {p qs : List Nat} {st : St} (k : Nat) (h : j < k) : evL E n f (List.replicate j 1 ++ 0 :: p) qs st = evLK E 0 n f k (List.replicate j 1 ++ 0 :: p) qs st (onQ E f (evZ E n f k)) := by
  unfold evL evLK
  cases hc : E.code f with
  | none => rfl
  | some fi =>
    simp only
    rw [evFrom_cut j k _ _ _ _ _ h]
    congr 1
    funext e st'
    cases e with
    | normal => simp only [thenK, onQ, evZ, hc]; rfl
    | exit i => simp only [thenK, onQ, endQ, hc, resK]
    | ret => simp only [thenK, onQ, endQ, hc, resK]

theorem evLW_cut {E : Env} {n f : Nat} {j : Nat} {p qs : List Nat} {st : St} (k : Nat) (h : j < k) : evLW E n f (List.replicate j 1 ++ 0 :: p) qs st = evLK E 1 n f k (List.replicate j 1 ++ 0 :: p) qs st (onW E f (evZW E n f k)) := by
  unfold evLW evLK
  cases hc : E.code f with
  | none => rfl
  | some fi =>
    simp only
    rw [evFrom_cut j k _ _ _ _ _ h]
    congr 1
    funext e st'
    cases e with
    | normal => simp only [thenK, onW, evZW, hc]; rfl
    | exit i => simp only [thenK, onW, endW, hc, resW]
    | ret => simp only [thenK, onW, endW, hc, resW]

theorem evLH_cut {E : Env} {m n f : Nat} {j : Nat} {p qs : List Nat} {st : St} (k : Nat) (h : j < k) : evLH E m n f (List.replicate j 1 ++ 0 :: p) qs st = evLK E m n f k (List.replicate j 1 ++ 0 :: p) qs st (onH E f (evZH E m n f k)) := by
  unfold evLH evLK
  cases hc : E.code f with
  | none => rfl
  | some fi =>
    simp only
    rw [evFrom_cut j k _ _ _ _ _ h]
    congr 1
    funext e st'
    cases e with
    | normal => simp only [thenK, onH, evZH, hc]; rfl
    | exit i => simp only [thenK, onH, endH, hc, resH]
    | ret => simp only [thenK, onH, endH, hc, resH]

end Go.Proofs.Dw
end
