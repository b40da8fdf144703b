/- THE ABSTRACT WALK: a reckoning of the code on trees, and why it is right. -/
import Derived.Test.YtfkidinbolmkiaaBw3
import Derived.Orders
import Derived.LoopN
import Derived.Shelf.Sort.AssemblyIn
import Derived.Shelf.Slices.In.SortNone
import GoSem.ClaimChange
import GoSem.ClaimJoined
import Derived.SizedLaws
import Derived.Below
set_option linter.unusedSimpArgs false
set_option linter.unusedVariables false

/-
  THE ABSTRACT WALK, 27: regions that draw their order: operations that do not look at each other may change places.
-/
section
namespace Go.Proofs.Bw

/-! ### one operation, wherever it comes -/
theorem setN_slot : ∀ (ts : List AV) (g : Nat), setN ts g (slot ts g) = ts
  | [], _ => rfl
  | x :: l, 0 => rfl
  | x :: l, g + 1 => by simp only [setN, slot, setN_slot l g]

theorem setB_same {ts : List AV} {g : Nat} {b : Bool} (h : slot ts g = .t (.bool b)) : setB ts g b = ts := by
  unfold setB; rw [← h]; exact setN_slot ts g

/-- Wherever the slots and the blocks that it looks at are the same, it does the same. -/
def Loc (F : Fns) (o : IOper) (c : Nat) (v : AV) (d : Delta) (fp : List Nat × List Nat) (ts : List AV) (rd : Rd) : Prop :=
  ∀ (ts' : List AV) (rd' : Rd), (∀ t, t ∈ o.looks → slot ts' t = slot ts t) → (∀ b, inF fp b → rd' b = rd b) → ∀ {β : Type} (K' : List AV → Delta → List Nat × List Nat → Option β), operV F o ts' rd' c K' = K' (putS ts' o.dst v) d fp

theorem operV_par {F : Fns} {o : IOper} {ts : List AV} {rd : Rd} {c : Nat} {α : Type} {r : α} {K : List AV → Delta → List Nat × List Nat → Option α} (h : operV F o ts rd c K = some r) :
    ∃ v d fp, K (putS ts o.dst v) d fp = some r ∧ Loc F o c v d fp ts rd := by
  have run : ∀ {ts1 : List AV}, ts1 = ts → evOp F o.op ts1 rd c (fun v d => K (putS ts1 o.dst v) d (foot o.op ts1 rd)) = some r → ∃ v d fp, K (putS ts o.dst v) d fp = some r ∧
      ∀ (ts' : List AV) (rd' : Rd), (∀ t, t ∈ o.op.slots → slot ts' t = slot ts t) → (∀ b, inF fp b → rd' b = rd b) → ∀ {β : Type} (K' : List AV → Delta → List Nat × List Nat → Option β),
        evOp F o.op ts' rd' c (fun v d => K' (putS ts' o.dst v) d (foot o.op ts' rd')) = K' (putS ts' o.dst v) d fp := by
    intro ts1 e h0
    rw [e] at h0
    obtain ⟨v, d, h0, e⟩ := evOp_par h0
    refine ⟨v, d, _, h0, fun ts' rd' h1 h2 β K' => ?_⟩
    obtain ⟨k1, k2⟩ := evOp_congr (F := F) (c := c) (α := β) h1 h2
    rw [k1, e, k2]
  unfold operV at h
  cases hg : o.g with
  | none =>
    simp only [hg] at h
    obtain ⟨v, d, fp, h, e⟩ := run rfl h
    refine ⟨v, d, fp, h, fun ts' rd' h1 h2 β K' => ?_⟩
    unfold operV
    simp only [hg]
    exact e ts' rd' (fun t ht => h1 t (by simp [IOper.looks, hg, ht])) h2 K'
  | some q =>
    obtain ⟨g, want⟩ := q
    simp only [hg] at h
    have hl : ∀ {ts' : List AV}, (∀ t, t ∈ o.looks → slot ts' t = slot ts t) → slot ts' g = slot ts g := fun h1 => h1 g (by simp [IOper.looks, hg])
    split at h
    · rename_i b hb
      have hsame := setB_same hb
      have done : b = want → evOp F o.op (setB ts g b) rd c (fun v d => K (putS (setB ts g b) o.dst v) d (foot o.op (setB ts g b) rd)) = some r → ∃ v d fp, K (putS ts o.dst v) d fp = some r ∧ Loc F o c v d fp ts rd := by
        intro hw h
        obtain ⟨v, d, fp, h, e⟩ := run hsame h
        refine ⟨v, d, fp, h, fun ts' rd' h1 h2 β K' => ?_⟩
        have hs' : slot ts' g = .t (.bool b) := (hl h1).trans hb
        have := e ts' rd' (fun t ht => h1 t (by simp [IOper.looks, hg, ht])) h2 K'
        unfold operV
        subst hw
        have e2 := setB_same hs'
        cases b <;> simp only [hg, hs', cond_true, cond_false] <;> rw [e2] <;> exact this
      have pass : b ≠ want → K (putS (setB ts g b) o.dst .undef) .none ([], []) = some r → ∃ v d fp, K (putS ts o.dst v) d fp = some r ∧ Loc F o c v d fp ts rd := by
        intro hw h
        rw [hsame] at h
        refine ⟨_, _, _, h, fun ts' rd' h1 h2 β K' => ?_⟩
        have hs' : slot ts' g = .t (.bool b) := (hl h1).trans hb
        have e2 := setB_same hs'
        unfold operV
        cases b <;> cases want <;> first | exact absurd rfl hw | (simp only [hg, hs', cond_true, cond_false]; rw [e2])
      cases b <;> cases want <;> simp only [cond_true, cond_false] at h
      · exact done rfl h
      · exact pass (by simp) h
      · exact pass (by simp) h
      · exact done rfl h
    · rename_i hb
      refine ⟨_, _, _, h, fun ts' rd' h1 h2 β K' => ?_⟩
      have hs' : slot ts' g = .undef := (hl h1).trans hb
      unfold operV
      simp only [hg, hs']
    · cases h

/-! ### operations one behind the other -/
structure DStep where
  o : Oper
  o' : IOper
  i : Nat
  c : Nat
  v : AV
  d : Delta
  fp : List Nat × List Nat

structure StepOk (F : Fns) (s : DStep) (ts : List AV) (rd : Rd) : Prop where
  loc : Loc F s.o' s.c s.v s.d s.fp ts rd
  fresh : ∀ y, s.c ≤ y → y < s.c + s.d.nw.length → rd y = .unborn
  keys : ∀ b o, (b, o) ∈ s.d.wr → b ∈ s.fp.2

inductive Chain (F : Fns) : List DStep → List AV → Rd → List AV → Rd → Prop where
  | nil (ts : List AV) (rd : Rd) : Chain F [] ts rd ts rd
  | cons (s : DStep) (l : List DStep) (ts : List AV) (rd : Rd) (ts2 : List AV) (rd2 : Rd) (h : StepOk F s ts rd) (t : Chain F l (putS ts s.o'.dst s.v) (appRd rd s.c s.d) ts2 rd2) : Chain F (s :: l) ts rd ts2 rd2

/-- What it writes. -/
def DStep.w (s : DStep) (b : Nat) : Prop := b ∈ s.fp.2 ∨ (s.c ≤ b ∧ b < s.c + s.d.nw.length)

structure Ind (a i : DStep) : Prop where
  d1 : ∀ t, a.o'.dst = some t → t ∉ i.o'.looks
  d2 : ∀ t, i.o'.dst = some t → t ∉ a.o'.looks
  d3 : ∀ t, a.o'.dst = some t → i.o'.dst = some t → False
  w1 : ∀ b, a.w b → ¬ inF i.fp b
  w2 : ∀ b, i.w b → ¬ inF a.fp b
  w3 : ∀ b, a.w b → ¬ i.w b

theorem slot_setN_ne : ∀ (ts : List AV) (d t : Nat) (v : AV), d ≠ t → slot (setN ts d v) t = slot ts t
  | [], _, _, _, _ => rfl
  | x :: l, 0, 0, _, h => absurd rfl h
  | x :: l, 0, t + 1, _, _ => rfl
  | x :: l, d + 1, 0, _, _ => rfl
  | x :: l, d + 1, t + 1, v, h => by simp only [setN, slot]; exact slot_setN_ne l d t v (by omega)

theorem slot_putS {ts : List AV} {d : Option Nat} {v : AV} {t : Nat} (h : d ≠ some t) : slot (putS ts d v) t = slot ts t := by
  cases d with
  | none => rfl
  | some d => exact slot_setN_ne ts d t v (fun e => h (by rw [e]))

theorem setN_comm : ∀ (ts : List AV) (d e : Nat) (u v : AV), d ≠ e → setN (setN ts d u) e v = setN (setN ts e v) d u
  | [], _, _, _, _, _ => rfl
  | x :: l, 0, 0, _, _, h => absurd rfl h
  | x :: l, 0, e + 1, _, _, _ => rfl
  | x :: l, d + 1, 0, _, _, _ => rfl
  | x :: l, d + 1, e + 1, u, v, h => by simp only [setN]; rw [setN_comm l d e u v (by omega)]

theorem appRd_get (rd : Rd) (c : Nat) (d : Delta) (b : Nat) (h1 : ∀ o, (b, o) ∉ d.wr) (h2 : ¬ (c ≤ b ∧ b < c + d.nw.length)) : appRd rd c d b = rd b := by
  unfold appRd
  rw [if_neg h2]
  rcases wrR_get d.wr rd b with ⟨h, _⟩ | ⟨o, h, _⟩
  · exact h
  · exact absurd h (h1 o)

/-- What an operation leaves alone. -/
theorem StepOk.same {F : Fns} {s : DStep} {ts : List AV} {rd rd1 : Rd} (h : StepOk F s ts rd) {b : Nat} (hb : ¬ s.w b) : appRd rd1 s.c s.d b = rd1 b :=
  appRd_get rd1 s.c s.d b (fun o ho => hb (.inl (h.keys b o ho))) (fun hr => hb (.inr hr))

/-- What an operation leaves where it writes does not hang on what was there. -/
theorem wrR_over : ∀ (wr : List (Nat × HObj)) (rd rd1 : Rd) (b : Nat), rd1 b = rd b → wrR rd1 wr b = wrR rd wr b
  | [], _, _, _, h => h
  | (x, o) :: r, rd, rd1, b, h => by
    simp only [wrR]
    apply wrR_over
    simp only [upd]
    split
    · rfl
    · exact h

theorem wrR_mem : ∀ (wr : List (Nat × HObj)) (rd rd1 : Rd) (b : Nat), (∃ o, (b, o) ∈ wr) → wrR rd1 wr b = wrR rd wr b
  | [], _, _, _, ⟨o, h⟩ => by simp at h
  | (x, o) :: r, rd, rd1, b, ⟨o', h⟩ => by
    simp only [wrR]
    by_cases hx : b = x
    · subst hx; exact wrR_over r _ _ b (by simp [upd])
    · exact wrR_mem r _ _ b (by
        rcases List.mem_cons.1 h with h | h
        · cases h; exact absurd rfl hx
        · exact ⟨o', h⟩)

theorem appRd_over (rd rd1 : Rd) (c : Nat) (d : Delta) (b : Nat) (h : rd1 b = rd b) : appRd rd1 c d b = appRd rd c d b := by
  unfold appRd
  split
  · rfl
  · exact wrR_over d.wr rd rd1 b h

theorem swap {F : Fns} {a i : DStep} {ts : List AV} {rd : Rd} (ha : StepOk F a ts rd) (hi : StepOk F i (putS ts a.o'.dst a.v) (appRd rd a.c a.d)) (hin : Ind a i) :
    StepOk F i ts rd ∧ StepOk F a (putS ts i.o'.dst i.v) (appRd rd i.c i.d) ∧ putS (putS ts a.o'.dst a.v) i.o'.dst i.v = putS (putS ts i.o'.dst i.v) a.o'.dst a.v ∧
      appRd (appRd rd a.c a.d) i.c i.d = appRd (appRd rd i.c i.d) a.c a.d := by
  have sl : ∀ t, t ∈ i.o'.looks → slot (putS ts a.o'.dst a.v) t = slot ts t := fun t ht => slot_putS fun e => hin.d1 t e ht
  have sl2 : ∀ t, t ∈ a.o'.looks → slot (putS ts i.o'.dst i.v) t = slot ts t := fun t ht => slot_putS fun e => hin.d2 t e ht
  refine ⟨⟨fun ts' rd' h1 h2 => hi.loc ts' rd' (fun t ht => (h1 t ht).trans (sl t ht).symm) (fun b hb => (h2 b hb).trans (ha.same (fun hw => hin.w1 b hw hb)).symm), fun y h1 h2 => ?_, hi.keys⟩,
    ⟨fun ts' rd' h1 h2 => ha.loc ts' rd' (fun t ht => (h1 t ht).trans (sl2 t ht)) (fun b hb => (h2 b hb).trans (hi.same (fun hw => hin.w2 b hw hb))), fun y h1 h2 => ?_, ha.keys⟩, ?_, ?_⟩
  · have := hi.fresh y h1 h2
    rwa [ha.same (fun hw => hin.w3 y hw (.inr ⟨h1, h2⟩))] at this
  · rw [hi.same (fun hw => hin.w3 y (.inr ⟨h1, h2⟩) hw)]
    exact ha.fresh y h1 h2
  · cases h1 : a.o'.dst with
    | none => rfl
    | some d =>
      cases h2 : i.o'.dst with
      | none => rfl
      | some e => exact setN_comm ts d e a.v i.v fun he => hin.d3 d h1 (by rw [h2, he])
  · funext y
    by_cases hw : a.w y
    · have hni : ¬ i.w y := hin.w3 y hw
      rw [hi.same hni]
      exact (appRd_over rd _ a.c a.d y (hi.same hni)).symm
    · rw [ha.same (rd1 := appRd rd i.c i.d) hw]
      exact appRd_over rd _ i.c i.d y (ha.same hw)

theorem Chain.front {F : Fns} {i : DStep} {B : List DStep} {ts2 : List AV} {rd2 : Rd} : ∀ (A : List DStep) {ts : List AV} {rd : Rd}, Chain F (A ++ i :: B) ts rd ts2 rd2 → (∀ a, a ∈ A → Ind a i) → Chain F (i :: (A ++ B)) ts rd ts2 rd2
  | [], ts, rd, h, _ => h
  | a :: A, ts, rd, h, hin => by
    cases h with
    | cons _ _ _ _ _ _ h1 h2 =>
      have := Chain.front A h2 fun x hx => hin x (by simp [hx])
      cases this with
      | cons _ _ _ _ _ _ k1 k2 =>
        obtain ⟨e1, e2, e3, e4⟩ := swap h1 k1 (hin a (by simp))
        rw [e3, e4] at k2
        exact .cons _ _ _ _ _ _ e1 (.cons _ _ _ _ _ _ e2 k2)

end Go.Proofs.Bw
end

/-
  THE ABSTRACT WALK, 28: regions that draw their order.
-/
section
namespace Go.Proofs.Bw

theorem apartN_spec : ∀ {l m : List Nat}, apartN l m = true → ∀ x, x ∈ l → x ∉ m
  | [], _, _, x, h => by simp at h
  | y :: l, m, h, x, hx => by
    simp only [apartN] at h
    obtain ⟨h1, h2⟩ : memN m y = false ∧ apartN l m = true := by
      cases hq : memN m y with
      | true => rw [hq] at h; cases h
      | false => rw [hq] at h; exact ⟨rfl, h⟩
    rcases List.mem_cons.1 hx with e | e
    · subst e; intro hm; rw [(memN_iff m x).2 hm] at h1; cases h1
    · exact apartN_spec h2 x e

theorem mem_fromN : ∀ (n c b : Nat), b ∈ fromN c n ↔ c ≤ b ∧ b < c + n
  | 0, c, b => by simp [fromN]
  | n + 1, c, b => by
    simp only [fromN, List.mem_cons, mem_fromN n (c + 1) b]
    omega

theorem subN_spec : ∀ {l m : List Nat}, subN l m = true → ∀ x, x ∈ l → x ∈ m
  | [], _, _, x, h => by simp at h
  | y :: l, m, h, x, hx => by
    simp only [subN] at h
    obtain ⟨h1, h2⟩ : memN m y = true ∧ subN l m = true := by
      cases hq : memN m y with
      | true => rw [hq] at h; exact ⟨rfl, h⟩
      | false => rw [hq] at h; cases h
    rcases List.mem_cons.1 hx with e | e
    · subst e; exact (memN_iff m x).1 h1
    · exact subN_spec h2 x e

theorem keysN_mem : ∀ {l : List (Nat × HObj)} {b : Nat} {o : HObj}, (b, o) ∈ l → b ∈ keysN l
  | [], b, o, h => by simp at h
  | (x, y) :: l, b, o, h => by
    simp only [keysN, List.mem_cons]
    rcases List.mem_cons.1 h with e | e
    · cases e; exact .inl rfl
    · exact .inr (keysN_mem e)

theorem biff {c x : Bool} (h : (bif c then x else false) = true) : c = true ∧ x = true := by cases c <;> simp_all

theorem clearOf_spec : ∀ {i : Nat} {a : List Nat × List Nat} {bef : List Nat} {fps : List (List Nat × List Nat)} {q : Nat} {m : Nat} {b : List Nat × List Nat}, clearOf i a bef fps = true → bef[q]? = some m → fps[q]? = some b →
    Nat.testBit m i = true ∨ clash a b = false
  | i, a, [], fps, q, m, b, _, h, _ => by simp at h
  | i, a, _ :: _, [], q, m, b, _, _, h => by simp at h
  | i, a, m :: bef, b :: fps, 0, m', b', h, h1, h2 => by
    simp at h1 h2; subst h1; subst h2
    have := (biff h).1
    simpa using this
  | i, a, m :: bef, b :: fps, q + 1, m', b', h, h1, h2 => clearOf_spec (biff h).2 (by simpa using h1) (by simpa using h2)

theorem allClear_spec : ∀ {i : Nat} {bef : List Nat} {fps : List (List Nat × List Nat)} {p q m : Nat} {a b : List Nat × List Nat}, allClear i bef fps = true → p < q → fps[p]? = some a → bef[q]? = some m → fps[q]? = some b →
    Nat.testBit m (i + p) = true ∨ clash a b = false
  | i, [], fps, p, q, m, a, b, _, _, _, h, _ => by simp at h
  | i, _ :: _, [], p, q, m, a, b, _, _, h, _, _ => by simp at h
  | i, m :: bef, x :: fps, 0, q + 1, m', a, b, h, _, h1, h2, h3 => by
    simp at h1; subst h1
    exact clearOf_spec (biff h).1 (by simpa using h2) (by simpa using h3)
  | i, m :: bef, x :: fps, p + 1, q + 1, m', a, b, h, hpq, h1, h2, h3 => by
    have := allClear_spec (p := p) (q := q) (biff h).2 (by omega) (by simpa using h1) (by simpa using h2) (by simpa using h3)
    rwa [show i + 1 + p = i + (p + 1) by omega] at this
  | i, _, _, _, 0, _, _, _, _, hpq, _, _, _ => by omega

theorem slotsFrom_spec : ∀ {i : Nat} {a : IOper} {bef : List Nat} {l : List IOper} {q : Nat} {m : Nat} {b : IOper}, slotsFrom i a bef l = true → bef[q]? = some m → l[q]? = some b →
    Nat.testBit m i = true ∨ (pairOk a b = true ∧ pairOk b a = true)
  | i, a, [], l, q, m, b, _, h, _ => by simp at h
  | i, a, _ :: _, [], q, m, b, _, _, h => by simp at h
  | i, a, m :: bef, b :: l, 0, m', b', h, h1, h2 => by
    simp at h1 h2; subst h1; subst h2
    have := (biff h).1
    simpa using this
  | i, a, m :: bef, b :: l, q + 1, m', b', h, h1, h2 => slotsFrom_spec (biff h).2 (by simpa using h1) (by simpa using h2)

theorem slotsClear_spec : ∀ {i : Nat} {bef : List Nat} {l : List IOper} {p q m : Nat} {a b : IOper}, slotsClear i bef l = true → p < q → l[p]? = some a → bef[q]? = some m → l[q]? = some b →
    Nat.testBit m (i + p) = true ∨ (pairOk a b = true ∧ pairOk b a = true)
  | i, [], l, p, q, m, a, b, _, _, _, h, _ => by simp at h
  | i, _ :: _, [], p, q, m, a, b, _, _, h, _, _ => by simp at h
  | i, m :: bef, x :: l, 0, q + 1, m', a, b, h, _, h1, h2, h3 => by
    simp at h1; subst h1
    exact slotsFrom_spec (biff h).1 (by simpa using h2) (by simpa using h3)
  | i, m :: bef, x :: l, p + 1, q + 1, m', a, b, h, hpq, h1, h2, h3 => by
    have := slotsClear_spec (p := p) (q := q) (biff h).2 (by omega) (by simpa using h1) (by simpa using h2) (by simpa using h3)
    rwa [show i + 1 + p = i + (p + 1) by omega] at this
  | i, _, _, _, 0, _, _, _, _, hpq, _, _, _ => by omega

theorem pairOk_spec {a b : IOper} (h : pairOk a b = true) : (∀ t, a.dst = some t → t ∉ b.looks) ∧ (∀ t, a.dst = some t → b.dst = some t → False) := by
  unfold pairOk at h
  cases ha : a.dst with
  | none => exact ⟨fun t h => (by cases h), fun t h => (by cases h)⟩
  | some d =>
    simp only [ha, Bool.and_eq_true, Bool.not_eq_true'] at h
    refine ⟨fun t ht hm => ?_, fun t ht hb => ?_⟩
    · cases ht; rw [(memN_iff _ _).2 hm] at h; cases h.1
    · cases ht
      rw [hb] at h
      simp at h

/-- The list of the steps, with what each may not meet. -/
def DStep.foot (s : DStep) : List Nat × List Nat := footN s.fp s.c s.d.nw

theorem ind_of {a b : DStep} (h1 : clash a.foot b.foot = false) (h2 : pairOk a.o' b.o' = true) (h3 : pairOk b.o' a.o' = true) : Ind a b := by
  have hc : apartN a.foot.2 b.foot.1 = true ∧ apartN a.foot.2 b.foot.2 = true ∧ apartN a.foot.1 b.foot.2 = true := by
    unfold clash at h1
    simpa using h1
  have wf : ∀ (s : DStep) (x : Nat), s.w x → x ∈ s.foot.2 := fun s x hx => by
    simp only [DStep.foot, footN, List.mem_append, mem_fromN]
    exact hx
  obtain ⟨p1, p2⟩ := pairOk_spec h2
  obtain ⟨q1, _⟩ := pairOk_spec h3
  refine ⟨p1, q1, p2, fun x hx hf => ?_, fun x hx hf => ?_, fun x hx hy => apartN_spec hc.2.1 x (wf a x hx) (wf b x hy)⟩
  · rcases hf with hf | hf
    · exact apartN_spec hc.1 x (wf a x hx) hf
    · exact apartN_spec hc.2.1 x (wf a x hx) (wf b x (.inl hf))
  · rcases hf with hf | hf
    · exact apartN_spec hc.2.2 x hf (wf b x hx)
    · exact apartN_spec hc.2.1 x (wf a x (.inl hf)) (wf b x hx)

/-- The reckoning in the text's order, as a chain. -/
theorem evDops_chain {F : Fns} {bef : List Nat} {P : Program} {rs : List Nat} {ops : Array Oper} {α : Type} {r : α} {K : St → Option α} : ∀ (l : List Oper) (l' : List IOper) (acc : List (List Nat × List Nat)) (st : St) (k : Nat), mapO (compOper P rs ops) l = some l' →
    evDops F bef l' acc st K = some r → ∃ (R : List DStep) (st' : St), Chain F R st.ts (rdH st.H) st'.ts (rdH st'.H) ∧ K st' = some r ∧ allClear 0 bef (acc ++ R.map DStep.foot) = true ∧
      R.map (·.o) = l ∧ R.map (·.o') = l' ∧ (∀ (q : Nat) s, R[q]? = some s → s.i = k + q ∧ compOper P rs ops s.o = some s.o')
  | [], l', acc, st, k, hl, h => by
    simp [mapO] at hl; subst hl
    simp only [evDops] at h
    obtain ⟨hb, h⟩ := bif_some h
    exact ⟨[], st, .nil _ _, h, by simpa using hb, rfl, rfl, fun q s h => by simp at h⟩
  | o :: l, l', acc, st, k, hl, h => by
    simp only [mapO] at hl
    split at hl
    · rename_i o' ho
      split at hl
      · rename_i r' hr'
        cases hl
        simp only [evDops, evOperD] at h
        obtain ⟨v, d, fp, h, hloc⟩ := operV_par h
        obtain ⟨hb, h⟩ := bif_some h
        simp only [Bool.and_eq_true] at hb
        obtain ⟨R, st', h1, h2, h3, h4, h5, h6⟩ := evDops_chain l r' _ _ (k + 1) hr' h
        have e := rdH_to d st.H (belowN_spec hb.1)
        refine ⟨⟨o, o', k, st.H.length, v, d, fp⟩ :: R, st', .cons _ _ _ _ _ _ ⟨hloc, fun y hy _ => rdH_unborn _ _ hy, fun b ob hm => subN_spec hb.2 b (keysN_mem hm)⟩ ?_, h2, ?_, by simp [h4], by simp [h5], fun q s hq => ?_⟩
        · rw [← e]; exact h1
        · simpa [DStep.foot, List.append_assoc] using h3
        · cases q with
          | zero => simp at hq; subst hq; exact ⟨rfl, ho⟩
          | succ q =>
            obtain ⟨e1, e2⟩ := h6 q s (by simpa using hq)
            exact ⟨by rw [e1]; omega, e2⟩
      · cases hl
    · cases hl

/-! ### what comes ahead -/
theorem befBits_spec {acc : List Nat} {k : Nat} : ∀ {a : List Nat}, Nat.testBit (befBits acc a) k = true → ∃ e, e ∈ a ∧ (k = e ∨ ∃ m, acc[e]? = some m ∧ Nat.testBit m k = true)
  | [], h => by simp [befBits] at h
  | e :: r, h => by
    simp only [befBits, Nat.testBit_or, Bool.or_eq_true] at h
    rcases h with h | h | h
    · obtain ⟨e', h1, h2⟩ := befBits_spec h
      exact ⟨e', List.mem_cons_of_mem _ h1, h2⟩
    · rw [Nat.testBit_two_pow] at h
      have h' : e = k := by simpa using h
      exact ⟨e, by simp, .inl h'.symm⟩
    · rw [nth_eq] at h
      cases hq : acc[e]? with
      | none => simp [hq] at h
      | some m => simp only [hq] at h; exact ⟨e, by simp, .inr ⟨m, hq, h⟩⟩

theorem befGo_prefix : ∀ (afs : List (List Nat)) (acc : List Nat), ∃ t, befGo afs acc = acc ++ t ∧ t.length = afs.length
  | [], acc => ⟨[], by simp [befGo]⟩
  | a :: r, acc => by
    obtain ⟨t, h1, h2⟩ := befGo_prefix r (acc ++ [befBits acc a])
    exact ⟨befBits acc a :: t, by simp [befGo, h1], by simp [h2]⟩

theorem befGo_get : ∀ (afs : List (List Nat)) (acc : List Nat) (i : Nat) (a : List Nat), afs[i]? = some a → ∃ acc', (befGo afs acc)[acc.length + i]? = some (befBits acc' a) ∧ ∀ (e m : Nat), acc'[e]? = some m → (befGo afs acc)[e]? = some m
  | [], acc, i, a, h => by simp at h
  | x :: r, acc, 0, a, h => by
    simp at h; subst h
    obtain ⟨t, h1, h2⟩ := befGo_prefix r (acc ++ [befBits acc x])
    refine ⟨acc, ?_, fun e m he => ?_⟩
    · simp only [befGo, h1, Nat.add_zero]; simp
    · simp only [befGo, h1]
      rw [List.append_assoc, List.getElem?_append_left (List.getElem?_eq_some_iff.1 he).1]
      exact he
  | x :: r, acc, i + 1, a, h => by
    obtain ⟨acc', h1, h2⟩ := befGo_get r (acc ++ [befBits acc x]) i a (by simpa using h)
    refine ⟨acc', ?_, h2⟩
    simp only [befGo]
    rw [show acc.length + (i + 1) = (acc ++ [befBits acc x]).length + i by simp; omega]
    exact h1

theorem readyIn_spec {done : List Nat} : ∀ {afs : List (List Nat)} {k i : Nat}, readyIn done k afs = some i → ∃ a, k ≤ i ∧ afs[i - k]? = some a ∧ i ∉ done ∧ ∀ e, e ∈ a → e ∈ done
  | [], k, i, h => by simp [readyIn] at h
  | a :: r, k, i, h => by
    simp only [readyIn] at h
    cases hb : (!memN done k && subN a done) with
    | true =>
      rw [hb, cond_true] at h; cases h
      simp only [Bool.and_eq_true, Bool.not_eq_true'] at hb
      refine ⟨a, Nat.le_refl _, by simp, fun hm => ?_, subN_spec hb.2⟩
      rw [(memN_iff _ _).2 hm] at hb; cases hb.1
    | false =>
      rw [hb, cond_false] at h
      obtain ⟨a', h1, h2, h3, h4⟩ := readyIn_spec h
      exact ⟨a', by omega, by rw [show i - k = (i - (k + 1)) + 1 by omega]; simpa using h2, h3, h4⟩

theorem acyc_spec {afs : List (List Nat)} (L : Nat → Prop) : ∀ (n : Nat) (done : List Nat), acyc afs n done = true → (∀ x, x ∈ done → L x) → (∃ i, i < afs.length ∧ ¬ L i) → ∃ i a, afs[i]? = some a ∧ ¬ L i ∧ ∀ e, e ∈ a → L e
  | 0, done, h, hd, ⟨i, hi, hn⟩ => by
    simp only [acyc] at h
    exact absurd (hd i (subN_spec h i (List.mem_of_getElem? (upTo_get _ i hi)))) hn
  | n + 1, done, h, hd, ⟨i, hi, hn⟩ => by
    simp only [acyc] at h
    split at h
    · rename_i j hj
      obtain ⟨a, h1, h2, h3, h4⟩ := readyIn_spec hj
      by_cases hL : L j
      · refine acyc_spec L n (j :: done) h (fun x hx => ?_) ⟨i, hi, hn⟩
        rcases List.mem_cons.1 hx with e | e
        · subst e; exact hL
        · exact hd x e
      · exact ⟨j, a, by simpa using h2, hL, fun e he => hd e (h4 e he)⟩
    · exact absurd (hd i (subN_spec h i (List.mem_of_getElem? (upTo_get _ i hi)))) hn

theorem mem_ready {ops : Array Oper} {listed : Array Bool} {i : Nat} (hsz : listed.size = ops.size) : i ∈ Region.ready .any ops listed ↔ ∃ o, ops[i]? = some o ∧ listed[i]? = some false ∧ ∀ e, e ∈ afterOf o → listed[e]? = some true := by
  have g1 : ∀ (j : Nat), listed.getD j false = true ↔ listed[j]? = some true := fun j => by
    rw [Array.getD_eq_getD_getElem?]; cases listed[j]? <;> simp
  have g2 : ∀ (j : Nat), listed.getD j true = false ↔ listed[j]? = some false := fun j => by
    rw [Array.getD_eq_getD_getElem?]; cases listed[j]? <;> simp
  unfold Region.ready
  simp only [List.mem_filter, List.mem_range, Bool.and_eq_true, Bool.not_eq_true']
  constructor
  · rintro ⟨hi, h1, h2⟩
    have ho : ops[i]? = some ops[i] := by simp [hi]
    rw [ho] at h2
    simp only [Option.map_some, Option.getD_some, Array.all_eq_true] at h2
    refine ⟨_, ho, (g2 i).1 h1, fun e he => ?_⟩
    simp only [afterOf, List.mem_map, List.mem_filter] at he
    obtain ⟨ed, ⟨hm, hb⟩, rfl⟩ := he
    obtain ⟨k, hk, hke⟩ := List.mem_iff_getElem.1 hm
    have := h2 k (by simpa using hk)
    rw [show ops[i].after[k]'(by simpa using hk) = ed by simpa using hke] at this
    simp only [hb, Bool.not_true, Bool.false_or] at this
    exact (g1 _).1 this
  · rintro ⟨o, ho, h1, h2⟩
    have hi : i < ops.size := (Array.getElem?_eq_some_iff.1 ho).1
    refine ⟨hi, (g2 i).2 h1, ?_⟩
    rw [ho]
    simp only [Option.map_some, Option.getD_some, Array.all_eq_true]
    intro k hk
    cases hb : Region.binds .any o.after[k] with
    | false => simp
    | true =>
      simp only [Bool.not_true, Bool.false_or]
      refine (g1 _).2 (h2 _ ?_)
      simp only [afterOf, List.mem_map, List.mem_filter]
      exact ⟨_, ⟨by simp, hb⟩, rfl⟩

end Go.Proofs.Bw
end

/-
  THE ABSTRACT WALK, 29: regions that draw their order are sound.
-/
section
namespace Go.Proofs.Bw

section
variable {P : Program} {F : Fns} {rs : List Nat} {ops : Array Oper} {Q : Exit → Act → World → Prop} {tsF : List AV} {rdF : Rd}

/-- Which are still to come. -/
structure Left (P : Program) (rs : List Nat) (ops : Array Oper) (R : List DStep) (listed : Array Bool) : Prop where
  size : listed.size = ops.size
  mem : ∀ (j : Nat), j < ops.size → (listed[j]? = some false ↔ ∃ s, s ∈ R ∧ s.i = j)
  up : R.Pairwise (fun a b => a.i < b.i)
  code : ∀ s, s ∈ R → ops[s.i]? = some s.o ∧ compOper P rs ops s.o = some s.o'
  clear : R.Pairwise (fun a b => (∃ m, (befGo (ops.toList.map afterOf) [])[b.i]? = some m ∧ Nat.testBit m a.i = true) ∨ Ind a b)
  closed : ∀ (j m k : Nat), listed[j]? = some true → (befGo (ops.toList.map afterOf) [])[j]? = some m → Nat.testBit m k = true → listed[k]? = some true

theorem Left.take {A B : List DStep} {s : DStep} {listed : Array Bool} (h : Left P rs ops (A ++ s :: B) listed) (hb : ∀ (m k : Nat), (befGo (ops.toList.map afterOf) [])[s.i]? = some m → Nat.testBit m k = true → listed[k]? = some true) :
    Left P rs ops (A ++ B) (listed.setIfInBounds s.i true) := by
  have hsub : (A ++ B).Sublist (A ++ s :: B) := (List.Sublist.refl A).append (List.sublist_cons_self s B)
  have hne : ∀ x, x ∈ A ++ B → x.i ≠ s.i := by
    intro x hx
    have hp := h.up
    rw [List.pairwise_append] at hp
    obtain ⟨_, hp2, hp3⟩ := hp
    rw [List.pairwise_cons] at hp2
    rcases List.mem_append.1 hx with hx | hx
    · have := hp3 x hx s (by simp); omega
    · have := hp2.1 x hx; omega
  have hsi : s.i < ops.size := by
    obtain ⟨ho, _⟩ := h.code s (by simp)
    exact (Array.getElem?_eq_some_iff.1 ho).1
  have get : ∀ (j : Nat), (listed.setIfInBounds s.i true)[j]? = if s.i = j then some true else listed[j]? := fun j => by
    rw [Array.getElem?_setIfInBounds]
    by_cases he : s.i = j
    · subst he; rw [if_pos rfl, if_pos rfl, if_pos (by rw [h.size]; exact hsi)]
    · rw [if_neg he, if_neg he]
  refine ⟨by simp [h.size], fun j hj => ?_, h.up.sublist hsub, fun x hx => h.code x (hsub.mem hx), h.clear.sublist hsub, fun j m k hj hm hk => ?_⟩
  · rw [get]
    by_cases he : s.i = j
    · rw [if_pos he]
      refine ⟨fun h => (by cases h), fun ⟨x, hx, hxi⟩ => absurd (hxi.trans he.symm) (hne x hx)⟩
    · rw [if_neg he, h.mem j hj]
      refine ⟨fun ⟨x, hx, hxi⟩ => ⟨x, ?_, hxi⟩, fun ⟨x, hx, hxi⟩ => ⟨x, hsub.mem hx, hxi⟩⟩
      rcases List.mem_append.1 hx with hx | hx
      · exact List.mem_append_left _ hx
      · rcases List.mem_cons.1 hx with e | hx
        · subst e; exact absurd hxi he
        · exact List.mem_append_right _ hx
  · rw [get] at hj ⊢
    by_cases he : s.i = k
    · rw [if_pos he]
    · rw [if_neg he]
      by_cases hj2 : s.i = j
      · subst hj2; exact hb m k hm hk
      · rw [if_neg hj2] at hj; exact h.closed j m k hj hm hk

theorem wpAny_dreg (hF : FnsOk P F) (hac : acyc (ops.toList.map afterOf) ops.size [] = true) : ∀ (fuel : Nat) (R : List DStep) (listed : Array Bool) (φ : Phi) (I : Nat → Prop) (ts : List AV) (rd : Rd) (a : Act) (w : World),
    Left P rs ops R listed → R.length = fuel → Chain F R ts rd tsF rdF → RepS φ rd w I ts a.tmps → Sim φ I rd w →
    (∀ φ' I' a' w', a'.defers = a.defers → RepS φ' rdF w' I' tsF a'.tmps → Sim φ' I' rdF w' → Ext φ I rd w φ' I' rdF w' → Q .normal a' w') → wpAny P .any ops Q fuel listed a w
  | 0, R, listed, φ, I, ts, rd, a, w, hL, hlen, hch, hs, sm, hQ => by
    have : R = [] := List.eq_nil_of_length_eq_zero hlen
    subst this
    cases hch
    refine ⟨?_, hQ φ I a w rfl hs sm (.refl _ _ _ _)⟩
    rw [List.eq_nil_iff_forall_not_mem]
    intro i hi
    obtain ⟨o, h1, h2, _⟩ := (mem_ready hL.size).1 hi
    obtain ⟨s, hs, _⟩ := (hL.mem i (Array.getElem?_eq_some_iff.1 h1).1).1 h2
    cases hs
  | fuel + 1, R, listed, φ, I, ts, rd, a, w, hL, hlen, hch, hs, sm, hQ => by
    refine ⟨fun hr => ?_, fun i hi => ?_⟩
    · exfalso
      cases R with
      | nil => cases hlen
      | cons s0 R0 =>
        obtain ⟨ho, _⟩ := hL.code s0 (by simp)
        have hsi := (Array.getElem?_eq_some_iff.1 ho).1
        have hf := (hL.mem s0.i hsi).2 ⟨s0, by simp, rfl⟩
        obtain ⟨i, af, h1, h2, h3⟩ := acyc_spec (fun j : Nat => listed[j]? = some true) _ [] hac (fun x hx => by cases hx) ⟨s0.i, by simpa using hsi, by rw [hf]; simp⟩
        have hi : i < ops.size := by have := (List.getElem?_eq_some_iff.1 h1).1; simpa using this
        have ho : ops[i]? = some ops[i] := by simp [hi]
        have haf : af = afterOf ops[i] := by
          rw [List.getElem?_map, Array.getElem?_toList, ho] at h1
          cases h1; rfl
        have hfl : listed[i]? = some false := by
          have hl : i < listed.size := by rw [hL.size]; exact hi
          have he : listed[i]? = some listed[i] := by simp [hl]
          rw [he] at h2 ⊢
          cases hq : listed[i] with
          | true => rw [hq] at h2; exact absurd rfl h2
          | false => rfl
        have := (mem_ready (i := i) hL.size).2 ⟨_, ho, hfl, fun e he => h3 e (by rw [haf]; exact he)⟩
        rw [hr] at this; cases this
    · obtain ⟨o, ho, hfl, haf⟩ := (mem_ready hL.size).1 hi
      obtain ⟨s, hsR, rfl⟩ := (hL.mem i (Array.getElem?_eq_some_iff.1 ho).1).1 hfl
      obtain ⟨A, B, rfl⟩ := List.append_of_mem hsR
      obtain ⟨ho', hcomp⟩ := hL.code s hsR
      rw [ho] at ho'; cases ho'
      have hbits : ∀ (m k : Nat), (befGo (ops.toList.map afterOf) [])[s.i]? = some m → Nat.testBit m k = true → listed[k]? = some true := by
        intro m k hm hk
        obtain ⟨acc', h1, h2⟩ := befGo_get (ops.toList.map afterOf) [] s.i (afterOf s.o) (by rw [List.getElem?_map, Array.getElem?_toList, ho]; rfl)
        rw [List.length_nil, Nat.zero_add, hm] at h1
        cases h1
        obtain ⟨e, he, hcase⟩ := befBits_spec hk
        rcases hcase with rfl | ⟨m', hm', hk'⟩
        · exact haf k he
        · exact hL.closed e m' k (haf e he) (h2 e m' hm') hk'
      have hind : ∀ x, x ∈ A → Ind x s := by
        intro x hx
        have hp := hL.clear
        rw [List.pairwise_append] at hp
        rcases hp.2.2 x hx s (by simp) with ⟨m, hm, hk⟩ | h
        · exfalso
          have ht := hbits m x.i hm hk
          obtain ⟨hox, _⟩ := hL.code x (by simp [hx])
          have := (hL.mem x.i (Array.getElem?_eq_some_iff.1 hox).1).2 ⟨x, by simp [hx], rfl⟩
          rw [ht] at this; cases this
        · exact h
      cases hch.front A hind with
      | cons _ _ _ _ _ _ hok htail =>
        have hrun : operV F s.o' ts rd s.c (fun ts d fp => some (ts, d, fp)) = some (putS ts s.o'.dst s.v, s.d, s.fp) := hok.loc ts rd (fun _ _ => rfl) (fun _ _ => rfl) _
        obtain ⟨ts', d', fp', h1, h2⟩ := operV_sound hF hs sm hcomp hrun
        cases h1
        have h2 := h2 hok.fresh (wpAny P .any ops Q fuel (listed.setIfInBounds s.i true)) Q fun φ' I' a' w' k1 k2 k3 k4 =>
          wpAny_dreg hF hac fuel (A ++ B) _ φ' I' _ _ a' w' (hL.take hbits) (by simp at hlen ⊢; omega) htail k2 k3 fun φ'' I'' a'' w'' m1 m2 m3 m4 => hQ φ'' I'' a'' w'' (m1.trans k1) m2 m3 (k4.trans m4)
        unfold wpOp
        rw [ho]
        unfold StepWp at h2
        simp only
        split
        · rename_i hw; rw [if_pos hw] at h2; exact .inl h2
        · rename_i hw; rw [if_neg hw] at h2; exact h2

theorem dreg_sound (hF : FnsOk P F) (hm : P.follows .mixedOrders = true) {l' : List IOper} {st : St} {α : Type} {r : α} {K : St → Option α} {id : Nat} {φ : Phi} {I : Nat → Prop} {a : Act} {w : World} (hl : mapO (compOper P rs ops) ops.toList = some l')
    (hac : acyc (ops.toList.map afterOf) ops.size [] = true) (hsl : slotsClear 0 (befGo (ops.toList.map afterOf) []) l' = true)
    (h : evDops F (befGo (ops.toList.map afterOf) []) l' [] st K = some r) (ok : StOk φ I st a w)
    (hQ : ∀ st' φ' I' a' w', K st' = some r → StOk φ' I' st' a' w' → Ext φ I (rdH st.H) w φ' I' (rdH st'.H) w' → Q .normal a' w') : (Code.region id ops true).wp P Q a w := by
  obtain ⟨R, st', h1, h2, h3, h4, h5, h6⟩ := evDops_chain ops.toList l' [] st 0 hl h
  refine wp_region_any hm ?_
  have E0 : Ext φ I (rdH st.H) w φ I (rdH st.H) { w with drawn := w.drawn + 1 } := Ext.same (fun _ => rfl) rfl rfl rfl rfl
  have sm0 : Sim φ I (rdH st.H) { w with drawn := w.drawn + 1 } := ok.sim.same (fun _ => rfl) rfl rfl rfl rfl
  have hlen : R.length = ops.size := by have := congrArg List.length h4; simpa using this
  have hRi : ∀ (q : Nat) s, R[q]? = some s → s.i = q := fun q s hq => by have := (h6 q s hq).1; omega
  have hL : Left P rs ops R (Array.replicate ops.size false) := by
    refine ⟨by simp, fun j hj => ⟨fun _ => ?_, fun _ => by simp [hj]⟩, ?_, fun s hs => ?_, ?_, fun j m k hj => ?_⟩
    · have hj' : j < R.length := by omega
      exact ⟨R[j], List.getElem_mem _, hRi j _ (by simp)⟩
    · rw [List.pairwise_iff_getElem]
      intro p q hp hq hpq
      rw [hRi p _ (List.getElem?_eq_getElem hp), hRi q _ (List.getElem?_eq_getElem hq)]
      exact hpq
    · obtain ⟨q, hq, rfl⟩ := List.mem_iff_getElem.1 hs
      have he : R[q]? = some R[q] := List.getElem?_eq_getElem hq
      refine ⟨?_, (h6 q _ he).2⟩
      rw [hRi q _ he, ← Array.getElem?_toList, ← h4, List.getElem?_map, he]; rfl
    · rw [List.pairwise_iff_getElem]
      intro p q hp hq hpq
      have ep : R[p]? = some R[p] := List.getElem?_eq_getElem hp
      have eq : R[q]? = some R[q] := List.getElem?_eq_getElem hq
      rw [hRi p _ ep, hRi q _ eq]
      obtain ⟨acc', b1, _⟩ := befGo_get (ops.toList.map afterOf) [] q (afterOf R[q].o) (by
        rw [List.getElem?_map, ← h4, List.getElem?_map, eq]; rfl)
      rw [List.length_nil, Nat.zero_add] at b1
      rw [List.nil_append] at h3
      have c1 := allClear_spec (p := p) (q := q) h3 hpq (by rw [List.getElem?_map, ep]; rfl) b1 (by rw [List.getElem?_map, eq]; rfl)
      have c2 := slotsClear_spec (p := p) (q := q) hsl hpq (by rw [← h5, List.getElem?_map, ep]; rfl) b1 (by rw [← h5, List.getElem?_map, eq]; rfl)
      rw [Nat.zero_add] at c1 c2
      rcases c1 with c1 | c1
      · exact .inl ⟨_, b1, c1⟩
      · rcases c2 with c2 | ⟨c2, c3⟩
        · exact .inl ⟨_, b1, c2⟩
        · exact .inr (ind_of c1 c2 c3)
    · rw [Array.getElem?_replicate] at hj
      split at hj <;> cases hj
  refine wpAny_dreg hF hac ops.size R _ φ I st.ts (rdH st.H) a _ hL hlen h1 ⟨ok.reps.1, fun i x v hx hv => (ok.reps.2 i x v hx hv).ext E0 ok.sim⟩ sm0 fun φ' I' a' w' k1 k2 k3 k4 => ?_
  exact hQ st' φ' I' a' w' h2 ⟨k2, k3, k1.trans ok.defers⟩ (E0.trans k4)

end

end Go.Proofs.Bw
end

/-
  THE ABSTRACT WALK, 30: code, loops, functions: what is reckoned is what the model does.
-/
section
namespace Go.Proofs.Bw

def IExit.out : IExit → Exit
  | .normal => .normal
  | .exit id => .exit id
  | .ret => .ret

section
variable {P : Program} {F : Fns} {rs : List Nat}

theorem comp_region {id : Nat} {ops : Array Oper} {draw : Bool} {h h' : List (List Nat)} {ic : ICode} (hc : comp P rs (.region id ops draw) h = some (ic, h')) :
    ∃ l, mapO (compOper P rs ops) ops.toList = some l ∧ ((draw = false ∧ ic = .reg l) ∨ (draw = true ∧ acyc (ops.toList.map afterOf) ops.size [] = true ∧ slotsClear 0 (befGo (ops.toList.map afterOf) []) l = true ∧ ic = .dreg l (befGo (ops.toList.map afterOf) []))) := by
  simp only [comp] at hc
  split at hc
  · cases hc
  · rename_i l hl
    cases draw with
    | false => cases hc; exact ⟨l, hl, .inl ⟨rfl, rfl⟩⟩
    | true =>
      obtain ⟨hb, hc⟩ := bif_some hc
      cases hc
      simp only [Bool.and_eq_true] at hb
      exact ⟨l, hl, .inr ⟨rfl, hb.1, hb.2, rfl⟩⟩

theorem evC_sound (hF : FnsOk P F) (hm : P.follows .mixedOrders = true) {m n : Nat} {φ0 : Phi} {I0 : Nat → Prop} {rd0 : Rd} {w0 : World} (hm0 : ∀ b, rd0 b ≠ .unborn → b < m) {α : Type} {r : α} : ∀ (c : Code) (h h' : List (List Nat)) (ic : ICode) (st : St) (φ : Phi) (I : Nat → Prop) (a : Act) (w : World)
    (K : IExit → St → Option α) (Q : Exit → Act → World → Prop), comp P rs c h = some (ic, h') → evC F n m ic st K = some r → StOk φ I st a w → Ext φ0 I0 rd0 w0 φ I (rdH st.H) w →
    (∀ e st' φ' I' a' w', K e st' = some r → StOk φ' I' st' a' w' → Ext φ0 I0 rd0 w0 φ' I' (rdH st'.H) w' → Q e.out a' w') → c.wp P Q a w := by
  intro c
  induction c with
  | skip =>
    intro h h' ic st φ I a w K Q hc he ok E hQ
    simp only [comp] at hc; cases hc
    exact wp_skip (hQ .normal st φ I a w he ok E)
  | region id ops draw =>
    intro h h' ic st φ I a w K Q hc he ok E hQ
    obtain ⟨l, hl, ⟨rfl, rfl⟩ | ⟨rfl, h1, h2, rfl⟩⟩ := comp_region hc
    · simp only [evC] at he
      exact wp_region_list (evOps_sound hF ops.toList l st φ I a w hl he ok fun st' φ' I' a' w' k1 k2 k3 => hQ .normal st' φ' I' a' w' k1 k2 (E.trans k3))
    · simp only [evC] at he
      exact dreg_sound hF hm hl h1 h2 he ok fun st' φ' I' a' w' k1 k2 k3 => hQ .normal st' φ' I' a' w' k1 k2 (E.trans k3)
  | seq x y ihx ihy =>
    intro h h' ic st φ I a w K Q hc he ok E hQ
    simp only [comp] at hc
    split at hc
    · cases hc
    · rename_i ix h1 hx
      split at hc
      · cases hc
      · rename_i iy h2 hy
        cases hc
        simp only [evC] at he
        refine wp_seq (ihx h h1 ix st φ I a w _ _ hx he ok E fun e st' φ' I' a' w' k1 k2 k3 => ?_)
        cases e with
        | normal => exact ihy h1 h' iy st' φ' I' a' w' K Q hy k1 k2 k3 hQ
        | exit i => exact hQ (.exit i) st' φ' I' a' w' k1 k2 k3
        | ret => exact hQ .ret st' φ' I' a' w' k1 k2 k3
  | cond c x y ihx ihy =>
    intro h h' ic st φ I a w K Q hc he ok E hQ
    simp only [comp] at hc
    split at hc
    · rename_i c' ix h1 hcc hx
      split at hc
      · cases hc
      · rename_i iy h2 hy
        cases hc
        simp only [evC] at he
        obtain ⟨b, hb, he⟩ := asB_some he
        have hv := ev_rep ok.reps hcc
        rw [hb] at hv
        have hv := hv.bool_inv
        have he : (bif b then evC F n m ix st K else evC F n m iy st K) = some r := by
          cases c' with
          | s i =>
            have hs : slot st.ts i = .t (.bool b) := hb
            have hsame := setB_same hs
            cases b <;> simp only [cond_true, cond_false] at he ⊢ <;> rw [hsame] at he <;> exact he
          | c v => exact he
          | f g => exact he
        refine wp_cond hv ?_
        cases b with
        | true => exact ihx h h1 ix st φ I a w K Q hx he ok E hQ
        | false => exact ihy h1 h' iy st φ I a w K Q hy he ok E hQ
    · cases hc
  | block id c ih =>
    intro h h' ic st φ I a w K Q hc he ok E hQ
    simp only [comp] at hc
    split at hc
    · rename_i ix h1 hx
      cases hc
      simp only [evC] at he
      refine wp_block (ih h h' ix st φ I a w _ _ hx he ok E fun e st' φ' I' a' w' k1 k2 k3 => ?_)
      cases e with
      | normal => exact hQ .normal st' φ' I' a' w' k1 k2 k3
      | exit i =>
        simp only at k1
        show Exit.inBlock id Q (.exit i) a' w'
        simp only [Exit.inBlock]
        cases hb : Nat.beq i id with
        | true =>
          rw [hb, cond_true] at k1
          rw [if_pos (Nat.eq_of_beq_eq_true hb)]
          exact hQ .normal st' φ' I' a' w' k1 k2 k3
        | false =>
          rw [hb, cond_false] at k1
          rw [if_neg (Nat.ne_of_beq_eq_false hb)]
          exact hQ (.exit i) st' φ' I' a' w' k1 k2 k3
      | ret => exact hQ .ret st' φ' I' a' w' k1 k2 k3
    · cases hc
  | loop c ih =>
    intro h h' ic st φ I a w K Q hc he ok E hQ
    simp only [comp] at hc
    split at hc
    · rename_i live h1
      split at hc
      · rename_i ix h2 hx
        cases hc
        simp only [evC] at he
        obtain ⟨φ1, st1, k1, k2, k3, k4⟩ := norm_sound (st := st) (ts := st.ts) (H := st.H) rfl he hm0 ok.sim E ok.reps
        have rounds : ∀ (q : Nat) (st : St) (φ : Phi) (I : Nat → Prop) (a : Act) (w : World), evLoop m live (fun s K' => evC F n m ix s K') q st K = some r → StOk φ I st a w → Ext φ0 I0 rd0 w0 φ I (rdH st.H) w →
            Code.rounds P c Q q a w := by
          intro q
          induction q with
          | zero => intro st φ I a w h _ _; simp [evLoop] at h
          | succ q ihq =>
            intro st φ I a w hl ok E
            simp only [evLoop] at hl
            rw [rounds_succ]
            refine ih h1 h' ix st φ I a w _ _ hx hl ok E fun e st' φ' I' a' w' k1 k2 k3 => ?_
            cases e with
            | normal =>
              obtain ⟨φ2, st2, m1, m2, m3, m4⟩ := norm_sound (st := st') (ts := st'.ts) (H := st'.H) rfl k1 hm0 k2.sim k3 k2.reps
              exact ihq st2 φ2 I' a' w' m1 ⟨m4, m2, k2.defers⟩ m3
            | exit i => exact hQ (.exit i) st' φ' I' a' w' k1 k2 k3
            | ret => exact hQ .ret st' φ' I' a' w' k1 k2 k3
        exact wp_loop_rounds n (rounds n st1 φ1 I a w k1 ⟨k4, k2, ok.defers⟩ k3)
      · cases hc
    · cases hc
  | exit id =>
    intro h h' ic st φ I a w K Q hc he ok E hQ
    simp only [comp] at hc; cases hc
    exact wp_exit (hQ (.exit id) st φ I a w he ok E)
  | ret =>
    intro h h' ic st φ I a w K Q hc he ok E hQ
    simp only [comp] at hc; cases hc
    exact wp_ret (hQ .ret st φ I a w he ok E)
  | _ =>
    intro h h' ic st φ I a w K Q hc
    simp [comp] at hc

/-! ### what a function gives back -/
def resF (tmps : Array Value) : ResultVar → Sem Value
  | .tmp t => pure (tmps.getD t undef)
  | .cell q t => do loadVar t (← asAddr (tmps.getD q undef))

theorem results_eq (fn : Func) (tmps : Array Value) : results fn tmps = (do
    let vs ← fn.results.mapM (resF tmps)
    pure (if h : vs.size = 1 then vs[0] else .tuple vs)) := by
  have : resF tmps = (fun
    | .tmp t => pure (tmps.getD t undef)
    | .cell a t => (do loadVar t (← asAddr (tmps.getD a undef)))) := (funext fun x => by cases x <;> rfl)
  unfold results
  rw [this]
  first | rfl | (congr 1; congr 1; funext x; cases x <;> rfl)

theorem res_run {φ : Phi} {I : Nat → Prop} {st : St} {a : Act} {w : World} {α : Type} {r : α} (ok : StOk φ I st a w) : ∀ (l : List ResultVar) (l' : List IRes) (K : List AV → Option α), compRes P l = some l' → resA st l' K = some r →
    ∃ (xs : List AV) (vs : List Value), K xs = some r ∧ (l.mapM (resF a.tmps)).run P w = .ok vs w ∧ RepL φ (rdH st.H) w I xs vs
  | [], l', K, hc, h => by
    simp [compRes] at hc; subst hc
    exact ⟨[], [], h, rfl, .nil⟩
  | .tmp t :: l, l', K, hc, h => by
    simp only [compRes] at hc
    obtain ⟨l2, hl2, rfl⟩ := map_some' hc
    simp only [resA] at h
    obtain ⟨xs, vs, h1, h2, h3⟩ := res_run ok l l2 _ hl2 h
    refine ⟨_, a.tmps.getD t undef :: vs, h1, ?_, .cons (by rw [getD_toList]; exact slot_rep ok.reps t) h3⟩
    rw [List.mapM_cons]
    simp only [resF, Sem.run_bind, Sem.run_pure, Result.andThen_ok, h2]
  | .cell q t :: l, l', K, hc, h => by
    simp only [compRes] at hc
    split at hc
    · rename_i s l2 hs hl2
      cases hc
      simp only [resA] at h
      have hr := slot_rep ok.reps q
      rw [← getD_toList] at hr
      have fin : ∀ {A : Addr} {x : AV} {v : Value}, a.tmps.getD q undef = .pointer (some A) → (loadVar t A).run P w = .ok v w → RepA φ (rdH st.H) w I x v → (resA st l2 fun l => K (x :: l)) = some r →
          ∃ (xs : List AV) (vs : List Value), K xs = some r ∧ ((ResultVar.cell q t :: l).mapM (resF a.tmps)).run P w = .ok vs w ∧ RepL φ (rdH st.H) w I xs vs := by
        intro A x v hA hv hx h
        obtain ⟨xs, vs, h1, h2, h3⟩ := res_run ok l l2 _ hl2 h
        refine ⟨_, v :: vs, h1, ?_, .cons hx h3⟩
        have hc : (resF a.tmps (.cell q t)).run P w = .ok v w := by
          simp only [resF, hA, asAddr, pure_bind]; exact hv
        rw [List.mapM_cons]
        simp only [Sem.run_bind, hc, Sem.run_pure, Result.andThen_ok, h2]
      split at h
      · rename_i b i j hq
        rw [hq] at hr
        obtain ⟨ha, e, he, h⟩ := elemOf_some h
        obtain ⟨g, C, hφ, ⟨_, hf⟩, hcells⟩ := ok.sim.elem ha he
        obtain ⟨x, v, h, hv, hx⟩ := loadBy_run hs hcells hf h
        obtain ⟨g', C', hφ', hp⟩ := hr.href_inv ha
        rw [hφ] at hφ'; cases hφ'
        exact fin hp hv hx h
      · rename_i e j hq
        rw [hq] at hr
        obtain ⟨b, o, hp, hcells, hf⟩ := RepT.ptrCells (φ := φ) (rd := rdH st.H) hr.tree
        obtain ⟨x, v, h, hv, hx⟩ := loadBy_run hs hcells hf h
        exact fin hp hv hx h
      · cases h
    · cases hc

theorem results_run {φ : Phi} {I : Nat → Prop} {st : St} {a : Act} {w : World} {α : Type} {r : α} {fn : Func} {l' : List IRes} {K : AV → Option α} (ok : StOk φ I st a w) (hc : compRes P fn.results.toList = some l') (h : (resA st l' fun l => K (oneA l)) = some r) :
    ∃ x v, K x = some r ∧ (results fn a.tmps).run P w = .ok v w ∧ RepA φ (rdH st.H) w I x v := by
  obtain ⟨xs, vs, h1, h2, h3⟩ := res_run ok fn.results.toList l' _ hc h
  have hrun : (results fn a.tmps).run P w = .ok (if h : vs.toArray.size = 1 then vs.toArray[0] else .tuple vs.toArray) w := by
    rw [results_eq, Array.mapM_eq_mapM_toList]
    simp only [Sem.run_bind, Sem.run_map, h2, Result.andThen_ok, Sem.run_pure]
  refine ⟨_, _, h1, hrun, ?_⟩
  match xs, vs, h3 with
  | [], [], h3 => exact mkTup_rep (by simpa using h3)
  | [x], [v], h3 => exact h3.2 0 x v rfl rfl
  | x :: y :: xs, [v], h3 => have := h3.1; simp at this
  | [x], v :: u :: vs, h3 => have := h3.1; simp at this
  | x :: y :: xs, v :: u :: vs, h3 =>
    rw [dif_neg (by simp)]
    exact mkTup_rep (by simpa using h3)

theorem start_rep {φ : Phi} {rd : Rd} {w : World} {I : Nat → Prop} {args : List AV} {vals : Array Value} (n : Nat) (h : RepL φ rd w I args vals.toList) : RepS φ rd w I (start n args) (vals ++ Array.replicate (n - vals.size) undef) := by
  unfold RepS start
  have hl : vals.size = args.length := by simpa using h.1
  rw [Array.toList_append, ← hl]
  refine h.append ⟨by simp, fun i x v hx hv => ?_⟩
  rw [List.getElem?_replicate] at hx
  rw [Array.toList_replicate, List.getElem?_replicate] at hv
  rw [hl] at hv hx
  by_cases h : i < n - args.length
  · rw [if_pos h] at hx hv; cases hx; cases hv; exact .undef
  · rw [if_neg h] at hx; cases hx

/-- The code that is reckoned is the program's. -/
structure EnvOk (P : Program) (E : Env) : Prop where
  code : ∀ f fi, E.code f = some fi → ∃ live rs, compF P f live rs = some fi
  sum : ∀ g args H v H', E.has g = true → E.cond g args H = true → E.sum g args H = some (v, H') → callable P g = true ∧ ∀ (φ : Phi) (w : World) (I : Nat → Prop) (vals : Array Value), RepL φ (rdH H) w I args vals.toList → Sim φ I (rdH H) w → Calls P g vals w (Comes' φ I H w v H')

theorem pureOf_ok {rf : Nat → List AV → Heap → Option (AV × Heap)} (hrf : ∀ g args H v H', rf g args H = some (v, H') → callable P g = true ∧ ∀ (φ : Phi) (w : World) (I : Nat → Prop) (vals : Array Value), RepL φ (rdH H) w I args vals.toList → Sim φ I (rdH H) w → Calls P g vals w (Comes' φ I H w v H')) :
    FnsOk P ⟨pureOf rf, rf, fun _ _ _ => true⟩ where
  rf := fun g args H v H' _ h => hrf g args H v H' h
  pf := by
    intro g xs y h
    simp only [pureOf] at h
    cases hp : rf g (xs.map .t) [] with
    | none => simp [hp] at h
    | some p =>
      obtain ⟨v, H'⟩ := p
      simp only [hp, Option.bind_some] at h
      obtain ⟨hc, hcall⟩ := hrf g _ [] v H' hp
      refine ⟨hc, fun w I vals hr hI => ?_⟩
      have dead : ∀ b : Nat, rdH [] b = .unborn := fun b => rdH_unborn [] b (by simp)
      have sm : Sim (fun _ => none) I (rdH []) w := ⟨fun b hb => (by rw [dead b] at hb; cases hb), fun b b' g C C' hb => (by rw [dead b] at hb; cases hb), hI⟩
      refine Calls.mono (hcall (fun _ => none) w I vals (RepL.ofT hr) sm) fun e w' he => ?_
      obtain ⟨val, φ', I', rfl, h1, h2, h3⟩ := he
      refine ⟨val, fun g => I' g ∨ ∃ b C, (rdH H' b).mut = true ∧ φ' b = some (g, C), rfl, ?_, fun b hb => .inl (h3.sub b hb), fun b hb => ?_, fun b hb => ?_, ⟨fun b hb => ?_, h3.size, h3.os, h3.tape, h3.output⟩⟩
      · exact toTree_rep h2 (fun g hg => .inl hg) (fun b g C _ hm hφ => .inr ⟨b, C, hm, hφ⟩) depth depth (Nat.le_refl _) v y val h h1
      · rcases hb with hb | ⟨b', C, hm, hφ⟩
        · rcases h3.inew b hb with h | h | ⟨b0, C0, hm0, _⟩
          · exact .inl h
          · exact .inr h
          · rw [dead b0] at hm0; cases hm0
        · rcases h3.mnew b' b C hm hφ with h | ⟨b0, C0, hm0, _⟩
          · exact .inr h
          · rw [dead b0] at hm0; cases hm0
      · rcases hb with hb | ⟨b', C, hm, hφ⟩
        · exact h2.old b hb
        · exact h2.lt (HObj.mut_alive hm) hφ
      · exact h3.frame b hb fun b0 C hm _ => by rw [dead b0] at hm; cases hm

theorem rf_ok {E : Env} (hE : EnvOk P E) {pf : Nat → List Tree → Option Tree} {rf : Nat → List AV → Heap → Option (AV × Heap)} (h : FnsOk P ⟨pf, rf, fun _ _ _ => true⟩) : FnsOk P ⟨pf, E.rf rf, E.ok⟩ where
  pf := h.pf
  rf := fun g args H v H' ho hc => by
    have ho : (bif E.has g then E.cond g args H else true) = true := ho
    have hc : (bif E.has g then E.sum g args H else rf g args H) = some (v, H') := hc
    cases hb : E.has g with
    | true => rw [hb, cond_true] at hc ho; exact hE.sum g args H v H' hb ho hc
    | false => rw [hb, cond_false] at hc; exact h.rf g args H v H' rfl hc

theorem runFn_sound {E : Env} (hE : EnvOk P E) (hm : P.follows .mixedOrders = true) : ∀ k, FnsOk P ⟨pureOf (runFn E k), runFn E k, fun _ _ _ => true⟩
  | 0 => pureOf_ok fun g args H v H' h => by simp [runFn] at h
  | k + 1 => pureOf_ok fun f args H v H' h => by
    have ih := rf_ok hE (runFn_sound hE hm k)
    simp only [runFn] at h
    split at h
    · obtain ⟨hb, h⟩ := bif_some h
      simp only [Bool.and_eq_true] at hb
      exact hE.sum f args H v H' hb.1 hb.2 h
    · rename_i fi hfi
      obtain ⟨live, rs, hcf⟩ := hE.code f fi hfi
      unfold compF at hcf
      split at hcf
      · cases hcf
      · rename_i fn hfn
        split at hcf
        · cases hcf
        · rename_i c hbody
          obtain ⟨hcall, hcf⟩ := bif_some hcf
          split at hcf
          · rename_i ib ir hcomp hres
            cases hcf
            refine ⟨hcall, fun φ w I vals hr sm => ?_⟩
            refine calls_of_wp hfn hbody ?_
            refine evC_sound ih hm (m := H.length) (φ0 := φ) (I0 := I) (rd0 := rdH H) (w0 := w) (fun b hb => ?_) c live [] ib ⟨start fn.ntmps args, H⟩ φ I _ w _ _ hcomp h ⟨start_rep fn.ntmps hr, sm, rfl⟩ (.refl _ _ _ _) fun e st' φ' I' a' w' k1 k2 k3 => ?_
            · rcases Nat.lt_or_ge b H.length with h | h
              · exact h
              · exact absurd (rdH_unborn H b h) hb
            · have fin : (resA st' ir fun l => some (oneA l, st'.H)) = some (v, H') → ∃ val, (results fn a'.tmps).run P w' = .ok val w' ∧ Comes' φ I H w v H' (.returned val) w' := by
                intro hk
                obtain ⟨x, val, h1, h2, h3⟩ := results_run (K := fun x => some (x, st'.H)) k2 hres hk
                cases h1
                exact ⟨val, h2, val, φ', I', rfl, h3, k2.sim, k3⟩
              cases e with
              | normal => exact ⟨k2.defers, fin k1⟩
              | ret => exact ⟨k2.defers, fin k1⟩
              | exit i => cases k1
          · cases hcf

/-- What is reckoned of a call is what the model does. -/
theorem evP_calls {E : Env} (hE : EnvOk P E) (hm : P.follows .mixedOrders = true) {k g : Nat} {xs : List Tree} {y : Tree} (h : evP E k g xs = some y) {w : World} {I : Nat → Prop} {vals : Array Value} (hr : RepTL w I xs vals.toList) (hI : ∀ b, I b → b < w.heap.size) :
    Calls P g vals w (Gets w I y) := ((runFn_sound hE hm k).pf g xs y h).2 w I vals hr hI

end

end Go.Proofs.Bw
end

/-
  THE ABSTRACT WALK, 41: the library's sort of a row of whole numbers, by its contract: a summary.
-/
section
namespace Go.Proofs.Bw
open Go.Sort Go.Shelf

def allI : List Tree → Bool
  | [] => true
  | .int k _ :: r => bif kindEq k .i64 then allI r else false
  | _ => false

/-- A row of whole numbers, sorted. -/
def sortT (es : List Tree) : List Tree := ((es.map Tree.toInt).mergeSort fun x y => decide (x ≤ y)).map (Tree.int .i64)

/-- How deep the sort may go. -/
def limOk (n : Nat) (z : Int) : Bool := bif Nat.beq n 0 then decide (z = 0) else decide (0 ≤ z) && decide (z < 4611686018427387904)

/-- The sort of a whole row: when .. -/
def sortC (args : List AV) (H : Heap) : Bool :=
  match args with
  | [.hsl b _, .t (.int kx x), .t (.int ky y), .t (.int kz z)] => (match rdH H b with
    | .tre s es => (shEq s (.int .i64) && (kindEq kx .i64 && (kindEq ky .i64 && kindEq kz .i64))) && (allI es && (decide (x = 0) && (decide (y = es.length) && (Nat.blt es.length 4611686018427387904 && limOk es.length z))))
    | _ => false)
  | _ => false

/-- .. and what it comes to. -/
def sortA (args : List AV) (H : Heap) : Option (AV × Heap) :=
  match args with
  | .hsl b _ :: _ => (match rdH H b with
    | .tre _ es => some (.t (.tup []), setN H b (.tre (.int .i64) (sortT es)))
    | _ => none)
  | _ => none

structure SrtOk (P : Program) (k : Nat) : Prop where
  callable : callable P k = true
  empty : ∀ (p : Option Addr) (cap : Nat) (w : World), Calls P k #[.slice p 0 cap, .int .i64 0, .int .i64 0, .int .i64 0] w fun e w' => e = .returned (.tuple #[]) ∧ w' = w
  sorts : ∀ (blk cap lim : Nat) (zs : List Int) (w : World), Holds (Value.int .i64) w blk 0 zs.toArray → blk < w.heap.size → zs.length < 4611686018427387904 → lim < 4611686018427387904 →
    Calls P k #[.slice (some ⟨blk, 0, none⟩) zs.length cap, .int .i64 0, .int .i64 zs.length, .int .i64 lim] w fun e w' =>
      e = .returned (.tuple #[]) ∧ ∃ n os, w' = grow (putRow (Value.int .i64) (Sort.ahead w n) blk 0 (zs.mergeSort fun x y => decide (x ≤ y)).toArray) os

theorem pdq_int (zs : List Int) (lim : Nat) : pdq ltInt zs.toArray 0 zs.toArray.size lim true true = (zs.mergeSort fun x y => decide (x ≤ y)).toArray := by
  obtain ⟨hP, hS⟩ := pdq_sorts ltInt swo_ltInt zs.toArray 0 zs.toArray.size lim true true (Nat.zero_le _) (Nat.le_refl _) (Or.inl rfl)
  have h := sorted_unique_holds swo_ltInt (fun x y h1 h2 => by simp only [ltInt, decide_eq_false_iff_not] at h1 h2; omega) zs.toArray _ hP hS
  apply Array.toList_inj.mp
  rw [h]
  show zs.mergeSort _ = zs.mergeSort _
  congr 1
  funext x y
  simp only [ltInt]
  by_cases hxy : x ≤ y
  · simp [hxy]; try omega
  · simp [hxy]; try omega

theorem SrtOk.of_lays {P : Program} {ρ : Go.Shelf.Ren} (L : Lays.n257 P ρ) (hc : Bw.callable P (ρ.f 257) = true) : SrtOk P (ρ.f 257) where
  callable := hc
  empty := fun p cap w => calls_of_every_depth fun D => AnyS.pdqsort_int_none_in L D p cap w
  sorts := fun blk cap lim zs w hH hb hz hl => by
    have h := calls_of_every_depth fun D => Any.pdqWalkInInt L D (pdqDepth ltInt zs.toArray 0 zs.toArray.size lim true true + 6) blk 0 cap 0 zs.toArray.size lim zs.toArray w (Nat.le_refl _) hH hb (Nat.zero_le _) (Nat.le_refl _) (by simpa using hz) hl (Or.inl rfl)
    rw [pdq_int] at h
    simpa using h

theorem bif_both {a b : Bool} (h : (bif a then b else false) = true) : a = true ∧ b = true := by cases a <;> simp_all

theorem allI_map : ∀ {es : List Tree}, allI es = true → es = (es.map Tree.toInt).map (Tree.int .i64)
  | [], _ => rfl
  | .int k x :: r, h => by
    obtain ⟨h1, h2⟩ := bif_both h
    rw [kindEq_eq h1, List.map_cons, List.map_cons, ← allI_map h2]; rfl
  | .bool _ :: _, h => by cases h
  | .str _ :: _, h => by cases h
  | .agg _ :: _, h => by cases h
  | .slc _ :: _, h => by cases h
  | .ptr _ _ :: _, h => by cases h
  | .nilp :: _, h => by cases h
  | .fn _ _ _ :: _, h => by cases h
  | .nilfn :: _, h => by cases h
  | .tup _ :: _, h => by cases h

theorem sortT_length (es : List Tree) : (sortT es).length = es.length := by simp [sortT]

theorem Sim.grown {φ : Phi} {I : Nat → Prop} {rd : Rd} {w : World} (sm : Sim φ I rd w) {b g C : Nat} (hb : (rd b).mut = true) (hφ : φ b = some (g, C)) (ob : HObj) (hm : ob.mut = true) (hsh : ob.sh = (rd b).sh) (hl : ob.els.length = (rd b).els.length) {arr' : Array Value} {T : TypeId} {w' : World}
    (h0 : w'.heap[g]? = some (.cells arr' T (0, 0))) (h1 : ∀ g' : Nat, g' < w.heap.size → g' ≠ g → w'.heap[g']? = w.heap[g']?) (h2 : w.heap.size ≤ w'.heap.size) (h3 : w'.os = w.os) (h4 : w'.tape = w.tape) (h5 : w'.output = w.output)
    (ha : ArrOk φ rd w I arr' C ob.sh ob.els) :
    Sim φ I (upd rd b ob) w' ∧ Ext φ I rd w φ I (upd rd b ob) w' := by
  have E : Ext φ I rd w φ I (upd rd b ob) w' := by
    refine ⟨fun x hx => ?_, fun x hx => ?_, fun _ h => h, fun _ h => .inl h, fun x g' C' hx hφ' => ?_, fun g' hg hn => h1 g' hg fun e => ?_, by omega, h3, h4, h5⟩
    · unfold upd; split
      · rename_i e; subst e; rw [hx] at hb; cases hb
      · exact hx
    · refine .inr ?_
      unfold upd; split
      · rename_i e; subst e; exact ⟨HObj.mut_alive hm, rfl, hsh, hl⟩
      · exact ⟨hx, rfl, rfl, rfl⟩
    · by_cases e : x = b
      · subst e; exact .inr ⟨x, C', hb, hφ'⟩
      · simp only [upd, if_neg e] at hx; exact .inr ⟨x, C', hx, hφ'⟩
    · subst e; exact hn b C hb hφ
  refine ⟨sm.update E (fun x => x = b) (fun x hx hal => ?_) (fun x hx _ => ?_) (fun x x' g1 C1 C2 hx hx' hφ1 hφ2 hS => ?_) (fun g' hg' => Nat.lt_of_lt_of_le (sm.old g' hg') h2), E⟩
  · have e1 : upd rd b ob x = rd x := if_neg hx
    rw [e1] at hal
    refine ⟨e1, rfl, fun g' C' hφ' => ⟨h1 g' (sm.lt hal hφ') fun e => ?_, fun hmu => sm.notI hmu hφ'⟩⟩
    subst e
    rcases HObj.alive_cases hal with hmu | hf
    · exact hx (sm.inj x b g' C' C hmu hb hφ' hφ)
    · rcases sm.blk x hal with ⟨_, h0⟩ | ⟨g2, C2, l1, _, l3, _⟩
      · rw [h0] at hφ'; cases hφ'
      · rw [l1] at hφ'; cases hφ'; exact sm.notI hb hφ (l3 hf)
  · subst hx
    refine .inr ⟨g, C, hφ, fun _ => sm.notI hb hφ, fun hf => ?_, ?_⟩
    · simp [upd] at hf; have := HObj.froz_not_mut hf; rw [hm] at this; cases this
    · have h := ha.ext E sm
      simp only [upd, if_true]
      exact ⟨arr', T, h0, h.size, h.len, h.cells⟩
  · subst hS
    by_cases hxx : x' = x
    · exact hxx.symm
    · simp only [upd, if_neg hxx] at hx'
      exact sm.inj x x' g1 C1 C2 hb hx' hφ1 hφ2

/-- The sort of a row that lies in the model's heap. -/
theorem srt_run {P : Program} {g : Nat} (S : SrtOk P g) {φ : Phi} {I : Nat → Prop} {H : Heap} {w : World} {b : Nat} {k : Option Nat} {es : List Tree} {z : Int} {val : Value} (hb : rdH H b = .tre (.int .i64) es) (hi : allI es = true) (hlen : es.length < 4611686018427387904) (hz : limOk es.length z = true)
    (hr : RepA φ (rdH H) w I (.hsl b k) val) (sm : Sim φ I (rdH H) w) :
    Calls P g #[val, .int .i64 0, .int .i64 es.length, .int .i64 z] w (Comes' φ I H w (.t (.tup [])) (setN H b (.tre (.int .i64) (sortT es)))) := by
  have hal : (rdH H b).alive = true := by rw [hb]; rfl
  have hmut : (rdH H b).mut = true := by rw [hb]; rfl
  have hels : (rdH H b).els = es.map .t := by rw [hb]; rfl
  have hbl : b < H.length := by
    rcases Nat.lt_or_ge b H.length with h | h
    · exact h
    · rw [rdH_unborn H b h] at hb; cases hb
  have erd : rdH (setN H b (.tre (.int .i64) (sortT es))) = upd (rdH H) b (.tre (.int .i64) (sortT es)) := rdH_set H b _ hbl
  -- no element
  have none : es = [] → ∀ (a : Option Addr) (c : Nat), val = .slice a 0 c → Calls P g #[val, .int .i64 0, .int .i64 es.length, .int .i64 z] w (Comes' φ I H w (.t (.tup [])) (setN H b (.tre (.int .i64) (sortT es)))) := by
    intro he a c hv
    subst hv; subst he
    have hz0 : z = 0 := by simpa [limOk] using hz
    subst hz0
    refine Calls.mono (S.empty a c w) fun e w' h => ?_
    obtain ⟨rfl, rfl⟩ := h
    have same : upd (rdH H) b (.tre (.int .i64) (sortT [])) = rdH H := by
      funext x
      unfold upd
      split
      · rename_i e; rw [e, hb]; simp [sortT]
      · rfl
    refine ⟨_, φ, I, rfl, ?_, ?_, ?_⟩ <;> rw [erd, same]
    · exact tup0 _ _ _ _
    · exact sm
    · exact .refl _ _ _ _
  cases hr with
  | hslD _ _ A n c h => rw [hb] at h; cases h
  | hsl0 _ _ a h h0 hk =>
    rw [hels] at h0
    have : es = [] := by simpa using h0
    exact none this a 0 rfl
  | hsl _ _ g' C c h hφ h1 h2 hk =>
    rw [hels] at none ⊢
    simp only [List.length_map] at none ⊢
    by_cases he : es = []
    · exact none he (some ⟨g', 0, Option.none⟩) c (by rw [he]; rfl)
    obtain ⟨arr, T, hg, ha⟩ := (sm.row hal hφ).arr
    rw [hb] at ha
    have ha : ArrOk φ (rdH H) w I arr C (.int .i64) (es.map .t) := ha
    have hgs : g' < w.heap.size := sm.lt hal hφ
    have hC : C ≤ arr.size := by have := ha.size; simpa [Sh.width] using this
    have hCl : es.length ≤ C := by have := ha.len; simpa using this
    let zs := es.map Tree.toInt
    have hzl : zs.length = es.length := by simp [zs]
    have cell : ∀ (i : Nat) (x : Int), zs[i]? = some x → arr[i]? = some (.int .i64 x) := by
      intro i x hx
      have hx : (es.map Tree.toInt)[i]? = some x := hx
      have e1 : es[i]? = some (.int .i64 x) := by rw [allI_map hi, List.getElem?_map, hx]; rfl
      have e2 : (es.map AV.t)[i]? = some (.t (.int .i64 x)) := by rw [List.getElem?_map, e1]; rfl
      obtain ⟨v, hv, hrv⟩ := (ha.cells i _ e2).2 0 (.t (.int .i64 x)) rfl
      have : i * (Sh.int IntKind.i64).width + 0 = i := by simp [Sh.width]
      rw [this] at hv
      cases hrv with
      | t _ _ hrv => cases hrv; exact hv
    have hH : Holds (Value.int .i64) w g' 0 zs.toArray := by
      intro j hj
      have hj' : j < zs.length := by simpa using hj
      have hx : zs[j]? = some zs[j] := by simp
      have hc := cell j _ hx
      have : zs.toArray[j]! = zs[j] := by simp [getElem!_pos, hj']
      rw [this]
      constructor
      · simp only [World.cell?, hg, Nat.zero_add]; exact hc
      · simp [World.frozen?, hg]
    have hlz : (0 ≤ z ∧ z < 4611686018427387904) := by
      have hne : Nat.beq es.length 0 = false := by cases es with | nil => exact absurd rfl he | cons _ _ => rfl
      unfold limOk at hz
      rw [hne, cond_false] at hz
      simpa using hz
    have hcall := S.sorts g' c z.toNat zs w hH hgs (by rw [hzl]; exact hlen) (by omega)
    rw [hzl, show ((z.toNat : Nat) : Int) = z by omega] at hcall
    refine Calls.mono hcall fun e w' hx => ?_
    obtain ⟨rfl, n, os, rfl⟩ := hx
    let ss := zs.mergeSort fun x y => decide (x ≤ y)
    have hss : ss.length = es.length := by simp [ss, hzl]
    have esort : sortT es = ss.map (Tree.int .i64) := rfl
    let arr' := putCells (Value.int .i64) 0 ss.toArray arr
    have hput : (putRow (Value.int .i64) (Sort.ahead w n) g' 0 ss.toArray).heap[g']? = some (.cells arr' T (0, 0)) := by
      simp only [putRow, mapBlock, Array.getElem?_modify, Sort.ahead, hg, if_true, Option.map_some, onCells]; rfl
    have hsz : (putRow (Value.int .i64) (Sort.ahead w n) g' 0 ss.toArray).heap.size = w.heap.size := by simp [Sort.ahead]
    have hw0 : (grow (putRow (Value.int .i64) (Sort.ahead w n) g' 0 ss.toArray) os).heap[g']? = some (.cells arr' T (0, 0)) := by
      rw [heap_grow_old _ _ (by rw [hsz]; exact hgs)]; exact hput
    obtain ⟨sm', E⟩ := sm.grown (b := b) (g := g') (C := C) hmut hφ (.tre (.int .i64) (sortT es)) rfl (by rw [hb]; rfl) (by rw [hels]; simp [HObj.els, sortT_length]) hw0
      (fun q hq hne => by
        rw [heap_grow_old _ _ (by rw [hsz]; exact hq)]
        simp [putRow, mapBlock, Array.getElem?_modify, Sort.ahead, Ne.symm hne])
      (by simp [Sort.ahead]) rfl rfl rfl
      { size := by simp [Sh.width, HObj.sh, arr', putCells]; exact hC
        len := by simp [HObj.els, sortT_length]; exact hCl
        cells := fun i x hx => by
          have hx : ((sortT es).map AV.t)[i]? = some x := hx
          rw [esort, List.map_map, List.getElem?_map] at hx
          cases hs : ss[i]? with
          | none => rw [hs] at hx; cases hx
          | some y =>
            rw [hs] at hx; cases hx
            have hi' : i < ss.length := (List.getElem?_eq_some_iff.1 hs).1
            refine ⟨⟨rfl, rfl⟩, fun j u hu => ?_⟩
            cases j with
            | succ j => simp [AV.cells, Tree.cells] at hu
            | zero =>
              cases hu
              refine ⟨.int .i64 y, ?_, .t _ _ (.int _ _)⟩
              have : i * (HObj.sh (.tre (.int .i64) (sortT es))).width + 0 = i := by simp [Sh.width, HObj.sh]
              rw [this]
              have hia : i < arr.size := by omega
              simp only [arr', putCells, Array.getElem?_mapIdx, Array.getElem?_eq_getElem hia, Option.map_some, Nat.zero_le, true_and, Nat.zero_add, Nat.sub_zero, List.size_toArray]
              rw [if_pos hi']
              congr 2
              have := (List.getElem?_eq_some_iff.1 hs).2
              simp [getElem!_pos, hi', this] }
    exact ⟨_, φ, I, rfl, tup0 _ _ _ _, by rw [erd]; exact sm', by rw [erd]; exact E⟩

theorem sortA_sound {P : Program} {g : Nat} (S : SrtOk P g) (args : List AV) (H : Heap) (v : AV) (H' : Heap) (h0 : sortC args H = true) (h : sortA args H = some (v, H')) :
    Bw.callable P g = true ∧ ∀ (φ : Phi) (w : World) (I : Nat → Prop) (vals : Array Value), RepL φ (rdH H) w I args vals.toList → Sim φ I (rdH H) w → Calls P g vals w (Comes' φ I H w v H') := by
  refine ⟨S.callable, fun φ w I vals hr sm => ?_⟩
  unfold sortC at h0
  split at h0
  · rename_i b k kx x ky y kz z
    split at h0
    · rename_i s es hb
      simp only [sortA, hb] at h
      rw [Bool.and_eq_true] at h0
      obtain ⟨c1, c2⟩ := h0
      cases h
      simp only [Bool.and_eq_true, decide_eq_true_eq] at c1 c2
      obtain ⟨q1, q2, q3, q4⟩ := c1
      obtain ⟨p1, p2, p3, p4, p5⟩ := c2
      rw [shEq_eq q1] at hb
      have := kindEq_eq q2; have := kindEq_eq q3; have := kindEq_eq q4
      subst kx; subst ky; subst kz; subst p2; subst p3
      obtain ⟨hl, hv⟩ := hr
      match vals, hl, hv with
      | ⟨[v0, v1, v2, v3]⟩, _, hv =>
        have r0 := hv 0 _ v0 rfl rfl
        have r1 := hv 1 _ v1 rfl rfl
        have r2 := hv 2 _ v2 rfl rfl
        have r3 := hv 3 _ v3 rfl rfl
        cases r1 with | t _ _ r1 => cases r2 with | t _ _ r2 => cases r3 with | t _ _ r3 =>
        cases r1; cases r2; cases r3
        exact srt_run S hb p1 (by simpa using p4) p5 r0 sm
    · cases h0
  · cases h0

end Go.Proofs.Bw
end

/-
  THE ABSTRACT WALK, 31: a program's functions as a table.
-/
section
namespace Go.Proofs.Bw

inductive Tab where
  | nil
  | leaf (k : Nat) (fi : FInfo)
  | sum (k : Nat) (C : List AV → Heap → Bool) (S : List AV → Heap → Option (AV × Heap))
  | node (k : Nat) (l r : Tab)

def Tab.get : Tab → Nat → Option FInfo
  | .nil, _ => none
  | .leaf k fi, f => bif Nat.beq f k then some fi else none
  | .sum _ _ _, _ => none
  | .node k l r, f => bif Nat.blt f k then l.get f else r.get f

def Tab.has : Tab → Nat → Bool
  | .nil, _ => false
  | .leaf _ _, _ => false
  | .sum k _ _, f => Nat.beq f k
  | .node k l r, f => bif Nat.blt f k then l.has f else r.has f

def Tab.sumOf : Tab → Nat → List AV → Heap → Option (AV × Heap)
  | .nil, _, _, _ => none
  | .leaf _ _, _, _, _ => none
  | .sum k _ S, f, args, H => bif Nat.beq f k then S args H else none
  | .node k l r, f, args, H => bif Nat.blt f k then l.sumOf f args H else r.sumOf f args H

def Tab.condOf : Tab → Nat → List AV → Heap → Bool
  | .nil, _, _, _ => false
  | .leaf _ _, _, _, _ => false
  | .sum k C _, f, args, H => bif Nat.beq f k then C args H else false
  | .node k l r, f, args, H => bif Nat.blt f k then l.condOf f args H else r.condOf f args H

def Tab.env (t : Tab) : Env := ⟨t.get, t.has, t.condOf, t.sumOf⟩

/-- A summary is what the model does. -/
def SumOk (P : Program) (g : Nat) (C : List AV → Heap → Bool) (S : List AV → Heap → Option (AV × Heap)) : Prop :=
  ∀ args H v H', C args H = true → S args H = some (v, H') → callable P g = true ∧ ∀ (φ : Phi) (w : World) (I : Nat → Prop) (vals : Array Value), RepL φ (rdH H) w I args vals.toList → Sim φ I (rdH H) w → Calls P g vals w (Comes' φ I H w v H')

def Tab.Ok (P : Program) : Tab → Prop
  | .nil => True
  | .leaf k fi => ∃ live rs, compF P k live rs = some fi
  | .sum k C S => SumOk P k C S
  | .node _ l r => l.Ok P ∧ r.Ok P

theorem Tab.codeOk {P : Program} : ∀ {t : Tab}, t.Ok P → ∀ f fi, t.get f = some fi → ∃ live rs, compF P f live rs = some fi
  | .nil, _, f, fi, h => by cases h
  | .sum _ _ _, _, f, fi, h => by cases h
  | .leaf k fi', hk, f, fi, h => by
    have h : (bif Nat.beq f k then some fi' else none) = some fi := h
    cases hb : Nat.beq f k with
    | true =>
      rw [hb, cond_true] at h
      cases h
      have e := Nat.eq_of_beq_eq_true hb
      rw [e]
      exact hk
    | false => rw [hb] at h; cases h
  | .node k l r, ⟨hl, hr⟩, f, fi, h => by
    have h : (bif Nat.blt f k then l.get f else r.get f) = some fi := h
    cases hb : Nat.blt f k with
    | true => rw [hb] at h; exact Tab.codeOk hl f fi h
    | false => rw [hb] at h; exact Tab.codeOk hr f fi h

theorem Tab.sumsOk {P : Program} : ∀ {t : Tab}, t.Ok P → ∀ f, SumOk P f (t.condOf f) (t.sumOf f)
  | .nil, _, f => fun _ _ _ _ _ h => by cases h
  | .leaf _ _, _, f => fun _ _ _ _ _ h => by cases h
  | .sum k C S, hk, f => fun args H v H' h0 h => by
    obtain ⟨h1, h2⟩ := bif_some h
    have h0 : (bif Nat.beq f k then C args H else false) = true := h0
    rw [h1, cond_true] at h0
    rw [Nat.eq_of_beq_eq_true h1]
    exact hk args H v H' h0 h2
  | .node k l r, ⟨hl, hr⟩, f => fun args H v H' h0 h => by
    have h : (bif Nat.blt f k then l.sumOf f args H else r.sumOf f args H) = some (v, H') := h
    have h0 : (bif Nat.blt f k then l.condOf f args H else r.condOf f args H) = true := h0
    cases hb : Nat.blt f k with
    | true => rw [hb] at h h0; exact Tab.sumsOk hl f args H v H' h0 h
    | false => rw [hb] at h h0; exact Tab.sumsOk hr f args H v H' h0 h

theorem Tab.envOk {P : Program} {t : Tab} (h : t.Ok P) : EnvOk P t.env where
  code := Tab.codeOk h
  sum := fun g args H v H' _ h0 hs => Tab.sumsOk h g args H v H' h0 hs

theorem srt_sum {P : Program} {g : Nat} (S : SrtOk P g) : SumOk P g sortC sortA := sortA_sound S

/-- What a call comes to in a table's reckoning, with whatever fuel, is a summary. -/
theorem run_sum {P : Program} {t : Tab} (h : t.Ok P) (hm : P.follows .mixedOrders = true) {g : Nat} {C : List AV → Heap → Bool} {S : List AV → Heap → Option (AV × Heap)} (hS : ∀ args H r, C args H = true → S args H = some r → ∃ k, runFn t.env k g args H = some r) : SumOk P g C S :=
  fun args H v H' h0 hs => by
    obtain ⟨k, hk⟩ := hS args H (v, H') h0 hs
    exact (runFn_sound (Tab.envOk h) hm k).rf g args H v H' rfl hk

end Go.Proofs.Bw
end

/-
  THE ABSTRACT WALK, 32: a row's readings as trees.
-/
section
namespace Go.Proofs.Bw

/-- A value of a type, its cells in hand. -/
def mkTree (P : Program) (t : TypeId) (cs : List Tree) : Tree :=
  match tyAgg P t with
  | some true => .agg cs
  | _ => cs.headD .nilp

/-- The cells of a value of a type. -/
inductive TV (P : Program) : TypeId → List Tree → Prop where
  | bool (t : TypeId) (b : Bool) (h : P.underlying t = some .bool) : TV P t [.bool b]
  | int (t : TypeId) (k : IntKind) (n : Int) (h : P.underlying t = some (.int k)) (hw : (Lit.int k n).wf = true) : TV P t [.int k n]
  | str (t : TypeId) (s : List UInt8) (h : P.underlying t = some .string) (hl : s.length ≤ reachBytes) : TV P t [.str s]
  | slc (t e : TypeId) (es : List Tree) (h : P.underlying t = some (.slice e)) (hl : es.length * P.bytesOf e ≤ reachBytes) (hm : es.length ≤ maxLen)
      (h1 : ∀ x, x ∈ es → x.fl = true ∧ x = mkTree P e x.cells) (h2 : ∀ x, x ∈ es → TV P e x.cells) : TV P t [.slc es]
  | struct (t : TypeId) (fs : Array Field) (cs : List Tree) (h : P.underlying t = some (.struct fs)) (hl : cs.length = P.cellsOf t)
      (hf : ∀ f, f ∈ fs.toList → TV P f.type ((cs.drop f.offset).take (P.cellsOf f.type))) : TV P t cs
  | array (t : TypeId) (n : Nat) (e : TypeId) (cs : List Tree) (h : P.underlying t = some (.array n e)) (hl : cs.length = P.cellsOf t)
      (hf : ∀ i, i < n → TV P e ((cs.drop (i * P.cellsOf e)).take (P.cellsOf e))) : TV P t cs

/-- A value of a type. -/
def WT (P : Program) (t : TypeId) (x : Tree) : Prop := x.fl = true ∧ x = mkTree P t x.cells ∧ TV P t x.cells

def tiles (P : Program) (L : List Nat) (total : Nat) : Nat → List Field → Bool
  | off, [] => Nat.beq off total
  | off, f :: r => memN L f.type && (Nat.beq f.offset off && tiles P L total (off + P.cellsOf f.type) r)

/-- Types of which all parts are plain data, and of the list. -/
def kidsOk (P : Program) (L : List Nat) (t : TypeId) : Bool :=
  match P.underlying t with
  | some .bool => true
  | some (.int _) => true
  | some .string => true
  | some (.slice e) => memN L e && Nat.ble 1 (P.cellsOf e)
  | some (.struct fs) => tiles P L (P.cellsOf t) 0 fs.toList
  | some (.array n e) => memN L e && Nat.beq (n * P.cellsOf e) (P.cellsOf t)
  | _ => false

def kidsB (P : Program) (L : List Nat) : Bool := L.all (kidsOk P L)

theorem mapM_some {α β : Type} {f : α → Option β} : ∀ {l : List α} {r : List β}, l.mapM f = some r → r.length = l.length ∧ ∀ (i : Nat) x y, l[i]? = some x → r[i]? = some y → f x = some y
  | [], r, h => by simp at h; subst h; exact ⟨rfl, fun i x y h => by simp at h⟩
  | x :: l, r, h => by
    rw [List.mapM_cons] at h
    cases hx : f x with
    | none => simp [hx] at h
    | some y =>
      cases hl : l.mapM f with
      | none => simp [hx, hl] at h
      | some r' =>
        simp [hx, hl] at h; subst h
        obtain ⟨h1, h2⟩ := mapM_some hl
        refine ⟨by simp [h1], fun i a b ha hb => ?_⟩
        cases i with
        | zero => simp at ha hb; subst ha; subst hb; exact hx
        | succ i => exact h2 i a b (by simpa using ha) (by simpa using hb)

theorem cells_some {w : World} {a : Addr} {n : Nat} {l : List Value} (h : w.cells? 0 a n = some l) : l.length = n ∧ ∀ i, i < n → w.cell? (a.add i) = l[i]? := by
  unfold World.cells? at h
  rw [if_pos (Nat.zero_le _)] at h
  obtain ⟨h1, h2⟩ := mapM_some h
  rw [List.length_range] at h1
  refine ⟨h1, fun i hi => ?_⟩
  have hl : i < l.length := by omega
  rw [List.getElem?_eq_getElem hl]
  exact h2 i i _ (by simp [hi]) (by simp)

def oldI (w : World) : Nat → Prop := fun b => b < w.heap.size

theorem cell_lt {w : World} {b o : Nat} {s : Option Nat} {v : Value} (h : w.cell? ⟨b, o, s⟩ = some v) : b < w.heap.size ∧ s = none := by
  unfold World.cell? at h
  simp only at h
  split at h
  · rename_i hq
    refine ⟨(Array.getElem?_eq_some_iff.1 hq).1, ?_⟩
    cases s with
    | none => rfl
    | some s => simp at h
  · cases h

theorem TV.one {P : Program} {t : TypeId} {cs : List Tree} (h : TV P t cs) (ha : tyAgg P t ≠ some true) : ∃ x, cs = [x] ∧ x.isSc = true := by
  cases h with
  | bool b h => exact ⟨_, rfl, rfl⟩
  | int k n h hw => exact ⟨_, rfl, rfl⟩
  | str s h hl => exact ⟨_, rfl, rfl⟩
  | slc e es h hl hm h1 h2 => exact ⟨_, rfl, rfl⟩
  | struct _ fs _ h => exact absurd (by simp [tyAgg, h]) ha
  | array _ n e _ h => exact absurd (by simp [tyAgg, h]) ha

theorem mkTree_cells {P : Program} {t : TypeId} {cs : List Tree} (h : TV P t cs) : (mkTree P t cs).cells = cs := by
  unfold mkTree
  split
  · rfl
  · rename_i ha
    obtain ⟨x, rfl, hx⟩ := h.one (fun e => ha e)
    exact Tree.cells_len_sc hx

theorem mkTree_WT {P : Program} {t : TypeId} {cs : List Tree} (h : TV P t cs) (hs : ∀ x, x ∈ cs → x.isSc = true) : WT P t (mkTree P t cs) := by
  refine ⟨?_, by rw [mkTree_cells h], by rw [mkTree_cells h]; exact h⟩
  unfold Tree.fl
  rw [mkTree_cells h]
  exact List.all_eq_true.2 hs

section
variable {H : Type} {enc : TypeId × Value → H} {P : Program} {w : World} {sp : Nat → Bool} {held : Bool} {L : List Nat}

/-- What a reading of cells gives. -/
def Read (P : Program) (w : World) (t : TypeId) (cs : List Value) : Prop := ∃ ts : List Tree, RepTL w (oldI w) ts cs ∧ TV P t ts ∧ ∀ x, x ∈ ts → x.isSc = true

theorem RepTL.nil' {w : World} {I : Nat → Prop} : RepTL w I [] [] := ⟨rfl, fun i x v h => by simp at h⟩

theorem RepTL.one {w : World} {I : Nat → Prop} {x : Tree} {v : Value} (h : RepT w I x v) : RepTL w I [x] [v] := by
  refine ⟨rfl, fun i y u hy hu => ?_⟩
  cases i with
  | zero => simp at hy hu; subst hy; subst hu; exact h
  | succ i => simp at hy

theorem RepTL.append {w : World} {I : Nat → Prop} {xs ys : List Tree} {us vs : List Value} (h : RepTL w I xs us) (k : RepTL w I ys vs) : RepTL w I (xs ++ ys) (us ++ vs) := by
  refine ⟨by simp [h.1, k.1], fun i x v hx hv => ?_⟩
  rcases Nat.lt_or_ge i xs.length with hi | hi
  · rw [List.getElem?_append_left hi] at hx
    rw [List.getElem?_append_left (by rw [h.1]; exact hi)] at hv
    exact h.2 i x v hx hv
  · rw [List.getElem?_append_right hi] at hx
    rw [List.getElem?_append_right (by rw [h.1]; exact hi), h.1] at hv
    exact k.2 _ x v hx hv

/-- A slice whose elements are read one by one. -/
theorem read_slice {t e : TypeId} {a : Addr} {len cap : Nat} (ht : P.underlying t = some (.slice e)) (hc1 : 1 ≤ P.cellsOf e) (hcap : len ≤ cap) (hm : len ≤ maxLen) (hb : len * P.bytesOf e ≤ reachBytes)
    (hr : ∀ i, i < len → ∃ cs, w.cells? 0 (a.add (i * P.cellsOf e)) (P.cellsOf e) = some cs ∧ Read P w e cs) : Read P w t [.slice (some a) len cap] := by
  have hch : ∃ f : Nat → List Tree, ∀ i, i < len → ∃ cs, w.cells? 0 (a.add (i * P.cellsOf e)) (P.cellsOf e) = some cs ∧ RepTL w (oldI w) (f i) cs ∧ TV P e (f i) ∧ ∀ x, x ∈ f i → x.isSc = true := by
    refine ⟨fun i => if h : i < len then (hr i h).choose_spec.2.choose else [], fun i hi => ?_⟩
    simp only [dif_pos hi]
    exact ⟨_, (hr i hi).choose_spec.1, (hr i hi).choose_spec.2.choose_spec⟩
  obtain ⟨f, hf⟩ := hch
  have hel : ∀ (i : Nat) x, ((List.range len).map fun i => mkTree P e (f i))[i]? = some x → i < len ∧ x = mkTree P e (f i) := by
    intro i x hx
    rw [List.getElem?_map] at hx
    rcases Nat.lt_or_ge i len with hi | hi
    · simp [hi] at hx; exact ⟨hi, hx.symm⟩
    · simp [List.getElem?_range, hi] at hx
  have hlen : ((List.range len).map fun i => mkTree P e (f i)).length = len := by simp
  have hwt : ∀ x, x ∈ ((List.range len).map fun i => mkTree P e (f i)) → WT P e x := by
    intro x hx
    obtain ⟨i, hi, rfl⟩ := List.mem_map.1 hx
    obtain ⟨cs, _, _, h3, h4⟩ := hf i (by simpa using hi)
    exact mkTree_WT h3 h4
  refine ⟨[.slc ((List.range len).map fun i => mkTree P e (f i))], RepTL.one ?_, .slc t e _ ht (by rw [hlen]; exact hb) (by rw [hlen]; exact hm) (fun x hx => ⟨(hwt x hx).1, (hwt x hx).2.1⟩) (fun x hx => (hwt x hx).2.2), fun x hx => by simp at hx; subst hx; rfl⟩
  rcases Nat.eq_zero_or_pos len with h0 | hpos
  · subst h0; exact .slc0 (some a) cap
  · obtain ⟨b, o, s⟩ := a
    have hsp : s = none := by
      obtain ⟨cs, h1, h2, _⟩ := hf 0 hpos
      obtain ⟨k1, k2⟩ := cells_some h1
      have := k2 0 (by omega)
      rw [show ((⟨b, o, s⟩ : Addr).add (0 * P.cellsOf e)).add 0 = ⟨b, o, s⟩ by simp [Addr.add], List.getElem?_eq_getElem (by omega)] at this
      exact (cell_lt this).2
    subst hsp
    have hcells : ∀ (i j : Nat) x y, ((List.range len).map fun i => mkTree P e (f i))[i]? = some x → x.cells[j]? = some y → ∃ v, w.cell? ⟨b, o + i * P.cellsOf e + j, none⟩ = some v ∧ RepT w (oldI w) y v := by
      intro i j x y hx hy
      obtain ⟨hi, rfl⟩ := hel i x hx
      obtain ⟨cs, h1, h2, h3, h4⟩ := hf i hi
      obtain ⟨k1, k2⟩ := cells_some h1
      rw [mkTree_cells h3] at hy
      have hj : j < cs.length := by have := (List.getElem?_eq_some_iff.1 hy).1; have := h2.1; omega
      have := k2 j (by omega)
      rw [Addr.add_none, Addr.add_none, List.getElem?_eq_getElem hj] at this
      exact ⟨_, this, h2.2 j y _ hy (by simp)⟩
    have hlt : oldI w b := by
      obtain ⟨cs, h1, h2, _⟩ := hf 0 hpos
      obtain ⟨k1, k2⟩ := cells_some h1
      have := k2 0 (by omega)
      rw [Addr.add_none, Addr.add_none, List.getElem?_eq_getElem (by omega)] at this
      exact (cell_lt this).1
    have := RepT.slc (w := w) (I := oldI w) ((List.range len).map fun i => mkTree P e (f i)) b o cap (P.cellsOf e) (fun i j => (w.cell? ⟨b, o + i * P.cellsOf e + j, none⟩).getD undef) hlt (by rw [hlen]; exact hcap)
      (fun i x hx => by
        obtain ⟨hi, rfl⟩ := hel i x hx
        obtain ⟨cs, h1, h2, h3, h4⟩ := hf i hi
        rw [mkTree_cells h3]
        have := h2.1; have := (cells_some h1).1; omega)
      (fun x hx => (hwt x hx).1)
      (fun i j x y hx hy => by obtain ⟨v, hv, _⟩ := hcells i j x y hx hy; rw [hv]; rfl)
      (fun i j x y hx hy => by obtain ⟨v, hv, hr⟩ := hcells i j x y hx hy; rw [hv]; exact hr)
    rw [hlen] at this
    exact this

/-- Parts one behind the other. -/
theorem read_parts (total : Nat) : ∀ (fs : List Field) (off : Nat) (cs : List Value), cs.length = total → tiles P L total off fs = true → off ≤ total →
    (∀ f, f ∈ fs → f.type ∈ L → Read P w f.type ((cs.drop f.offset).take (P.cellsOf f.type))) →
    ∃ ts : List Tree, RepTL w (oldI w) ts (cs.drop off) ∧ (∀ x, x ∈ ts → x.isSc = true) ∧ ∀ f, f ∈ fs → off ≤ f.offset ∧ TV P f.type ((ts.drop (f.offset - off)).take (P.cellsOf f.type))
  | [], off, cs, hl, ht, hle, _ => by
    simp only [tiles] at ht
    have := Nat.eq_of_beq_eq_true ht
    refine ⟨[], ?_, fun x h => by simp at h, fun f h => by simp at h⟩
    rw [List.drop_eq_nil_of_le (by omega)]
    exact RepTL.nil'
  | f :: fs, off, cs, hl, ht, hle, hr => by
    simp only [tiles, Bool.and_eq_true] at ht
    obtain ⟨h1, h2, h3⟩ := ht
    have h2 := Nat.eq_of_beq_eq_true h2
    have hle2 : ∀ (fs : List Field) (o : Nat), tiles P L total o fs = true → o ≤ total := by
      intro fs
      induction fs with
      | nil => intro o h; simp only [tiles] at h; have := Nat.eq_of_beq_eq_true h; omega
      | cons g gs ih =>
        intro o h
        simp only [tiles, Bool.and_eq_true] at h
        have := ih _ h.2.2
        omega
    have hb := hle2 fs _ h3
    obtain ⟨t1, k1, k2, k3⟩ := hr f (by simp) ((memN_iff _ _).1 h1)
    obtain ⟨t2, m1, m2, m3⟩ := read_parts total fs (off + P.cellsOf f.type) cs hl h3 hb fun g hg hgL => hr g (by simp [hg]) hgL
    have hl1 : t1.length = P.cellsOf f.type := by
      have := k1.1
      rw [List.length_take, List.length_drop] at this
      omega
    refine ⟨t1 ++ t2, ?_, fun x hx => ?_, fun g hg => ?_⟩
    · have hsplit : cs.drop off = (cs.drop f.offset).take (P.cellsOf f.type) ++ cs.drop (off + P.cellsOf f.type) := by
        rw [h2, ← List.drop_drop, List.take_append_drop]
      rw [hsplit]
      exact k1.append m1
    · rcases List.mem_append.1 hx with h | h
      · exact k3 x h
      · exact m2 x h
    · rcases List.mem_cons.1 hg with e | hg
      · subst e
        refine ⟨by omega, ?_⟩
        rw [h2, Nat.sub_self, List.drop_zero, ← hl1, List.take_left]
        exact k2
      · obtain ⟨p1, p2⟩ := m3 g hg
        refine ⟨by omega, ?_⟩
        rw [show g.offset - off = t1.length + (g.offset - (off + P.cellsOf f.type)) by omega, List.drop_append]
        rw [List.drop_eq_nil_of_le (by omega), List.nil_append, show t1.length + (g.offset - (off + P.cellsOf f.type)) - t1.length = g.offset - (off + P.cellsOf f.type) by omega]
        exact p2

end

end Go.Proofs.Bw
end

/-
  THE ABSTRACT WALK, 33: a row's readings as trees: the theorem.
-/
section
namespace Go.Proofs.Bw

section
variable {H : Type} {enc : TypeId × Value → H} {P : Program} {w : World} {sp : Nat → Bool} {held : Bool} {L : List Nat}

theorem all_app {p : Nat → Bool} {l m : List Nat} (h : (l ++ m).all p = true) : l.all p = true ∧ m.all p = true := by simpa [List.all_append] using h

theorem weightsAll_get {e : TypeId} : ∀ {ds : List (DataW H)} {i : Nat} {d : DataW H}, (DataW.weightsAll P e ds).all (· ≤ reachBytes) = true → ds[i]? = some d → (d.weights P e).all (· ≤ reachBytes) = true
  | [], i, d, _, h => by simp at h
  | x :: ds, i, d, hw, h => by
    simp only [DataW.weightsAll] at hw
    obtain ⟨h1, h2⟩ := all_app hw
    cases i with
    | zero => simp at h; subst h; exact h1
    | succ i => exact weightsAll_get h2 (by simpa using h)

theorem weightsEach_get : ∀ {ts : List TypeId} {ds : List (DataW H)} {i : Nat} {t : TypeId} {d : DataW H}, (DataW.weightsEach P ts ds).all (· ≤ reachBytes) = true → ts[i]? = some t → ds[i]? = some d → (d.weights P t).all (· ≤ reachBytes) = true
  | [], _, i, t, d, _, h, _ => by simp at h
  | _ :: _, [], i, t, d, _, _, h => by simp at h
  | t0 :: ts, x :: ds, i, t, d, hw, h, k => by
    simp only [DataW.weightsEach] at hw
    obtain ⟨h1, h2⟩ := all_app hw
    cases i with
    | zero => simp at h k; subst h; subst k; exact h1
    | succ i => exact weightsEach_get h2 (by simpa using h) (by simpa using k)

theorem kidsB_spec (hk : kidsB P L = true) {t : TypeId} (ht : t ∈ L) : kidsOk P L t = true := List.all_eq_true.1 hk t ht

theorem trod_bool {fuel : Nat} {t : TypeId} {cs : List Value} {d : DataW H} {ps : List MemPlace} (hu : P.underlying t = some .bool) (h : DataW.trod enc P w 0 sp held (fuel + 1) t cs = some (d, ps)) : ∃ b, cs = [.bool b] := by
  match cs, h with
  | [], h => simp [DataW.trod, hu] at h
  | [v], h => cases v <;> simp [DataW.trod, hu] at h; exact ⟨_, rfl⟩
  | v :: u :: r, h => simp [DataW.trod, hu] at h

theorem trod_int {fuel : Nat} {t : TypeId} {k : IntKind} {cs : List Value} {d : DataW H} {ps : List MemPlace} (hu : P.underlying t = some (.int k)) (h : DataW.trod enc P w 0 sp held (fuel + 1) t cs = some (d, ps)) :
    ∃ n, cs = [.int k n] ∧ (Lit.int k n).wf = true := by
  match cs, h with
  | [], h => simp [DataW.trod, hu] at h
  | [v], h =>
    cases v <;> simp [DataW.trod, hu] at h
    obtain ⟨⟨rfl, h⟩, _⟩ := h
    exact ⟨_, rfl, h⟩
  | v :: u :: r, h => simp [DataW.trod, hu] at h

theorem trod_str {fuel : Nat} {t : TypeId} {cs : List Value} {d : DataW H} {ps : List MemPlace} (hu : P.underlying t = some .string) (h : DataW.trod enc P w 0 sp held (fuel + 1) t cs = some (d, ps)) :
    ∃ s : ByteArray, cs = [.string s] ∧ d = .lit (.string s.data.toList) := by
  match cs, h with
  | [], h => simp [DataW.trod, hu] at h
  | [v], h =>
    cases v <;> simp [DataW.trod, hu] at h
    obtain ⟨_, h, _⟩ := h
    exact ⟨_, rfl, h.symm⟩
  | v :: u :: r, h => simp [DataW.trod, hu] at h

theorem trod_slice {fuel : Nat} {t e : TypeId} {cs : List Value} {d : DataW H} {ps : List MemPlace} (hu : P.underlying t = some (.slice e)) (h : DataW.trod enc P w 0 sp held (fuel + 1) t cs = some (d, ps)) :
    cs = [.slice none 0 0] ∨ ∃ (a : Addr) (len cap : Nat) (elems rest : List (DataW H × List MemPlace)), cs = [.slice (some a) len cap] ∧ len ≤ cap ∧ cap ≤ maxLen ∧ elems.length = len ∧ d = .slice (elems.map (·.1)) (rest.map (·.1)) ∧
      ∀ i, i < len → ∃ c x, w.cells? 0 (a.add (i * P.cellsOf e)) (P.cellsOf e) = some c ∧ elems[i]? = some x ∧ DataW.trod enc P w 0 sp held fuel e c = some x := by
  match cs, h with
  | [], h => simp [DataW.trod, hu] at h
  | v :: u :: r, h => simp [DataW.trod, hu] at h
  | [v], h =>
    cases v with
    | slice a len cap =>
      cases a with
      | none =>
        left
        unfold DataW.trod at h
        rw [hu] at h
        match len, cap, h with
        | 0, 0, _ => rfl
        | l + 1, _, h => simp at h
        | 0, c + 1, h => simp at h
      | some a =>
        right
        unfold DataW.trod at h
        rw [hu] at h
        simp only at h
        split at h
        · rename_i hb
          simp only [Option.bind_eq_some_iff, Option.map_eq_some_iff] at h
          obtain ⟨elems, he, rest, hr, hd⟩ := h
          obtain ⟨k1, k2⟩ := mapM_some he
          rw [List.length_range] at k1
          refine ⟨a, len, cap, elems, rest, rfl, hb.2.1, hb.2.2, k1, by cases hd; rfl, fun i hi => ?_⟩
          have hx : elems[i]? = some (elems[i]'(by omega)) := by simp
          have := k2 i i _ (by simp [hi]) hx
          simp only [Option.bind_eq_some_iff] at this
          obtain ⟨c, hc, ht⟩ := this
          exact ⟨c, _, hc, hx, ht⟩
        · cases h
    | _ => simp [DataW.trod, hu] at h

theorem trod_struct {fuel : Nat} {t : TypeId} {fs : Array Field} {cs : List Value} {d : DataW H} {ps : List MemPlace} (hu : P.underlying t = some (.struct fs)) (h : DataW.trod enc P w 0 sp held (fuel + 1) t cs = some (d, ps)) :
    cs.length = P.cellsOf t ∧ ∃ xs : List (DataW H × List MemPlace), d = .agg (xs.map (·.1)) ∧ xs.length = fs.toList.length ∧
      ∀ (i : Nat) f, fs.toList[i]? = some f → ∃ x, xs[i]? = some x ∧ DataW.trod enc P w 0 sp held fuel f.type ((cs.drop f.offset).take (P.cellsOf f.type)) = some x := by
  unfold DataW.trod at h
  rw [hu] at h
  simp only at h
  split at h
  · rename_i hl
    simp only [Option.map_eq_some_iff] at h
    obtain ⟨xs, hx, hd⟩ := h
    obtain ⟨k1, k2⟩ := mapM_some hx
    refine ⟨hl, xs, by cases hd; rfl, k1, fun i f hf => ?_⟩
    have hi : i < xs.length := by have := (List.getElem?_eq_some_iff.1 hf).1; omega
    exact ⟨xs[i], by simp, k2 i f _ hf (by simp)⟩
  · cases h

theorem trod_array {fuel : Nat} {t e : TypeId} {n : Nat} {cs : List Value} {d : DataW H} {ps : List MemPlace} (hu : P.underlying t = some (.array n e)) (h : DataW.trod enc P w 0 sp held (fuel + 1) t cs = some (d, ps)) :
    cs.length = P.cellsOf t ∧ ∃ xs : List (DataW H × List MemPlace), d = .agg (xs.map (·.1)) ∧ xs.length = n ∧
      ∀ (i : Nat), i < n → ∃ x, xs[i]? = some x ∧ DataW.trod enc P w 0 sp held fuel e ((cs.drop (i * P.cellsOf e)).take (P.cellsOf e)) = some x := by
  unfold DataW.trod at h
  rw [hu] at h
  simp only at h
  split at h
  · rename_i hl
    simp only [Option.map_eq_some_iff] at h
    obtain ⟨xs, hx, hd⟩ := h
    obtain ⟨k1, k2⟩ := mapM_some hx
    rw [List.length_range] at k1
    refine ⟨hl, xs, by cases hd; rfl, k1, fun i hi => ?_⟩
    exact ⟨xs[i]'(by omega), by simp, k2 i i _ (by simp [hi]) (by simp)⟩
  · cases h

/-- Elements one behind the other. -/
theorem read_elems {e : TypeId} (c : Nat) : ∀ (n i0 : Nat) (cs : List Value), (i0 + n) * c = cs.length → (∀ i, i < n → Read P w e ((cs.drop ((i0 + i) * c)).take c)) →
    ∃ ts : List Tree, RepTL w (oldI w) ts (cs.drop (i0 * c)) ∧ (∀ x, x ∈ ts → x.isSc = true) ∧ ∀ i, i < n → TV P e ((ts.drop (i * c)).take c)
  | 0, i0, cs, hl, _ => ⟨[], by rw [List.drop_eq_nil_of_le (by rw [← hl]; simp)]; exact RepTL.nil', fun x h => by simp at h, fun i h => by omega⟩
  | n + 1, i0, cs, hl, hr => by
    obtain ⟨t1, k1, k2, k3⟩ := hr 0 (by omega)
    obtain ⟨t2, m1, m2, m3⟩ := read_elems c n (i0 + 1) cs (by rw [← hl]; congr 1; omega) fun i hi => by
      have := hr (i + 1) (by omega)
      rwa [show i0 + (i + 1) = i0 + 1 + i by omega] at this
    rw [Nat.add_zero] at k1
    have hbig : (i0 + 1) * c ≤ cs.length := by rw [← hl]; exact Nat.mul_le_mul_right _ (by omega)
    have hl1 : t1.length = c := by
      have := k1.1
      rw [List.length_take, List.length_drop] at this
      rw [Nat.add_mul, Nat.one_mul] at hbig
      omega
    refine ⟨t1 ++ t2, ?_, fun x hx => ?_, fun i hi => ?_⟩
    · have hsplit : cs.drop (i0 * c) = (cs.drop (i0 * c)).take c ++ cs.drop ((i0 + 1) * c) := by
        rw [Nat.add_mul, Nat.one_mul, ← List.drop_drop, List.take_append_drop]
      rw [hsplit]
      exact k1.append m1
    · rcases List.mem_append.1 hx with h | h
      · exact k3 x h
      · exact m2 x h
    · cases i with
      | zero => rw [Nat.zero_mul, List.drop_zero, ← hl1, List.take_left]; exact k2
      | succ i =>
        have := m3 i (by omega)
        rw [Nat.add_mul, Nat.one_mul, List.drop_append, List.drop_eq_nil_of_le (by omega), List.nil_append, hl1, Nat.add_sub_cancel]
        exact this

theorem trod_read (hk : kidsB P L = true) : ∀ (fuel : Nat) (t : TypeId) (cs : List Value) (d : DataW H) (ps : List MemPlace), t ∈ L → DataW.trod enc P w 0 sp held fuel t cs = some (d, ps) →
    (d.weights P t).all (· ≤ reachBytes) = true → Read P w t cs
  | 0, t, cs, d, ps, _, h, _ => by simp [DataW.trod] at h
  | fuel + 1, t, cs, d, ps, ht, h, hw => by
    have hkt := kidsB_spec hk ht
    unfold kidsOk at hkt
    have one : ∀ {x : Tree} {v : Value}, RepT w (oldI w) x v → TV P t [x] → x.isSc = true → Read P w t [v] := fun h1 h2 h3 => ⟨[_], RepTL.one h1, h2, fun y hy => by simp at hy; subst hy; exact h3⟩
    split at hkt
    · rename_i hu
      obtain ⟨b, rfl⟩ := trod_bool hu h
      exact one (.bool b) (.bool t b hu) rfl
    · rename_i k hu
      obtain ⟨n, rfl, hn⟩ := trod_int hu h
      exact one (.int k n) (.int t k n hu hn) rfl
    · rename_i hu
      obtain ⟨s, rfl, rfl⟩ := trod_str hu h
      have hs := RepT.str (w := w) (I := oldI w) s.data.toList
      refine one (by simpa using hs) (.str t _ hu ?_) rfl
      simp only [DataW.weights, List.all_cons, List.all_nil, Bool.and_true, decide_eq_true_eq] at hw
      exact hw
    · rename_i e hu
      simp only [Bool.and_eq_true] at hkt
      rcases trod_slice hu h with rfl | ⟨a, len, cap, elems, rest, rfl, h1, h2, h3, rfl, h4⟩
      · exact one (.slc0 none 0) (.slc t e [] hu (by simp) (by simp) (fun x hx => by simp at hx) (fun x hx => by simp at hx)) rfl
      · simp only [DataW.weights, hu, List.all_cons, Bool.and_eq_true, decide_eq_true_eq] at hw
        obtain ⟨hw1, hw2⟩ := hw
        obtain ⟨hw2, _⟩ := all_app hw2
        refine read_slice hu (Nat.le_of_ble_eq_true hkt.2) h1 (by omega) ?_ fun i hi => ?_
        · refine Nat.le_trans (Nat.mul_le_mul_right _ ?_) hw1
          simp [h3]
        · obtain ⟨c, x, hc, hx, hx2⟩ := h4 i hi
          exact ⟨c, hc, trod_read hk fuel e c x.1 x.2 ((memN_iff _ _).1 hkt.1) hx2 (weightsAll_get hw2 (by rw [List.getElem?_map, hx]; rfl))⟩
    · rename_i fs hu
      obtain ⟨hl, xs, rfl, hx1, hx2⟩ := trod_struct hu h
      simp only [DataW.weights, hu] at hw
      obtain ⟨ts, k1, k2, k3⟩ := read_parts (P := P) (w := w) (L := L) (P.cellsOf t) fs.toList 0 cs hl hkt (Nat.zero_le _) fun f hf hfL => by
        obtain ⟨i, hi, rfl⟩ := List.mem_iff_getElem.1 hf
        obtain ⟨x, e1, e2⟩ := hx2 i _ (List.getElem?_eq_getElem hi)
        exact trod_read hk fuel _ _ x.1 x.2 hfL e2 (weightsEach_get (i := i) hw (by rw [List.getElem?_map, List.getElem?_eq_getElem hi]; rfl) (by rw [List.getElem?_map, e1]; rfl))
      rw [List.drop_zero] at k1
      refine ⟨ts, k1, .struct t fs ts hu (by rw [← hl]; exact k1.1.symm) (fun f hf => ?_), k2⟩
      have := (k3 f hf).2
      rwa [Nat.sub_zero] at this
    · rename_i n e hu
      simp only [Bool.and_eq_true] at hkt
      obtain ⟨hl, xs, rfl, hx1, hx2⟩ := trod_array hu h
      simp only [DataW.weights, hu] at hw
      obtain ⟨ts, k1, k2, k3⟩ := read_elems (P := P) (w := w) (e := e) (P.cellsOf e) n 0 cs (by rw [Nat.zero_add, hl]; exact Nat.eq_of_beq_eq_true hkt.2) fun i hi => by
        obtain ⟨x, e1, e2⟩ := hx2 i hi
        rw [Nat.zero_add]
        exact trod_read hk fuel e _ x.1 x.2 ((memN_iff _ _).1 hkt.1) e2 (weightsAll_get hw (by rw [List.getElem?_map, e1]; rfl))
      rw [Nat.zero_mul, List.drop_zero] at k1
      exact ⟨ts, k1, .array t n e ts hu (by rw [← hl]; exact k1.1.symm) k3, k2⟩
    · cases hkt

/-- An argument of a row, as a tree. -/
theorem arg_read (hk : kidsB P L = true) {t : TypeId} {v : Value} {d : DataW H} {ps : List MemPlace} {base : Nat} (ht : t ∈ L) (hv : Value.okWide P w .any base t v) (h : DataW.Trod enc P w 0 sp held t v d ps) (hw : (d.weights P t).all (· ≤ reachBytes) = true) :
    ∃ x, RepT w (oldI w) x v ∧ WT P t x := by
  obtain ⟨fuel, h⟩ := h
  obtain ⟨ts, h1, h2, h3⟩ := trod_read hk fuel t _ d ps ht h hw
  refine ⟨mkTree P t ts, ?_, mkTree_WT h2 h3⟩
  unfold mkTree
  split
  · rename_i ha
    unfold Value.okWide at hv
    unfold tyAgg at ha
    have : ∃ cs, v = .agg cs := by
      split at ha
      · rename_i hu; rw [hu] at hv; obtain ⟨cs, rfl, _⟩ := hv; exact ⟨cs, rfl⟩
      · rename_i hu; rw [hu] at hv; obtain ⟨cs, rfl, _⟩ := hv; exact ⟨cs, rfl⟩
      · cases ha
      · cases ha
    obtain ⟨cs, rfl⟩ := this
    exact .agg ts cs (by simpa [Value.cells] using h1.1) h3 fun i x u hx hu => h1.2 i x u hx (by simpa [Value.cells] using hu)
  · rename_i ha
    obtain ⟨x, rfl, hx⟩ := h2.one (fun e => ha e)
    have hl := h1.1
    simp only [List.headD_cons]
    cases v with
    | agg cs =>
      exfalso
      unfold Value.okWide at hv
      unfold tyAgg at ha
      cases hu : P.underlying t with
      | none => rw [hu] at hv; simp [Cell.okWide, Cell.ok, hu] at hv
      | some dd => cases dd <;> simp [hu, Cell.okWide, Cell.ok] at hv ha
    | _ => exact h1.2 0 x _ rfl (by simp [Value.cells])

end

end Go.Proofs.Bw
end

/-
  THE ABSTRACT WALK, 34: what a row wants of a law.
-/
section
namespace Go.Proofs.Bw
open Go.RowKit

theorem Still.below {w w' : World} (h : Still w w') : Below w.heap.size w w' := ⟨h.os, h.tape, h.output, h.size, h.heap⟩

/-- Values and the trees that they are read as. -/
theorem RepTL.cons {w : World} {I : Nat → Prop} {x : Tree} {v : Value} {xs : List Tree} {vs : List Value} (h : RepT w I x v) (k : RepTL w I xs vs) : RepTL w I (x :: xs) (v :: vs) := by
  have := (RepTL.one h).append k
  exact this

theorem law_calls {P : Program} {E : Env} (hE : EnvOk P E) (hm : P.follows .mixedOrders = true) {g k : Nat} {xs : List Tree} {w : World} {vals : Array Value} (h : evP E k g xs = some (.bool true)) (hr : RepTL w (oldI w) xs vals.toList) :
    Calls P g vals w fun e w' => e = .returned (.bool true) ∧ Below w.heap.size w w' := by
  refine Calls.mono (evP_calls hE hm h hr fun b hb => hb) fun e w' he => ?_
  obtain ⟨v, I', rfl, h1, _, _, _, h5⟩ := he
  cases h1
  exact ⟨rfl, h5.below⟩

end Go.Proofs.Bw
end

/-
  THE ABSTRACT WALK, 35: a call as it is reckoned in one piece, its result made a tree where it is given back: for equations.
-/
section
namespace Go.Proofs.Bw

theorem evOps_par {F : Fns} {α : Type} {r : α} : ∀ {l : List IOper} {st : St} {K : St → Option α}, evOps F l st K = some r → ∃ st', K st' = some r ∧ ∀ {β : Type} (K' : St → Option β), evOps F l st K' = K' st'
  | [], st, K, h => ⟨st, h, fun K' => rfl⟩
  | o :: l, st, K, h => by
    simp only [evOps, evOper] at h
    obtain ⟨v, d, fp, h, hl⟩ := operV_par h
    obtain ⟨hb, h⟩ := bif_some h
    obtain ⟨st', h, e⟩ := evOps_par h
    refine ⟨st', h, fun K' => ?_⟩
    simp only [evOps, evOper]
    rw [hl _ _ (fun _ _ => rfl) (fun _ _ => rfl), hb, cond_true]
    exact e K'

theorem evDops_par {F : Fns} {bef : List Nat} {α : Type} {r : α} : ∀ {l : List IOper} {acc : List (List Nat × List Nat)} {st : St} {K : St → Option α}, evDops F bef l acc st K = some r → ∃ st', K st' = some r ∧ ∀ {β : Type} (K' : St → Option β), evDops F bef l acc st K' = K' st'
  | [], acc, st, K, h => by
    simp only [evDops] at h
    obtain ⟨hb, h⟩ := bif_some h
    exact ⟨st, h, fun K' => by simp only [evDops, hb, cond_true]⟩
  | o :: l, acc, st, K, h => by
    simp only [evDops, evOperD] at h
    obtain ⟨v, d, fp, h, hl⟩ := operV_par h
    obtain ⟨hb, h⟩ := bif_some h
    obtain ⟨st', h, e⟩ := evDops_par h
    refine ⟨st', h, fun K' => ?_⟩
    simp only [evDops, evOperD]
    rw [hl _ _ (fun _ _ => rfl) (fun _ _ => rfl), hb, cond_true]
    exact e K'

theorem norm_par {m : Nat} {live : List Nat} {st : St} {α : Type} {r : α} {K : St → Option α} (h : norm m live st K = some r) : ∃ st', K st' = some r ∧ ∀ {β : Type} (K' : St → Option β), norm m live st K' = K' st' := by
  simp only [norm] at h
  obtain ⟨hb, h⟩ := bif_some h
  exact ⟨_, h, fun K' => by simp only [norm, hb, cond_true]⟩

theorem evC_par {F : Fns} {n m : Nat} {α : Type} {r : α} : ∀ (c : ICode) (st : St) (K : IExit → St → Option α), evC F n m c st K = some r → ∃ e st', K e st' = some r ∧ ∀ {β : Type} (K' : IExit → St → Option β), evC F n m c st K' = K' e st' := by
  intro c
  induction c with
  | skip => intro st K h; exact ⟨_, _, h, fun K' => rfl⟩
  | reg ops =>
    intro st K h
    simp only [evC] at h
    obtain ⟨st', h, e⟩ := evOps_par h
    exact ⟨_, _, h, fun K' => by simp only [evC]; exact e _⟩
  | dreg ops bef =>
    intro st K h
    simp only [evC] at h
    obtain ⟨st', h, e⟩ := evDops_par h
    exact ⟨_, _, h, fun K' => by simp only [evC]; exact e _⟩
  | seq a b iha ihb =>
    intro st K h
    simp only [evC] at h
    obtain ⟨e, st', h, q⟩ := iha st _ h
    cases e with
    | normal =>
      obtain ⟨e2, st2, h, q2⟩ := ihb st' K h
      exact ⟨_, _, h, fun K' => by simp only [evC]; rw [q]; exact q2 K'⟩
    | exit i => exact ⟨_, _, h, fun K' => by simp only [evC]; rw [q]⟩
    | ret => exact ⟨_, _, h, fun K' => by simp only [evC]; rw [q]⟩
  | cond c a b iha ihb =>
    intro st K h
    simp only [evC] at h
    obtain ⟨t, h, q⟩ := asB_par h
    cases c with
    | s i =>
      simp only at h
      cases t with
      | true =>
        obtain ⟨e, st', h, q2⟩ := iha _ K h
        exact ⟨_, _, h, fun K' => by simp only [evC]; rw [q]; exact q2 K'⟩
      | false =>
        obtain ⟨e, st', h, q2⟩ := ihb _ K h
        exact ⟨_, _, h, fun K' => by simp only [evC]; rw [q]; exact q2 K'⟩
    | c v =>
      simp only at h
      cases t with
      | true =>
        obtain ⟨e, st', h, q2⟩ := iha _ K h
        exact ⟨_, _, h, fun K' => by simp only [evC]; rw [q]; exact q2 K'⟩
      | false =>
        obtain ⟨e, st', h, q2⟩ := ihb _ K h
        exact ⟨_, _, h, fun K' => by simp only [evC]; rw [q]; exact q2 K'⟩
    | f g =>
      simp only at h
      cases t with
      | true =>
        obtain ⟨e, st', h, q2⟩ := iha _ K h
        exact ⟨_, _, h, fun K' => by simp only [evC]; rw [q]; exact q2 K'⟩
      | false =>
        obtain ⟨e, st', h, q2⟩ := ihb _ K h
        exact ⟨_, _, h, fun K' => by simp only [evC]; rw [q]; exact q2 K'⟩
  | block id b ih =>
    intro st K h
    simp only [evC] at h
    obtain ⟨e, st', h, q⟩ := ih st _ h
    cases e with
    | normal => exact ⟨_, _, h, fun K' => by simp only [evC]; rw [q]⟩
    | exit i =>
      simp only at h
      cases hb : Nat.beq i id with
      | true => rw [hb, cond_true] at h; exact ⟨_, _, h, fun K' => by simp only [evC]; rw [q]; simp only [hb, cond_true]⟩
      | false => rw [hb, cond_false] at h; exact ⟨_, _, h, fun K' => by simp only [evC]; rw [q]; simp only [hb, cond_false]⟩
    | ret => exact ⟨_, _, h, fun K' => by simp only [evC]; rw [q]⟩
  | loop live b ih =>
    intro st K h
    simp only [evC] at h
    have loop : ∀ (q : Nat) (st : St), evLoop m live (fun s K' => evC F n m b s K') q st K = some r → ∃ e st', K e st' = some r ∧ ∀ {β : Type} (K' : IExit → St → Option β), evLoop m live (fun s K' => evC F n m b s K') q st K' = K' e st' := by
      intro q
      induction q with
      | zero => intro st h; simp [evLoop] at h
      | succ q ihq =>
        intro st h
        simp only [evLoop] at h
        obtain ⟨e, st', h, e1⟩ := ih st _ h
        cases e with
        | normal =>
          obtain ⟨st2, h, e2⟩ := norm_par h
          obtain ⟨e', st3, h, e3⟩ := ihq st2 h
          exact ⟨_, _, h, fun K' => by simp only [evLoop]; rw [e1]; simp only; rw [e2]; exact e3 K'⟩
        | exit i => exact ⟨_, _, h, fun K' => by simp only [evLoop]; rw [e1]⟩
        | ret => exact ⟨_, _, h, fun K' => by simp only [evLoop]; rw [e1]⟩
    obtain ⟨st1, h, e1⟩ := norm_par h
    obtain ⟨e, st', h, e2⟩ := loop n st1 h
    exact ⟨_, _, h, fun K' => by simp only [evC]; rw [e1]; exact e2 K'⟩
  | exit id => intro st K h; exact ⟨_, _, h, fun K' => rfl⟩
  | ret => intro st K h; exact ⟨_, _, h, fun K' => rfl⟩

theorem resA_par {st : St} {α : Type} {r : α} : ∀ {l : List IRes} {K : List AV → Option α}, resA st l K = some r → ∃ xs, K xs = some r ∧ ∀ {β : Type} (K' : List AV → Option β), resA st l K' = K' xs
  | [], K, h => ⟨_, h, fun K' => rfl⟩
  | .slot t :: l, K, h => by
    simp only [resA] at h
    obtain ⟨xs, h, e⟩ := resA_par h
    exact ⟨_, h, fun K' => by simp only [resA]; exact e _⟩
  | .cell t s :: l, K, h => by
    simp only [resA] at h
    split at h
    · rename_i q
      obtain ⟨v, h, e1⟩ := elemOf_par h
      obtain ⟨u, h, e2⟩ := loadBy_par h
      obtain ⟨xs, h, e⟩ := resA_par h
      exact ⟨_, h, fun K' => by simp only [resA, q]; rw [e1, e2]; exact e _⟩
    · rename_i q
      obtain ⟨u, h, e2⟩ := loadBy_par h
      obtain ⟨xs, h, e⟩ := resA_par h
      exact ⟨_, h, fun K' => by simp only [resA, q]; rw [e2]; exact e _⟩
    · cases h

/-- A call over trees, reckoned in one piece. -/
def evQ (E : Env) (k f : Nat) (xs : List Tree) : Option Tree :=
  match E.code f with
  | none => none
  | some fi => evC ⟨pureOf (runFn E k), E.rf (runFn E k), E.ok⟩ k 0 fi.body ⟨start fi.ntmps (xs.map .t), []⟩ fun e st => match e with
    | .exit _ => none
    | .normal => resA st fi.res fun l => toTree (fun _ => true) (rdH st.H) depth (oneA l)
    | .ret => resA st fi.res fun l => toTree (fun _ => true) (rdH st.H) depth (oneA l)

theorem evP_of_evQ {E : Env} {k f : Nat} {xs : List Tree} {y : Tree} (h : evQ E k f xs = some y) : evP E (k + 1) f xs = some y := by
  unfold evQ at h
  unfold evP pureOf
  simp only [runFn]
  split at h
  · cases h
  · rename_i fi hfi
    obtain ⟨e, st, h, q⟩ := evC_par _ _ _ h
    simp only [hfi, List.length_nil]
    rw [q]
    cases e with
    | exit i => cases h
    | normal =>
      obtain ⟨l, h, q2⟩ := resA_par h
      simp only
      rw [q2]
      exact h
    | ret =>
      obtain ⟨l, h, q2⟩ := resA_par h
      simp only
      rw [q2]
      exact h

end Go.Proofs.Bw
end

/-
  THE ABSTRACT WALK, 36: the reckoning from a loop's head on, under a name: for loops over lists of any length.
-/
section
namespace Go.Proofs.Bw

/-- From the head of the loop at a place of a body on: 'qs': the rounds that are left, of the loop itself first and then of those around it. -/
def evFrom {α : Type} (F : Fns) (n m : Nat) : ICode → List Nat → List Nat → St → (IExit → St → Option α) → Option α
  | .seq a b, 0 :: p, qs, st, K => evFrom F n m a p qs st fun e st' => match e with
    | .normal => evC F n m b st' K
    | .exit id => K (.exit id) st'
    | .ret => K .ret st'
  | .seq _ b, _ :: p, qs, st, K => evFrom F n m b p qs st K
  | .cond _ a _, 0 :: p, qs, st, K => evFrom F n m a p qs st K
  | .cond _ _ b, _ :: p, qs, st, K => evFrom F n m b p qs st K
  | .block id b, _ :: p, qs, st, K => evFrom F n m b p qs st fun e st' => match e with
    | .normal => K .normal st'
    | .exit i => bif Nat.beq i id then K .normal st' else K (.exit i) st'
    | .ret => K .ret st'
  | .loop live b, [], q :: _, st, K => evLoop m live (fun s K' => evC F n m b s K') q st K
  | .loop live b, _ :: p, qs, st, K => evFrom F n m b p (qs.dropLast) st fun e st' => match e with
    | .normal => norm m live st' fun st'' => evLoop m live (fun s K' => evC F n m b s K') (qs.getLastD 0) st'' K
    | .exit id => K (.exit id) st'
    | .ret => K .ret st'
  | _, _, _, _, _ => none

/-- The rest of a call over trees, from a loop's head on. -/
def evL (E : Env) (k f : Nat) (path qs : List Nat) (st : St) : Option Tree :=
  match E.code f with
  | none => none
  | some fi => evFrom ⟨pureOf (runFn E k), E.rf (runFn E k), E.ok⟩ k 0 fi.body path qs st fun e st => match e with
    | .exit _ => none
    | .normal => resA st fi.res fun l => toTree (fun _ => true) (rdH st.H) depth (oneA l)
    | .ret => resA st fi.res fun l => toTree (fun _ => true) (rdH st.H) depth (oneA l)

end Go.Proofs.Bw
end

/-
  THE ABSTRACT WALK, 37: what a call gives, whatever the fuel from some amount on; whole numbers that fit their kinds.
-/
section
namespace Go.Proofs.Bw

/-- With fuel from c on the call gives r. -/
def Ev (E : Env) (c g : Nat) (xs : List Tree) (r : Tree) : Prop := ∀ n, c ≤ n → evP E n g xs = some r

theorem Ev.mk {E : Env} {c g : Nat} {xs : List Tree} {r : Tree} (h : ∀ n, c ≤ n → evQ E n g xs = some r) : Ev E (c + 1) g xs r := by
  intro n hn
  cases n with
  | zero => omega
  | succ n => exact evP_of_evQ (h n (by omega))

theorem Ev.mono {E : Env} {c d g : Nat} {xs : List Tree} {r : Tree} (h : Ev E c g xs r) (hd : c ≤ d) : Ev E d g xs r := fun n hn => h n (by omega)

theorem w64 {x : Int} (h : -9223372036854775808 ≤ x ∧ x < 9223372036854775808) : IntKind.wrap .i64 x = x := by
  show (if (true && decide (x % 18446744073709551616 ≥ 9223372036854775808)) = true then x % 18446744073709551616 - 18446744073709551616 else x % 18446744073709551616) = x
  by_cases h2 : x % 18446744073709551616 ≥ 9223372036854775808
  · rw [if_pos (by simp [h2])]; omega
  · rw [if_neg (by simp [h2])]; omega

theorem wu64_eq (x : Int) : IntKind.wrap .u64 x = x % 18446744073709551616 := rfl

theorem wu64 {x : Int} (h : 0 ≤ x ∧ x < 18446744073709551616) : IntKind.wrap .u64 x = x := by
  rw [wu64_eq]; omega

theorem bif_pos {α : Type} {c : Bool} {x y : α} (h : c = true) : (bif c then x else y) = x := by rw [h]; rfl
theorem bif_neg {α : Type} {c : Bool} {x y : α} (h : c = false) : (bif c then x else y) = y := by rw [h]; rfl

/-- Trees of whole numbers. -/
abbrev I (x : Int) : Tree := .int .i64 x
abbrev U (x : Int) : Tree := .int .u64 x

@[simp] theorem ok_int (k : IntKind) (x : Int) : Sh.ok (.int k) (.int k x) = true := by cases k <;> rfl
@[simp] theorem ok_bool (b : Bool) : Sh.ok .bool (.bool b) = true := rfl
@[simp] theorem ok_slc (l : List Tree) : Sh.ok .slc (.slc l) = true := rfl
@[simp] theorem ok_agg (l : List Sh) (cs : List Tree) : Sh.ok (.agg l) (.agg cs) = Sh.oks l cs := rfl
@[simp] theorem ok_tup (l : List Sh) (cs : List Tree) : Sh.ok (.tup l) (.tup cs) = Sh.oks l cs := rfl
@[simp] theorem oks_nil : Sh.oks [] [] = true := rfl
@[simp] theorem oks_cons (s : Sh) (l : List Sh) (x : Tree) (r : List Tree) : Sh.oks (s :: l) (x :: r) = (Sh.ok s x && Sh.oks l r) := by
  simp only [Sh.oks]; cases Sh.ok s x <;> rfl
@[simp] theorem toInt_int (k : IntKind) (x : Int) : Tree.toInt (.int k x) = x := rfl
@[simp] theorem toBool_bool (b : Bool) : Tree.toBool (.bool b) = b := rfl
@[simp] theorem elems_slc (l : List Tree) : Tree.elems (.slc l) = l := rfl
@[simp] theorem cs_agg (l : List Tree) : Tree.cs (.agg l) = l := rfl
@[simp] theorem tupl_tup (l : List Tree) : Tree.tupl (.tup l) = l := rfl
@[simp] theorem open_int (k : IntKind) (x : Int) : Sh.open (.int k) (.int k x) = .int k x := rfl
@[simp] theorem open_bool (b : Bool) : Sh.open .bool (.bool b) = .bool b := rfl
@[simp] theorem open_slc (l : List Tree) : Sh.open .slc (.slc l) = .slc l := rfl

theorem nth_map {α β : Type} (f : α → β) : ∀ (l : List α) (i : Nat), nth (l.map f) i = (nth l i).map f
  | [], _ => rfl
  | _ :: _, 0 => rfl
  | _ :: l, i + 1 => nth_map f l i

theorem nth_app {α : Type} (x : α) (r : List α) : ∀ (l : List α), nth (l ++ x :: r) l.length = some x
  | [] => rfl
  | _ :: l => nth_app x r l

end Go.Proofs.Bw
end

/-
  THE ABSTRACT WALK, 40: a call that hands back its heap, reckoned in one piece.
-/
section
namespace Go.Proofs.Bw

def evR (E : Env) (n f : Nat) (args : List AV) (H : Heap) : Option (AV × Heap) :=
  match E.code f with
  | none => bif E.has f && E.cond f args H then E.sum f args H else none
  | some fi => evC ⟨pureOf (runFn E n), E.rf (runFn E n), E.ok⟩ n H.length fi.body ⟨start fi.ntmps args, H⟩ fun e st => match e with
    | .exit _ => none
    | .normal => resA st fi.res fun l => some (oneA l, st.H)
    | .ret => resA st fi.res fun l => some (oneA l, st.H)

theorem runFn_evR {E : Env} {n f : Nat} {args : List AV} {H : Heap} : runFn E (n + 1) f args H = evR E n f args H := rfl

def evLR (E : Env) (k f : Nat) (path qs : List Nat) (st : St) : Option (AV × Heap) :=
  match E.code f with
  | none => none
  | some fi => evFrom ⟨pureOf (runFn E k), E.rf (runFn E k), E.ok⟩ k 0 fi.body path qs st fun e st => match e with
    | .exit _ => none
    | .normal => resA st fi.res fun l => some (oneA l, st.H)
    | .ret => resA st fi.res fun l => some (oneA l, st.H)

/-- The same in a call that is handed a heap of m blocks. -/
def evLH (E : Env) (m k f : Nat) (path qs : List Nat) (st : St) : Option (AV × Heap) :=
  match E.code f with
  | none => none
  | some fi => evFrom ⟨pureOf (runFn E k), E.rf (runFn E k), E.ok⟩ k m fi.body path qs st fun e st => match e with
    | .exit _ => none
    | .normal => resA st fi.res fun l => some (oneA l, st.H)
    | .ret => resA st fi.res fun l => some (oneA l, st.H)

/-- With fuel from c on the call over a heap gives r. -/
def EvH (E : Env) (c g : Nat) (args : List AV) (H : Heap) (r : AV × Heap) : Prop := ∀ n, c ≤ n → runFn E n g args H = some r

theorem EvH.mk {E : Env} {c g : Nat} {args : List AV} {H : Heap} {r : AV × Heap} (h : ∀ n, c ≤ n → evR E n g args H = some r) : EvH E (c + 1) g args H r := by
  intro n hn
  cases n with
  | zero => omega
  | succ n => exact h n (by omega)

/-- With fuel from c on the call over a heap of its own gives r. -/
def EvR (E : Env) (c g : Nat) (args : List AV) (r : AV × Heap) : Prop := ∀ n, c ≤ n → runFn E n g args [] = some r

theorem EvR.mk {E : Env} {c g : Nat} {args : List AV} {r : AV × Heap} (h : ∀ n, c ≤ n → evR E n g args [] = some r) : EvR E (c + 1) g args r := by
  intro n hn
  cases n with
  | zero => omega
  | succ n => exact h n (by omega)

end Go.Proofs.Bw
end

/-
  THE ABSTRACT WALK, 42: a row's front under a name of its own: what a summary may hand back in the place of a part of a row.
-/
section
namespace Go.Proofs.Bw

/-- The front of a row: the row under a new number, cut to m elements; the old number is given up. -/
def cutTo (H : Heap) (b : Nat) (s : Sh) (row : List Tree) (m : Nat) : Heap := Delta.to ⟨[(b, .dead)], [.tre s (row.take m)]⟩ H

theorem tight {φ : Phi} {I : Nat → Prop} {H0 : Heap} {w : World} {v : AV} {H : Heap} {e : Ending} {w' : World} {b m : Nat} {s : Sh} {row : List Tree} (hb : rdH H b = .tre s row) (hm : m ≤ row.length)
    (hv : v = .hsub b 0 m ∨ (v = .hsl b none ∧ m = row.length)) (hc : Comes' φ I H0 w v H e w') : Comes' φ I H0 w (.hsl H.length none) (cutTo H b s row m) e w' := by
  obtain ⟨val, φ', I', rfl, hr, sm, E⟩ := hc
  have hal : (rdH H b).alive = true := by rw [hb]; rfl
  have hmu : (rdH H b).mut = true := by rw [hb]; rfl
  have hels : (rdH H b).els = row.map .t := by rw [hb]; rfl
  have hbl : b < H.length := by
    rcases Nat.lt_or_ge b H.length with h | h
    · exact h
    · rw [rdH_unborn H b h] at hb; cases hb
  let ob : HObj := .tre s (row.take m)
  have hob : ob.els.length = m := by simp [ob, HObj.els]; omega
  have erd : rdH (cutTo H b s row m) = upd (upd (rdH H) b .dead) H.length ob := by
    unfold cutTo
    rw [rdH_to _ _ (by simpa using hbl)]
    exact kill_app (rdH H) H.length ob (some b)
  have hcu : rdH H H.length = .unborn := rdH_unborn H _ (Nat.le_refl _)
  have hne : b ≠ H.length := by omega
  have obal : (upd (upd (rdH H) b .dead) H.length ob H.length).alive = true := by simp [upd, ob, HObj.alive]
  have obels : (upd (upd (rdH H) b .dead) H.length ob H.length).els.length = m := by rw [show upd (upd (rdH H) b .dead) H.length ob H.length = ob by simp [upd]]; exact hob
  -- the value
  have value : ∀ {φ2 : Phi}, (∀ g C, φ' b = some (g, C) → φ2 H.length = some (g, C)) → RepA φ2 (upd (upd (rdH H) b .dead) H.length ob) w' I' (.hsl H.length none) val := by
    intro φ2 h2
    have main : ∀ (g C c : Nat), φ' b = some (g, C) → m ≤ c → c ≤ C → RepA φ2 (upd (upd (rdH H) b .dead) H.length ob) w' I' (.hsl H.length none) (.slice (some ⟨g, 0, none⟩) m c) := by
      intro g C c hφ h1 h3
      have h := RepA.hsl (φ := φ2) (rd := upd (upd (rdH H) b .dead) H.length ob) (w := w') (I := I') H.length none g C c obal (h2 g C hφ) (by rw [obels]; exact h1) h3 (by intro n hn; cases hn)
      rw [obels] at h
      exact h
    have zero : ∀ a, m = 0 → RepA φ2 (upd (upd (rdH H) b .dead) H.length ob) w' I' (.hsl H.length none) (.slice a 0 0) := by
      intro a h0
      exact .hsl0 _ _ a obal (by rw [obels]; exact h0) (by intro n hn; cases hn)
    rcases hv with rfl | ⟨rfl, hml⟩
    · cases hr with
      | hsubD _ _ _ A n c h => rw [hb] at h; cases h
      | hsub _ _ _ g C c h hφ h1 h3 =>
        rw [Nat.zero_mul]
        exact main g C c hφ h1 (by omega)
      | hsub0 _ _ a h => exact zero a rfl
    · cases hr with
      | hslD _ _ A n c h => rw [hb] at h; cases h
      | hsl _ _ g C c h hφ h1 h3 hk =>
        have e1 : (rdH H b).els.length = m := by rw [hels, hml]; simp
        rw [e1] at h1 ⊢
        exact main g C c hφ h1 h3
      | hsl0 _ _ a h h0 hk => exact zero a (by rw [hels] at h0; rw [hml]; simpa using h0)
  rcases sm.blk b hal with ⟨h0, hφ⟩ | ⟨g, C, hφ, _, _, hrow⟩
  · -- nothing at all
    have hrow : row = [] := by rw [hels] at h0; simpa using h0
    have hm0 : m = 0 := by rw [hrow] at hm; simpa using hm
    obtain ⟨sm1, E1⟩ := sm.kill b
    have hcu1 : upd (rdH H) b .dead H.length = .unborn := by simp only [upd, if_neg (Ne.symm hne)]; exact hcu
    obtain ⟨sm2, E2⟩ := sm1.alloc0 hcu1 ob rfl (by simp [ob, HObj.els, hm0])
    exact ⟨val, upd φ' H.length none, I', rfl, by rw [erd]; exact value (fun g C h => by rw [hφ] at h; cases h), by rw [erd]; exact sm2, by rw [erd]; exact E.trans (E1.trans E2)⟩
  · obtain ⟨arr, T, hg, ha⟩ := hrow.arr
    rw [hels] at ha
    have hsh : (rdH H b).sh = s := by rw [hb]; rfl
    rw [hsh] at ha
    obtain ⟨sm2, E2⟩ := sm.moved hmu hφ hcu ob rfl hg (fun _ _ => rfl) rfl rfl rfl rfl
      { size := ha.size
        len := by have h1 := ha.len; have h3 := hob; simp only [List.length_map] at h1; omega
        cells := fun i x hx => by
          have hx : ((row.take m).map AV.t)[i]? = some x := hx
          rw [List.map_take] at hx
          exact ha.cells i x (by
            rw [List.getElem?_take] at hx
            split at hx
            · exact hx
            · cases hx) }
    exact ⟨val, upd φ' H.length (some (g, C)), I', rfl, by rw [erd]; exact value (fun g' C' h => by rw [hφ] at h; cases h; simp [upd]), by rw [erd]; exact sm2, by rw [erd]; exact E.trans E2⟩

/-- A summary whose result is the front of a row. -/
theorem run_cut {P : Program} {t : Tab} (h : t.Ok P) (hm : P.follows .mixedOrders = true) {g : Nat} {C : List AV → Heap → Bool} {S : List AV → Heap → Option (AV × Heap)}
    (hS : ∀ args H r, C args H = true → S args H = some r → ∃ k v H1 b m s row, runFn t.env k g args H = some (v, H1) ∧ rdH H1 b = .tre s row ∧ m ≤ row.length ∧ (v = .hsub b 0 m ∨ (v = .hsl b none ∧ m = row.length)) ∧ r = (.hsl H1.length none, cutTo H1 b s row m)) : SumOk P g C S :=
  fun args H v H' h0 hs => by
    obtain ⟨k, v1, H1, b, m, s, row, hk, hb, hml, hv, hr⟩ := hS args H (v, H') h0 hs
    cases hr
    obtain ⟨hc, hcall⟩ := (runFn_sound (Tab.envOk h) hm k).rf g args H v1 H1 rfl hk
    exact ⟨hc, fun φ w I vals hrep sm => Calls.mono (hcall φ w I vals hrep sm) fun e w' he => tight hb hml hv he⟩

end Go.Proofs.Bw
end

/-
  NUMBERS: words of 64 bits; products of words.
-/
section
namespace Go.Proofs.Bw

theorem ofInt64_toNat {x : Int} (h0 : 0 ≤ x) (h1 : x < 18446744073709551616) : (BitVec.ofInt 64 x).toNat = x.toNat := by
  rw [BitVec.toNat_ofInt]
  show (x % 18446744073709551616).toNat = x.toNat
  rw [Int.emod_eq_of_lt h0 h1]

theorem and_mask32 {x : Int} (h0 : 0 ≤ x) (h1 : x < 18446744073709551616) : IntKind.wrap .u64 ((BitVec.ofInt 64 x &&& BitVec.ofInt 64 4294967295).toNat) = x % 4294967296 := by
  rw [BitVec.toNat_and, ofInt64_toNat h0 h1, show (BitVec.ofInt 64 4294967295).toNat = 2 ^ 32 - 1 from rfl, Nat.and_two_pow_sub_one_eq_mod]
  rw [wu64 (by omega)]
  omega

theorem fdiv32 {x : Int} (h0 : 0 ≤ x) : Int.fdiv x (2 ^ min (Int.toNat 32) 64) = x / 4294967296 := by
  show Int.fdiv x 4294967296 = _
  rw [Int.fdiv_eq_ediv_of_nonneg _ (by omega)]

/-- The product of two words, its high part by the schoolbook. -/
theorem mul64_high {a b : Int} (ha0 : 0 ≤ a) (ha : a < 18446744073709551616) (hb0 : 0 ≤ b) (hb : b < 18446744073709551616) :
    ∃ w0 t v, w0 = (a % 4294967296) * (b % 4294967296) ∧ 0 ≤ w0 ∧ w0 ≤ 18446744065119617025 ∧ t = (a / 4294967296) * (b % 4294967296) + w0 / 4294967296 ∧ 0 ≤ t ∧ t < 18446744073709551616 ∧
      v = t % 4294967296 + (a % 4294967296) * (b / 4294967296) ∧ 0 ≤ v ∧ v < 18446744073709551616 ∧
      0 ≤ (a / 4294967296) * (b % 4294967296) ∧ (a / 4294967296) * (b % 4294967296) < 18446744073709551616 ∧ 0 ≤ (a % 4294967296) * (b / 4294967296) ∧ (a % 4294967296) * (b / 4294967296) < 18446744073709551616 ∧
      0 ≤ (a / 4294967296) * (b / 4294967296) ∧ (a / 4294967296) * (b / 4294967296) ≤ 18446744065119617025 ∧ 
      (a / 4294967296) * (b / 4294967296) + t / 4294967296 + v / 4294967296 = a * b / 18446744073709551616 := by
  have e1 : a = 4294967296 * (a / 4294967296) + a % 4294967296 := (Int.mul_ediv_add_emod a 4294967296).symm
  have e2 : b = 4294967296 * (b / 4294967296) + b % 4294967296 := (Int.mul_ediv_add_emod b 4294967296).symm
  have q1 : 0 ≤ a / 4294967296 ∧ a / 4294967296 ≤ 4294967295 := by omega
  have q2 : 0 ≤ b / 4294967296 ∧ b / 4294967296 ≤ 4294967295 := by omega
  have r1 : 0 ≤ a % 4294967296 ∧ a % 4294967296 ≤ 4294967295 := by omega
  have r2 : 0 ≤ b % 4294967296 ∧ b % 4294967296 ≤ 4294967295 := by omega
  generalize a / 4294967296 = x1 at *
  generalize b / 4294967296 = y1 at *
  generalize a % 4294967296 = x0 at *
  generalize b % 4294967296 = y0 at *
  have m (x y : Int) (hx : 0 ≤ x ∧ x ≤ 4294967295) (hy : 0 ≤ y ∧ y ≤ 4294967295) : 0 ≤ x * y ∧ x * y ≤ 18446744065119617025 :=
    ⟨Int.mul_nonneg hx.1 hy.1, Int.le_trans (Int.mul_le_mul hx.2 hy.2 hy.1 (by omega)) (by omega)⟩
  have m00 := m x0 y0 r1 r2
  have m01 := m x0 y1 r1 q2
  have m10 := m x1 y0 q1 r2
  have m11 := m x1 y1 q1 q2
  have e : a * b = 18446744073709551616 * (x1 * y1) + 4294967296 * (x1 * y0) + 4294967296 * (x0 * y1) + x0 * y0 := by
    rw [e1, e2, Int.mul_add, Int.add_mul, Int.add_mul]
    have h1 : 4294967296 * x1 * (4294967296 * y1) = 18446744073709551616 * (x1 * y1) := by
      rw [Int.mul_assoc, Int.mul_left_comm x1]; omega
    have h2 : x0 * (4294967296 * y1) = 4294967296 * (x0 * y1) := Int.mul_left_comm ..
    have h3 : 4294967296 * x1 * y0 = 4294967296 * (x1 * y0) := Int.mul_assoc ..
    omega
  generalize x0 * y0 = p00 at *
  generalize x0 * y1 = p01 at *
  generalize x1 * y0 = p10 at *
  generalize x1 * y1 = p11 at *
  rw [e]
  refine ⟨p00, p10 + p00 / 4294967296, (p10 + p00 / 4294967296) % 4294967296 + p01, rfl, ?_, ?_, rfl, ?_, ?_, rfl, ?_, ?_, ?_, ?_, ?_, ?_, ?_, ?_, ?_⟩ <;> omega

/-- What a word of 64 bits is to be. -/
def isU (x : Int) : Prop := 0 ≤ x ∧ x < 18446744073709551616

theorem natne (x : Nat) : ((x : Int) != 0) = !decide (x = 0) := by
  by_cases hx : x = 0
  · subst hx; rfl
  · simp [hx]

theorem or_zero {a b : Int} (ha : isU a) (hb : isU b) : (IntKind.wrap .u64 ((BitVec.ofInt 64 a ||| BitVec.ofInt 64 b).toNat) != 0) = (a != 0 || b != 0) := by
  rw [BitVec.toNat_or, ofInt64_toNat ha.1 ha.2, ofInt64_toNat hb.1 hb.2]
  obtain ⟨a0, a1⟩ := ha
  obtain ⟨b0, b1⟩ := hb
  obtain ⟨a, rfl⟩ := Int.eq_ofNat_of_zero_le a0
  obtain ⟨b, rfl⟩ := Int.eq_ofNat_of_zero_le b0
  have hl : a ||| b < 2 ^ 64 := Nat.or_lt_two_pow (by omega) (by omega)
  simp only [Int.toNat_natCast]
  rw [wu64 (by omega)]
  have h : (a ||| b) = 0 ↔ a = 0 ∧ b = 0 := Nat.or_eq_zero_iff
  generalize a ||| b = c at h
  rw [natne, natne, natne]
  by_cases h0 : c = 0
  · have := h.1 h0
    simp [h0, this.1, this.2]
  · by_cases h1 : a = 0
    · by_cases h2 : b = 0
      · exact absurd (h.2 ⟨h1, h2⟩) h0
      · simp [h0, h2]
    · simp [h0, h1]

end Go.Proofs.Bw
end

/-
  NUMBERS: one digit of a quotient (Knuth, two digits by one and a half); B is 2^32.
-/
section
namespace Go.Proofs.Bw

/-- What stands between the digits: the divisor (y1, y0), what is divided (u, u1), Q the digit. -/
structure Dig (y1 y0 u u1 Q : Int) : Prop where
  y1l : 2147483648 ≤ y1
  y1u : y1 < 4294967296
  y0l : 0 ≤ y0
  y0u : y0 < 4294967296
  ul : 0 ≤ u
  uu : u < 4294967296 * y1 + y0
  u1l : 0 ≤ u1
  u1u : u1 < 4294967296
  Ql : 0 ≤ Q
  Qu : Q < 4294967296
  le : 4294967296 * (Q * y1) + Q * y0 ≤ 4294967296 * u + u1
  lt : 4294967296 * u + u1 < 4294967296 * (Q * y1) + Q * y0 + (4294967296 * y1 + y0)

theorem Dig.mk' {y1 y0 u u1 : Int} (y1l : 2147483648 ≤ y1) (y1u : y1 < 4294967296) (y0l : 0 ≤ y0) (y0u : y0 < 4294967296) (ul : 0 ≤ u) (uu : u < 4294967296 * y1 + y0) (u1l : 0 ≤ u1) (u1u : u1 < 4294967296) :
    Dig y1 y0 u u1 ((4294967296 * u + u1) / (4294967296 * y1 + y0)) := by
  have hy : 0 < 4294967296 * y1 + y0 := by omega
  have e := Int.mul_ediv_add_emod (4294967296 * u + u1) (4294967296 * y1 + y0)
  have m0 := Int.emod_nonneg (4294967296 * u + u1) (Int.ne_of_gt hy)
  have m1 := Int.emod_lt_of_pos (4294967296 * u + u1) hy
  have q0 := Int.ediv_nonneg (show 0 ≤ 4294967296 * u + u1 by omega) (Int.le_of_lt hy)
  have q1 : (4294967296 * u + u1) / (4294967296 * y1 + y0) < 4294967296 := Int.ediv_lt_of_lt_mul hy (by omega)
  generalize (4294967296 * u + u1) / (4294967296 * y1 + y0) = Q at *
  generalize (4294967296 * u + u1) % (4294967296 * y1 + y0) = m at *
  have e2 : (4294967296 * y1 + y0) * Q = 4294967296 * (Q * y1) + Q * y0 := by rw [Int.add_mul, Int.mul_assoc, Int.mul_comm y1, Int.mul_comm y0]
  exact ⟨y1l, y1u, y0l, y0u, ul, uu, u1l, u1u, q0, q1, by omega, by omega⟩

/-- A guess q with its rest r. -/
structure Guess (y1 y0 u u1 Q q r : Int) : Prop where
  d : Dig y1 y0 u u1 Q
  er : r = u - q * y1
  Qq : Q ≤ q
  qu : q ≤ 4294967297
  rl : 0 ≤ r
  ru : r < 4294967296

theorem Dig.first {y1 y0 u u1 Q : Int} (d : Dig y1 y0 u u1 Q) : Guess y1 y0 u u1 Q (u / y1) (u - u / y1 * y1) := by
  obtain ⟨a1, a2, a3, a4, a5, a6, a7, a8, a9, a10, a11, a12⟩ := d
  have e := Int.mul_ediv_add_emod u y1
  have m0 := Int.emod_nonneg u (show y1 ≠ 0 by omega)
  have m1 := Int.emod_lt_of_pos u (show 0 < y1 by omega)
  have h1 : 0 ≤ Q * y0 := Int.mul_nonneg a9 a3
  have q0 : Q ≤ u / y1 := (Int.le_ediv_iff_mul_le (by omega)).2 (by omega)
  have q1 : u / y1 < 4294967298 := Int.ediv_lt_of_lt_mul (by omega) (by omega)
  rw [Int.mul_comm] at e
  exact ⟨⟨a1, a2, a3, a4, a5, a6, a7, a8, a9, a10, a11, a12⟩, rfl, q0, by omega, by omega, by omega⟩

/-- A guess that is too great: one less. -/
theorem Guess.down {y1 y0 u u1 Q q r : Int} (g : Guess y1 y0 u u1 Q q r) (h : 4294967296 ≤ q ∨ 4294967296 * r + u1 < q * y0) : Q ≤ q - 1 := by
  obtain ⟨⟨a1, a2, a3, a4, a5, a6, a7, a8, a9, a10, a11, a12⟩, b1, b2, b3, b4, b5⟩ := g
  rcases h with h | h
  · omega
  · have h1 : ¬ q = Q := by intro e; subst e; omega
    omega

theorem Guess.stop {y1 y0 u u1 Q q r : Int} (g : Guess y1 y0 u u1 Q q r) (h1 : q < 4294967296) (h : q * y0 ≤ 4294967296 * r + u1) : q = Q := by
  obtain ⟨⟨a1, a2, a3, a4, a5, a6, a7, a8, a9, a10, a11, a12⟩, b1, b2, b3, b4, b5⟩ := g
  have h2 : q * (4294967296 * y1 + y0) < (Q + 1) * (4294967296 * y1 + y0) := by
    have e1 : q * (4294967296 * y1 + y0) = 4294967296 * (q * y1) + q * y0 := by rw [Int.mul_add, Int.mul_left_comm]
    have e2 : (Q + 1) * (4294967296 * y1 + y0) = 4294967296 * (Q * y1) + Q * y0 + (4294967296 * y1 + y0) := by rw [Int.add_mul, Int.mul_add, Int.mul_left_comm, Int.one_mul]
    omega
  have := Int.lt_of_mul_lt_mul_right h2 (by omega)
  omega

theorem Guess.next {y1 y0 u u1 Q q r : Int} (g : Guess y1 y0 u u1 Q q r) (h : 4294967296 ≤ q ∨ 4294967296 * r + u1 < q * y0) (hr : r + y1 < 4294967296) : Guess y1 y0 u u1 Q (q - 1) (r + y1) := by
  have := g.down h
  obtain ⟨d, b1, b2, b3, b4, b5⟩ := g
  have := d.y1l
  exact ⟨d, by rw [Int.sub_mul]; omega, by omega, by omega, by omega, by omega⟩

theorem Guess.last {y1 y0 u u1 Q q r : Int} (g : Guess y1 y0 u u1 Q q r) (h : 4294967296 ≤ q ∨ 4294967296 * r + u1 < q * y0) (hr : 4294967296 ≤ r + y1) : q - 1 = Q := by
  have hd := g.down h
  obtain ⟨⟨a1, a2, a3, a4, a5, a6, a7, a8, a9, a10, a11, a12⟩, b1, b2, b3, b4, b5⟩ := g
  have h3 : (q - 1) * y0 ≤ 4294967296 * 4294967295 := Int.mul_le_mul (by omega) (by omega) a3 (by omega)
  have h2 : (q - 1) * (4294967296 * y1 + y0) < (Q + 1) * (4294967296 * y1 + y0) := by
    have e1 : (q - 1) * (4294967296 * y1 + y0) = 4294967296 * (q * y1) - 4294967296 * y1 + (q - 1) * y0 := by rw [Int.mul_add, Int.mul_left_comm, Int.sub_mul]; omega
    have e2 : (Q + 1) * (4294967296 * y1 + y0) = 4294967296 * (Q * y1) + Q * y0 + (4294967296 * y1 + y0) := by rw [Int.add_mul, Int.mul_add, Int.mul_left_comm, Int.one_mul]
    omega
  have := Int.lt_of_mul_lt_mul_right h2 (by omega)
  omega

end Go.Proofs.Bw
end

/-
  NUMBERS: fractions in lowest terms.
-/
section
namespace Go.Proofs.Bw

/-- The numerator and the denominator of a fraction in lowest terms. -/
def nm (a b : Int) : Int := (if b < 0 then -a else a) / (Nat.gcd b.natAbs a.natAbs : Int)
def dn (a b : Int) : Nat := b.natAbs / Nat.gcd b.natAbs a.natAbs

/-- Of a fraction with a positive denominator. -/
def nmN (z : Int) (d : Nat) : Int := z / (Nat.gcd d z.natAbs : Int)
def dnN (z : Int) (d : Nat) : Nat := d / Nat.gcd d z.natAbs

theorem gcd_pos {d m : Nat} (hd : 0 < d) : 0 < Nat.gcd d m := Nat.gcd_pos_of_pos_left _ hd

theorem nmN_mul {z : Int} {d : Nat} : nmN z d * (Nat.gcd d z.natAbs : Int) = z :=
  Int.ediv_mul_cancel (Int.ofNat_dvd_left.2 (Nat.gcd_dvd_right d z.natAbs))

theorem dnN_mul {z : Int} {d : Nat} : dnN z d * Nat.gcd d z.natAbs = d := Nat.div_mul_cancel (Nat.gcd_dvd_left _ _)

theorem dnN_pos {z : Int} {d : Nat} (hd : 0 < d) : 0 < dnN z d := Nat.div_pos (Nat.le_of_dvd hd (Nat.gcd_dvd_left _ _)) (gcd_pos hd)

theorem nmN_abs {z : Int} {d : Nat} (hd : 0 < d) : (nmN z d).natAbs = z.natAbs / Nat.gcd d z.natAbs := by
  have h := congrArg Int.natAbs (nmN_mul (z := z) (d := d))
  rw [Int.natAbs_mul, Int.natAbs_natCast] at h
  generalize hg : Nat.gcd d z.natAbs = g at *
  have hgp : 0 < g := by rw [← hg]; exact gcd_pos hd
  generalize (nmN z d).natAbs = x at *
  rw [← h, Nat.mul_div_cancel _ hgp]

theorem nmN_cop {z : Int} {d : Nat} (hd : 0 < d) : Nat.Coprime (dnN z d) (nmN z d).natAbs := by
  rw [nmN_abs hd]
  exact Nat.coprime_div_gcd_div_gcd (gcd_pos hd)

theorem nmN_cross {z : Int} {d : Nat} : nmN z d * d = z * dnN z d := by
  have h1 := nmN_mul (z := z) (d := d)
  have h2 := dnN_mul (z := z) (d := d)
  generalize Nat.gcd d z.natAbs = g at *
  have h3 : (d : Int) = (dnN z d : Int) * (g : Int) := by rw [← Int.natCast_mul, h2]
  calc nmN z d * d = (nmN z d * g) * dnN z d := by rw [h3]; ac_rfl
    _ = z * dnN z d := by rw [h1]

theorem nmN_le {z : Int} {d : Nat} (hd : 0 < d) : (nmN z d).natAbs ≤ z.natAbs := by rw [nmN_abs hd]; exact Nat.div_le_self _ _
theorem dnN_le {z : Int} {d : Nat} : dnN z d ≤ d := Nat.div_le_self _ _

/-- Lowest terms are one. -/
theorem lowest_unique {p q : Int} {b d : Nat} (hb : 0 < b) (hd : 0 < d) (h1 : Nat.Coprime b p.natAbs) (h2 : Nat.Coprime d q.natAbs) (h : p * d = q * b) : p = q ∧ b = d := by
  have h3 : p.natAbs * d = q.natAbs * b := by
    have := congrArg Int.natAbs h
    rwa [Int.natAbs_mul, Int.natAbs_mul, Int.natAbs_natCast, Int.natAbs_natCast] at this
  have d1 : b ∣ d := h1.dvd_of_dvd_mul_left ⟨q.natAbs, by rw [h3, Nat.mul_comm]⟩
  have d2 : d ∣ b := h2.dvd_of_dvd_mul_left ⟨p.natAbs, by rw [← h3, Nat.mul_comm]⟩
  have e := Nat.dvd_antisymm d1 d2
  subst e
  exact ⟨Int.eq_of_mul_eq_mul_right (by omega) h, rfl⟩

/-- The same fraction has the same lowest terms. -/
theorem lowN_eq {z w : Int} {d e : Nat} (hd : 0 < d) (he : 0 < e) (h : z * e = w * d) : nmN z d = nmN w e ∧ dnN z d = dnN w e := by
  refine lowest_unique (dnN_pos hd) (dnN_pos he) (nmN_cop hd) (nmN_cop he) ?_
  have h1 := nmN_cross (z := z) (d := d)
  have h2 := nmN_cross (z := w) (d := e)
  -- p d = z b, q e = w f, z e = w d: p f (d e) = z b f e = w d b f = q e b d
  have k : (nmN z d * dnN w e) * ((d : Int) * e) = (nmN w e * dnN z d) * ((d : Int) * e) := by
    calc (nmN z d * dnN w e) * ((d : Int) * e) = (nmN z d * d) * (dnN w e * e) := by ac_rfl
      _ = (z * e) * (dnN z d * dnN w e) := by rw [h1]; ac_rfl
      _ = (w * dnN w e) * (dnN z d * d) := by rw [h]; ac_rfl
      _ = (nmN w e * dnN z d) * ((d : Int) * e) := by rw [← h2]; ac_rfl
  exact Int.eq_of_mul_eq_mul_right (Int.mul_ne_zero (by omega) (by omega)) k

/-- What is already in lowest terms. -/
theorem lowN_self {z : Int} {d : Nat} (h : Nat.Coprime d z.natAbs) : nmN z d = z ∧ dnN z d = d := by
  unfold nmN dnN
  rw [show Nat.gcd d z.natAbs = 1 from h]
  simp

theorem nm_eq {a b : Int} : nm a b = nmN (if b < 0 then -a else a) b.natAbs := by
  unfold nm nmN
  split
  · rw [Int.natAbs_neg]
  · rfl
theorem dn_eq {a b : Int} : dn a b = dnN (if b < 0 then -a else a) b.natAbs := by
  unfold dn dnN
  split
  · rw [Int.natAbs_neg]
  · rfl

end Go.Proofs.Bw
end

/-
  THE ABSTRACT WALK, 38: what well-typed trees of plain types look like.
-/
section
namespace Go.Proofs.Bw

/-- A whole number that fits its kind. -/
def fits (k : IntKind) (n : Int) : Prop := k.min ≤ n ∧ n ≤ k.max

theorem TV.isInt {P : Program} {t : TypeId} {cs : List Tree} {k : IntKind} (h : TV P t cs) (u : P.underlying t = some (.int k)) : ∃ n, cs = [.int k n] ∧ fits k n := by
  cases h with
  | int _ k' n h hw =>
    rw [u] at h
    injection h with h
    injection h with h
    subst h
    refine ⟨n, rfl, ?_⟩
    simpa [Lit.wf, fits] using hw
  | _ => simp_all

theorem WT.isInt {P : Program} {t : TypeId} {x : Tree} {k : IntKind} (h : WT P t x) (u : P.underlying t = some (.int k)) (ha : tyAgg P t = some false) : ∃ n, x = .int k n ∧ fits k n := by
  obtain ⟨_, e, v⟩ := h
  obtain ⟨n, hc, hn⟩ := v.isInt u
  rw [hc] at e
  simp only [mkTree, ha, List.headD_cons] at e
  exact ⟨n, e, hn⟩

/-- An array of two numbers. -/
theorem WT.isPair {P : Program} {t e : TypeId} {x : Tree} {k : IntKind} (h : WT P t x) (u : P.underlying t = some (.array 2 e)) (ue : P.underlying e = some (.int k)) (ha : tyAgg P t = some true)
    (hc : P.cellsOf t = 2) (hc1 : P.cellsOf e = 1) : ∃ a b, x = .agg [.int k a, .int k b] ∧ fits k a ∧ fits k b := by
  obtain ⟨_, e', v⟩ := h
  generalize x.cells = cs at *
  simp only [mkTree, ha] at e'
  cases v with
  | array _ n e1 _ h hl hf =>
    rw [u] at h
    injection h with h
    injection h with h h'
    subst h; subst h'
    rw [hc1] at hf
    rw [hc] at hl
    match cs, hl with
    | [c0, c1], _ =>
      obtain ⟨a, ea, fa⟩ := (hf 0 (by omega)).isInt ue
      obtain ⟨b, eb, fb⟩ := (hf 1 (by omega)).isInt ue
      simp at ea eb
      subst ea; subst eb
      exact ⟨a, b, e', fa, fb⟩
  | _ => simp_all

/-- A record of two numbers. -/
theorem WT.isRec2 {P : Program} {t : TypeId} {x : Tree} {k : IntKind} {f g : Field} (h : WT P t x) (u : P.underlying t = some (.struct #[f, g])) (uf : P.underlying f.type = some (.int k)) (ug : P.underlying g.type = some (.int k))
    (ha : tyAgg P t = some true) (hc : P.cellsOf t = 2) (hf1 : P.cellsOf f.type = 1) (hg1 : P.cellsOf g.type = 1) (of : f.offset = 0) (og : g.offset = 1) : ∃ a b, x = .agg [.int k a, .int k b] ∧ fits k a ∧ fits k b := by
  obtain ⟨_, e', v⟩ := h
  generalize x.cells = cs at *
  simp only [mkTree, ha] at e'
  cases v with
  | struct _ fs _ h hl hf =>
    rw [u] at h
    injection h with h
    injection h with h
    subst h
    rw [hc] at hl
    match cs, hl with
    | [c0, c1], _ =>
      have h0 := hf f (by simp)
      have h1 := hf g (by simp)
      rw [of, hf1] at h0
      rw [og, hg1] at h1
      obtain ⟨a, ea, fa⟩ := h0.isInt uf
      obtain ⟨b, eb, fb⟩ := h1.isInt ug
      simp at ea eb
      subst ea; subst eb
      exact ⟨a, b, e', fa, fb⟩
  | _ => simp_all

theorem ints_of {P : Program} {e : TypeId} {k : IntKind} (ue : P.underlying e = some (.int k)) (he : tyAgg P e = some false) : ∀ {es : List Tree}, (∀ x, x ∈ es → x.fl = true ∧ x = mkTree P e x.cells) → (∀ x, x ∈ es → TV P e x.cells) → ∃ l : List Int, es = l.map (.int k) ∧ ∀ n, n ∈ l → fits k n
  | [], _, _ => ⟨[], rfl, fun _ h => by cases h⟩
  | x :: es, h1, h2 => by
    obtain ⟨n, ex, fx⟩ := WT.isInt (k := k) ⟨(h1 x (by simp)).1, (h1 x (by simp)).2, h2 x (by simp)⟩ ue he
    obtain ⟨l, el, fl⟩ := ints_of ue he (es := es) (fun y hy => h1 y (by simp [hy])) (fun y hy => h2 y (by simp [hy]))
    refine ⟨n :: l, by rw [ex, el]; rfl, fun m hm => ?_⟩
    cases List.mem_cons.1 hm with
    | inl q => rw [q]; exact fx
    | inr q => exact fl m q

/-- A slice of numbers. -/
theorem WT.isInts {P : Program} {t e : TypeId} {x : Tree} {k : IntKind} (h : WT P t x) (u : P.underlying t = some (.slice e)) (ue : P.underlying e = some (.int k)) (ha : tyAgg P t = some false) (he : tyAgg P e = some false) :
    ∃ l : List Int, x = .slc (l.map (.int k)) ∧ l.length ≤ maxLen ∧ l.length * P.bytesOf e ≤ reachBytes ∧ ∀ n, n ∈ l → fits k n := by
  obtain ⟨_, e', v⟩ := h
  generalize x.cells = cs at *
  cases v with
  | slc _ e1 es h hl hm h1 h2 =>
    rw [u] at h
    injection h with h
    injection h with h
    subst h
    simp only [mkTree, ha, List.headD_cons] at e'
    obtain ⟨l, el, fl⟩ := ints_of ue he h1 h2
    subst el
    simp only [List.length_map] at hl hm
    exact ⟨l, e', hm, hl, fl⟩
  | _ => simp_all

end Go.Proofs.Bw
end
