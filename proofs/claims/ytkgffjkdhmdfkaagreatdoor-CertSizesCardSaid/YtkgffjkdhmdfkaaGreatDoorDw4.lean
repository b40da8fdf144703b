/- THE ABSTRACT WALK: a reckoning of the code on trees, and why it is right. -/
import Derived.Test.YtkgffjkdhmdfkaaGreatDoorDw3
import Derived.Orders
import Derived.LoopN
set_option linter.unusedSimpArgs false
set_option linter.unusedVariables false

/-
  THE ABSTRACT WALK, 22: one operation.
-/
section
namespace Go.Proofs.Dw

section
variable {φ : Phi} {rd : Rd} {w : World} {I : Fz} {P : Program} {F : Fns}
variable {o : Oper} {a : Act} {c : Nat} {α : Type} {K : AV → Delta → Option α} {r : α} {ts : List AV}

theorem map_some' {β γ : Type} {x : Option β} {f : β → γ} {y : γ} (h : x.map f = some y) : ∃ z, x = some z ∧ y = f z := by
  cases x with
  | none => cases h
  | some z => cases h; exact ⟨z, rfl, rfl⟩

theorem bnone {α : Type} {b : Bool} {x : Option α} {y : α} (h : (bif b then none else x) = some y) : b = false ∧ x = some y := by
  cases b
  · exact ⟨rfl, h⟩
  · cases h

theorem or_beq {a b : Nat} (h : (Nat.beq a 0 || Nat.beq b 0) = false) : a ≠ 0 ∧ b ≠ 0 := by
  simp only [Bool.or_eq_false_iff] at h
  exact ⟨Nat.ne_of_beq_eq_false h.1, Nat.ne_of_beq_eq_false h.2⟩

theorem elemTy_some {t e : TypeId} (h : elemTy P t = some e) : P.underlying t = some (.slice e) := by
  unfold elemTy at h
  split at h
  · rename_i e' h'; cases h; exact h'
  · cases h

theorem compOpds_one {l : Array Operand} {x' : Opd} (h : compOpds l.toList = some [x']) : ∃ x, l.toList = [x] ∧ compOpd x = some x' := by
  obtain ⟨h1, h2⟩ := mapO_some h
  match hq : l.toList, h1 with
  | [x], _ => exact ⟨x, rfl, h2 0 x x' (by rw [hq]; rfl) rfl⟩

theorem compOpds_two {l : Array Operand} {x' y' : Opd} (h : compOpds l.toList = some [x', y']) : ∃ x y, l.toList = [x, y] ∧ compOpd x = some x' ∧ compOpd y = some y' := by
  obtain ⟨h1, h2⟩ := mapO_some h
  match hq : l.toList, h1 with
  | [x, y], _ => exact ⟨x, y, rfl, h2 0 x x' (by rw [hq]; rfl) rfl, h2 1 y y' (by rw [hq]; rfl) rfl⟩

theorem compOpds_three {l : Array Operand} {x' y' z' : Opd} (h : compOpds l.toList = some [x', y', z']) : ∃ x y z, l.toList = [x, y, z] ∧ compOpd x = some x' ∧ compOpd y = some y' ∧ compOpd z = some z' := by
  obtain ⟨h1, h2⟩ := mapO_some h
  match hq : l.toList, h1 with
  | [x, y, z], _ => exact ⟨x, y, z, rfl, h2 0 x x' (by rw [hq]; rfl) rfl, h2 1 y y' (by rw [hq]; rfl) rfl, h2 2 z z' (by rw [hq]; rfl) rfl⟩

theorem carryOf_spec {g : Nat} {b : Bool} (h : carryOf P g = some b) : ∃ fn, P.funcs[g]? = some fn ∧ fn.body = none ∧ fn.name = (if b = true then "math/bits.Sub64" else "math/bits.Add64") ∧ fn.origin = "" := by
  unfold carryOf at h
  split at h
  · rename_i fn hfn
    split at h
    · cases h
    · rename_i hb
      cases h1 : (fn.name == "math/bits.Add64" && fn.origin == "") with
      | true =>
        rw [h1, cond_true] at h; cases h
        simp at h1
        exact ⟨fn, hfn, hb, h1.1, h1.2⟩
      | false =>
        rw [h1, cond_false] at h
        cases h2 : (fn.name == "math/bits.Sub64" && fn.origin == "") with
        | true =>
          rw [h2, cond_true] at h; cases h
          simp at h2
          exact ⟨fn, hfn, hb, h2.1, h2.2⟩
        | false => rw [h2] at h; cases h
  · cases h

theorem compBuiltin_sound (hs : RepS φ rd w I ts a.tmps) (sm : Sim φ I rd w) {cl : Call} {b : Builtin} {args : List Opd} {p : IOp} (ho : o.op = .call cl) (hcl : cl.callee = .builtin b) (ha : compOpds cl.args.toList = some args)
    (hc : compBuiltin P b cl.argTypes args = some p) (h : evOp F p ts rd c K = some r) : Done φ rd w I P o a c K r := by
  unfold compBuiltin at hc
  split at hc
  · obtain ⟨x, hx1, hx2⟩ := compOpds_one ha
    split at hc
    · rename_i t ht
      split at hc
      · rename_i e hu; cases hc; exact (do_len hs ho hcl hx1 ht hu hx2 h).done sm
      · rename_i hu; cases hc; exact (do_lens hs ho hcl hx1 ht hu hx2 h).done sm
      · rename_i key elem hu
        cases hc
        simp only [evOp] at h
        split at h
        · rename_i i he; exact do_wlen hs sm ho hcl hx1 ht hu hx2 he h
        · cases h
      · cases hc
    · cases hc
  · obtain ⟨x, hx1, hx2⟩ := compOpds_one ha
    split at hc
    · rename_i t ht
      split at hc
      · rename_i e hu; cases hc; exact (do_cap hs ho hcl hx1 ht hu hx2 h).done sm
      · cases hc
    · cases hc
  · obtain ⟨x, y, h1, h2, h3⟩ := compOpds_two ha
    cases hc
    exact (do_mm hs ho hcl (.inl rfl) h1 h2 h3 h).done sm
  · obtain ⟨x, y, h1, h2, h3⟩ := compOpds_two ha
    cases hc
    exact (do_mm hs ho hcl (.inr rfl) h1 h2 h3 (by simpa [evOp] using h)).done sm
  · obtain ⟨x, y, h1, h2, h3⟩ := compOpds_two ha
    split at hc
    · rename_i t u hat
      split at hc
      · rename_i e he
        have hu := elemTy_some he
        split at hc
        · rename_i s n k hsh hby hv
          split at hc
          · rename_i z hz
            obtain ⟨hb, hc⟩ := bnone hc
            cases hc
            exact do_appz hs sm ho hcl h1 hat hu hv hsh hby hz (or_beq hb).1 (or_beq hb).2 h2 h3 h
          · cases hc
        · rename_i s n e' hsh hby hv
          obtain ⟨hb, hc⟩ := bnone hc
          cases hc
          exact do_app hs sm ho hcl h1 hat hu hv hsh hby (or_beq hb).1 (or_beq hb).2 h2 h3 h
        · cases hc
      · cases hc
    · cases hc
  · obtain ⟨x, hx1, hx2⟩ := compOpds_one ha
    split at hc
    · rename_i t hat
      split at hc
      · rename_i e he
        split at hc
        · rename_i s z hsh hz
          obtain ⟨hb, hc⟩ := bnone hc
          cases hc
          exact do_clr hs sm ho hcl hx1 hat (elemTy_some he) hsh hz (Nat.ne_of_beq_eq_false hb) hx2 h
        · cases hc
      · cases hc
    · cases hc
  · cases hc

theorem compCall_sound (hF : FnsOk P F) (hs : RepS φ rd w I ts a.tmps) (sm : Sim φ I rd w) {cl : Call} {md : Bool} {g : Nat} {t : TypeId} {args : List Opd} {p : IOp} (ho : o.op = .call cl) (hcl : cl.callee = .value (.func g)) (ha : compOpds cl.args.toList = some args)
    (hc : compCall P md g t args = some p) (h : evOp F p ts rd c K = some r) : Done φ rd w I P o a c K r := by
  unfold compCall at hc
  split at hc
  · rename_i b x' y' z' hcar
    obtain ⟨x, y, z, h1, h2, h3, h4⟩ := compOpds_three ha
    obtain ⟨fn, k1, k2, k3, k4⟩ := carryOf_spec hcar
    cases hc
    exact (do_carry hs ho hcl h1 k1 k2 k3 k4 h2 h3 h4 h).done sm
  · cases hc
  · split at hc
    · rename_i t' x' hcl'
      obtain ⟨x, h1, h2⟩ := compOpds_one ha
      split at hc
      · rename_i e he
        split at hc
        · rename_i s n hsh hby
          obtain ⟨hb, hc⟩ := bnone hc
          cases hc
          exact do_clone hs sm ho hcl h1 h2 hcl' (elemTy_some he) hsh hby (or_beq hb).1 (or_beq hb).2 h
        · cases hc
      · cases hc
    · cases hc
    · obtain ⟨_, hc⟩ := bif_some hc
      obtain ⟨s, _, rfl⟩ := map_some' hc
      exact do_call hs hF sm ho hcl ha h

theorem wsh_spec {cf : Cfg} {t : TypeId} {s : Sh} (h : wsh cf P t = some s) : ∃ s0, shOf P t = some s0 ∧ ShIs s s0 := by
  unfold wsh at h
  split at h
  · rename_i h0
    refine ⟨.any, h0, ?_⟩
    split at h
    · rename_i e _
      cases hm : memN cf.wt e with
      | true => rw [hm, cond_true] at h; cases h; exact .inr ⟨rfl, .inl rfl⟩
      | false => rw [hm, cond_false] at h; cases h; exact .inl rfl
    · cases hm : memN cf.wt t with
      | true => rw [hm, cond_true] at h; cases h; exact .inr ⟨rfl, .inr rfl⟩
      | false => rw [hm, cond_false] at h; cases h; exact .inl rfl
    · cases h; exact .inl rfl
  · rename_i h0 _
    exact ⟨s, h, .inl rfl⟩

theorem elemOf_mono {β : Type} {ob : HObj} {i : Nat} {K1 K2 : AV → Option β} {r' : β} (hK : ∀ e, K1 e = some r' → K2 e = some r') (h : elemOf ob i K1 = some r') : elemOf ob i K2 = some r' := by
  unfold elemOf at h ⊢
  cases ob with
  | unborn => cases h
  | dead => cases h
  | wld G => cases h
  | mix s es =>
    simp only at h ⊢
    cases hq : nth es i with
    | none => simp [hq] at h
    | some e => simp only [hq, Option.bind_some] at h ⊢; exact hK e h
  | tre s es =>
    simp only at h ⊢
    cases hq : nth es i with
    | none => simp [hq] at h
    | some e =>
      simp only [hq, Option.bind_some] at h ⊢
      obtain ⟨hok, h⟩ := bif_some h
      rw [hok, cond_true]; exact hK _ h
  | froz s es =>
    simp only at h ⊢
    cases hq : nth es i with
    | none => simp [hq] at h
    | some e =>
      simp only [hq, Option.bind_some] at h ⊢
      obtain ⟨hok, h⟩ := bif_some h
      rw [hok, cond_true]; exact hK _ h

theorem ldRow_old {s : Sh} {o : HObj} {i j : Nat} {α : Type} {K : AV → Option α} {r : α} (h : ldRow s o i j K = some r) : elemOf o i (fun e => loadBy s j e.cells K) = some r := by
  have key : ∀ es : List Tree, (bif Nat.beq j 0 then (nth es i).bind fun e => bif Sh.ok .wp e then K (.t (Sh.open .wp e)) else none else none) = some r →
      ((nth es i).bind fun e => bif Sh.ok .any e then loadBy .wp j (AV.cells (.t (Sh.open .any e))) K else none) = some r := by
    intro es h0
    obtain ⟨hj, h1⟩ := bif_some h0
    clear h0 h
    have hj := Nat.eq_of_beq_eq_true hj
    subst hj
    cases hq : nth es i with
    | none => rw [hq] at h1; cases h1
    | some e =>
      rw [hq] at h1
      simp only [Option.bind_some] at h1 ⊢
      obtain ⟨hb, h2⟩ := bif_some h1
      cases e <;> first | (simp [Sh.ok] at hb; done) | exact h1
  unfold ldRow at h
  split at h
  · split at h
    · exact key _ h
    · exact key _ h
    · exact h
  · exact h

theorem ia_sh {s s0 : Sh} (hsh : ShIs s s0) {x i : Opd} (h : evOp F (.ia s x i) ts rd c K = some r) : evOp F (.ia s0 x i) ts rd c K = some r := by
  simp only [evOp] at h ⊢
  obtain ⟨k, n, hi, h⟩ := asI_some h
  rw [hi]
  simp only [asI]
  have el : ∀ {es : List Tree}, (bif decide (0 ≤ n) then (nth es n.toNat).bind fun e => bif s.ok e then K (.t (.ptr (s.open e) 0)) .none else none else none) = some r →
      (bif decide (0 ≤ n) then (nth es n.toNat).bind fun e => bif s0.ok e then K (.t (.ptr (s0.open e) 0)) .none else none else none) = some r := by
    intro es h
    obtain ⟨hb, h⟩ := bif_some h
    rw [hb, cond_true]
    cases hq : nth es n.toNat with
    | none => simp [hq] at h
    | some e =>
      simp only [hq, Option.bind_some] at h ⊢
      obtain ⟨hok, h⟩ := bif_some h
      rw [Sh.open_eq s e hok] at h
      rw [hsh.ok hok, cond_true, Sh.open_eq s0 e (hsh.ok hok)]
      exact h
  rw [hsh.width] at h
  generalize ev ts x = v at h
  cases v with
  | t x =>
    cases x with
    | slc es => exact el h
    | _ => exact h
  | clip es => exact el h
  | _ => exact h

theorem evOp_sound (hF : FnsOk P F) (hs : RepS φ rd w I ts a.tmps) (sm : Sim φ I rd w) {rs : Cfg} {p : IOp} (hc : compOp P rs o = some p) (h : evOp F p ts rd c K = some r) : Done φ rd w I P o a c K r := by
  unfold compOp at hc
  split at hc
  · rename_i x ho
    obtain ⟨x', hx, rfl⟩ := map_some' hc
    exact (do_mov hs (.inl ho) hx h).done sm
  · rename_i x ho
    obtain ⟨x', hx, rfl⟩ := map_some' hc
    exact (do_mov hs (.inr ho) hx h).done sm
  · rename_i x ho
    obtain ⟨x', hx, rfl⟩ := map_some' hc
    simp only [evOp] at h
    generalize he : ev ts x' = v at h
    split at h
    · exact (do_nonnil hs ho hx (by rw [he]; exact h)).done sm
    · exact (do_nonnil hs ho hx (by rw [he]; exact h)).done sm
    · exact (do_nonnilW hs ho hx he h).done sm
    · cases h
  · rename_i x y z ho
    split at hc
    · rename_i h1 h2 h3; cases hc; exact (do_pick hs ho h1 h2 h3 h).done sm
    · cases hc
  · rename_i t ho
    split at hc
    · rename_i h1 h2
      cases hm : memN rs.wt t with
      | true => rw [hm, cond_true] at hc; cases hc; exact do_wnew sm ho h2 h
      | false => rw [hm, cond_false] at hc; cases hc; exact do_new sm ho h1 h2 h
    · cases hc
  · rename_i t q ho
    split at hc
    · cases hc; exact do_wmk sm ho (.inl rfl) h
    · rename_i k n
      split at hc
      · rename_i key e hu; cases hc; exact do_wmk sm ho (.inr ⟨k, n, key, e, rfl, hu⟩) h
      · cases hc
    · cases hc
  · rename_i t x k ok ho
    split at hc
    · rename_i key elem hu
      split at hc
      · rename_i q z s x' k' h1 h2 h3 h4 h5
        cases hc
        simp only [evOp] at h
        split at h
        · rename_i i zt he hz; exact do_wget hs sm ho hu h1 h2 hz h4 h5 he h
        · cases h
      · cases hc
    · cases hc
  · rename_i t m k v ho
    split at hc
    · rename_i key elem hu
      split at hc
      · rename_i q m' k' v' h1 h2 h3 h4
        cases hc
        simp only [evOp] at h
        split at h
        · rename_i i he; exact do_wput hs sm (.inl ho) hu h1 h2 h3 h4 he h
        · cases h
      · cases hc
    · cases hc
  · rename_i t m k v ho
    split at hc
    · rename_i key elem hu
      split at hc
      · rename_i q m' k' v' h1 h2 h3 h4
        cases hc
        simp only [evOp] at h
        split at h
        · rename_i i he; exact do_wput hs sm (.inr ho) hu h1 h2 h3 h4 he h
        · cases h
      · cases hc
    · cases hc
  · rename_i t x ho
    split at hc
    · rename_i h1 h2
      cases hm : wboxes rs P t with
      | true => rw [hm, cond_true] at hc; cases hc; exact do_wbox hs sm ho h2 h
      | false => rw [hm, cond_false] at hc; cases hc; exact do_box hs sm ho h2 h
    · cases hc
  · rename_i t ps ho
    split at hc
    · rename_i cs hz
      split at hc
      · rename_i z hzc
        split at hc
        · rename_i fs hu
          split at hc
          · rename_i pl hpl
            obtain ⟨ps', hps, rfl⟩ := map_some' hc
            exact (do_build hs ho hz hzc (.inl ⟨fs, pl, hu, hpl, hps⟩) h).done sm
          · cases hc
        · rename_i n e hu
          split at hc
          · rename_i s he
            obtain ⟨ps', hps, rfl⟩ := map_some' hc
            exact (do_build hs ho hz hzc (.inr ⟨n, e, s, hu, he, hps⟩) h).done sm
          · cases hc
        · cases hc
      · cases hc
    · cases hc
  · rename_i t n ps ho
    split at hc
    · rename_i e he
      split at hc
      · rename_i s z l h1 h2 h3
        obtain ⟨hb, hc⟩ := bif_some hc
        cases hc
        simp only [Bool.and_eq_true] at hb
        exact do_bsl hs sm ho (elemTy_some he) h1 h2 h3 (Nat.le_of_ble_eq_true hb.1) (Nat.le_of_ble_eq_true hb.2) h
      · cases hc
    · cases hc
  · rename_i t x ho
    split at hc
    · rename_i s y h1 h2
      cases hc
      obtain ⟨s0, h0, hsh⟩ := wsh_spec h1
      simp only [evOp] at h
      generalize he : ev ts y = v at h
      split at h
      · refine (do_ld hs sm ho h0 h2 ?_).done sm
        rw [he]
        exact elemOf_mono (fun e h => loadBy_sh hsh h) (ldRow_old h)
      · refine (do_ld hs sm ho h0 h2 ?_).done sm
        rw [he]
        exact loadBy_sh hsh h
      · exact (do_ldW hs sm ho h0 hsh h2 he h).done sm
      · cases h
    · cases hc
  · rename_i t x v ho
    split at hc
    · rename_i s x' v' h1 h2 h3
      cases hc
      simp only [evOp] at h
      generalize he : ev ts x' = u at h
      split at h
      · exact do_stW hs sm ho h1 h2 h3 he h
      · exact do_st hs sm ho h1 h2 h3 (by rw [he]; exact h)
      · cases h
    · cases hc
  · rename_i b t x y t' ho
    split at hc
    · rename_i x' y' hx hy
      split at hc
      · split at hc
        · cases hc; exact (do_bin hs ho hx hy h).done sm
        · cases hc; exact (do_bin hs ho hx hy h).done sm
        · rename_i hu
          obtain ⟨hcc, hc⟩ := bif_some hc
          cases hc
          exact (do_eqi hs (neq := false) (by simpa using ho) hu hx hy hcc h).done sm
        · obtain ⟨q, hq, rfl⟩ := map_some' hc
          exact (do_eqs hs sm.wok (neq := false) (by simpa using ho) hq hx hy h).done sm
      · split at hc
        · cases hc; exact (do_bin hs ho hx hy h).done sm
        · cases hc; exact (do_bin hs ho hx hy h).done sm
        · rename_i hu
          obtain ⟨hcc, hc⟩ := bif_some hc
          cases hc
          exact (do_eqi hs (neq := true) (by simpa using ho) hu hx hy hcc h).done sm
        · obtain ⟨q, hq, rfl⟩ := map_some' hc
          exact (do_eqs hs sm.wok (neq := true) (by simpa using ho) hq hx hy h).done sm
      · cases hc; exact (do_bin hs ho hx hy h).done sm
    · cases hc
  · rename_i u t x ho
    obtain ⟨x', hx, rfl⟩ := map_some' hc
    exact (do_un hs ho hx h).done sm
  · rename_i s d x ho
    split at hc
    · rename_i k x' h1 h2 h3; cases hc; exact (do_conv hs ho h2 (by rw [h1]; rfl) h3 h).done sm
    · cases hc
  · rename_i t x ho
    split at hc
    · cases hc
    · cases hc
    · rename_i d hd hu
      obtain ⟨x', hx, rfl⟩ := map_some' hc
      exact do_mki hs sm ho hu hd hx h
  · obtain ⟨x', hx, rfl⟩ := map_some' hc
    simp [evOp] at h
  · rename_i x xt t ok ho
    split at hc
    · cases hc
    · cases hc
    · rename_i d hd hu
      split at hc
      · rename_i z s x' h1 h2 h3
        cases hc
        exact (do_tas hs ho hu hd h1 h3 h).done sm
      · cases hc
  · rename_i g x y ho
    split at hc
    · rename_i h1 h2; cases hc; exact (do_mkf hs ho h1 h2 h).done sm
    · cases hc
  · rename_i t l m ho
    split at hc
    · rename_i e he
      split at hc
      · rename_i s n z h1 h2 h3
        split at hc
        · rename_i l' m' h4 h5
          obtain ⟨hb, hc⟩ := bif_some hc
          cases hc
          exact do_mks hs sm ho (elemTy_some he) h1 h3 h2 h4 h5 (Nat.le_of_ble_eq_true hb) h
        · cases hc
      · cases hc
    · cases hc
  · rename_i t x lo hi mx ho
    split at hc
    · rename_i x' lo' hi' h1 h2 h3
      split at hc
      · rename_i e hu
        split at hc
        · obtain ⟨s, he, rfl⟩ := map_some' hc
          exact (do_sub hs ho hu he h1 h2 h3 h).done sm
        · rename_i mx
          split at hc
          · rename_i hi2 mx' h4
            obtain ⟨s, he, rfl⟩ := map_some' hc
            exact (do_subm hs ho hu he h1 h4 h2 h3 (by rintro rfl; simp [compOpt] at h3) h).done sm
          · cases hc
      · rename_i hu
        split at hc
        · cases hc; exact (do_subs hs ho hu h1 h2 h3 h).done sm
        · cases hc
      · cases hc
    · cases hc
  · rename_i s x f ho
    split at hc
    · rename_i fs x' hu hx
      split at hc
      · rename_i fl hfl
        split at hc
        · rename_i n hn
          cases hc
          simp only [evOp] at h
          generalize he : ev ts x' = v at h
          split at h
          · exact (do_fa hs ho hu hfl hn hx (by rw [he]; exact h)).done sm
          · exact (do_fa hs ho hu hfl hn hx (by rw [he]; exact h)).done sm
          · exact (do_faW hs ho hu hfl hn hx he h).done sm
          · cases h
        · cases hc
      · cases hc
    · cases hc
  · rename_i s x f ho
    split at hc
    · rename_i fs x' hu hx
      split at hc
      · rename_i fl hfl
        obtain ⟨sh, he, rfl⟩ := map_some' hc
        exact (do_fld hs ho hu hfl he hx h).done sm
      · cases hc
    · cases hc
  · rename_i t x i ho
    split at hc
    · rename_i e x' i' hu hx hi
      obtain ⟨s, he, rfl⟩ := map_some' hc
      obtain ⟨s0, h0, hsh⟩ := wsh_spec he
      exact (do_ia hs ho hu h0 hx hi (ia_sh hsh h)).done sm
    · rename_i n e x' i' hu hx hi
      obtain ⟨s, he, rfl⟩ := map_some' hc
      exact (do_iaa hs ho hu he hx hi h).done sm
    · cases hc
  · rename_i t x i ho
    split at hc
    · rename_i x' i' hu hx hi; cases hc; exact (do_ixs hs ho hu hx hi h).done sm
    · rename_i n e x' i' hu hx hi
      obtain ⟨s, he, rfl⟩ := map_some' hc
      exact (do_ixa hs ho hu he hx hi h).done sm
    · cases hc
  · rename_i x n ho
    split at hc
    · obtain ⟨x', hx, rfl⟩ := map_some' hc
      exact do_extf hs sm ho hx h
    · obtain ⟨x', hx, rfl⟩ := map_some' hc
      exact (do_ext hs ho hx h).done sm
  · rename_i cl ho
    split at hc
    · rename_i args ha
      split at hc
      · rename_i g hcl
        cases hw : rs.isW o.dst with
        | true =>
          rw [hw, cond_true] at hc
          obtain ⟨s, _, rfl⟩ := map_some' hc
          exact do_callw hs sm hF ho hcl ha h
        | false =>
          rw [hw, cond_false] at hc
          split at hc
          · obtain ⟨_, hc⟩ := bif_some hc
            split at hc
            · obtain ⟨s, _, rfl⟩ := map_some' hc
              exact do_callg hs sm hF ho hcl ha h
            · cases hc
              exact do_callm hs sm hF ho hcl ha h
          · exact compCall_sound hF hs sm ho hcl ha hc h
      · rename_i x hcl
        split at hc
        · rename_i x' hx
          cases hw : rs.isW o.dst with
          | true =>
            rw [hw, cond_true] at hc
            obtain ⟨s, _, rfl⟩ := map_some' hc
            exact do_callvw hs sm hF ho hcl hx ha h
          | false =>
            rw [hw, cond_false] at hc
            obtain ⟨s, _, rfl⟩ := map_some' hc
            exact do_callv hs hF sm ho hcl hx ha h
        · cases hc
      · rename_i b hcl; exact compBuiltin_sound hs sm ho hcl ha hc h
      · cases hc
    · cases hc
  · cases hc

end

end Go.Proofs.Dw
end

/-
  THE ABSTRACT WALK, 23: regions in the text's order.
-/
section
namespace Go.Proofs.Dw

theorem belowN_spec {n : Nat} : ∀ {l : List (Nat × HObj)}, belowN n l = true → ∀ p ∈ l, p.1 < n
  | [], _, p, h => by simp at h
  | (b, o) :: l, h, p, hp => by
    simp only [belowN] at h
    obtain ⟨h1, h2⟩ : Nat.blt b n = true ∧ belowN n l = true := by
      cases hq : Nat.blt b n with
      | true => rw [hq] at h; exact ⟨rfl, h⟩
      | false => rw [hq] at h; cases h
    rcases List.mem_cons.1 hp with e | e
    · subst e; simpa [Nat.blt_eq] using h1
    · exact belowN_spec h2 p e

section
variable {Df : List Deferred} {φ : Phi} {rd : Rd} {w : World} {I : Fz} {P : Program} {F : Fns}
variable {a : Act} {α : Type} {r : α} {ts : List AV}

theorem setB_rep (hs : RepS φ rd w I ts a.tmps) {g : Nat} {b : Bool} (h : slot ts g = .t (.bool b)) : RepS φ rd w I (setB ts g b) a.tmps := by
  unfold RepS RepL at *
  simp only [setB, setN_eq, List.length_set]
  refine ⟨hs.1, fun i y u hy hu => ?_⟩
  rw [List.getElem?_set] at hy
  by_cases hd : g = i
  · subst hd
    simp only [if_true] at hy
    split at hy
    · cases hy
      have := slot_rep (show RepL φ rd w I ts a.tmps.toList from hs) g
      rw [h] at this
      have hv := this.bool_inv
      rw [List.getD_eq_getElem?_getD, hu] at hv
      simp at hv
      rw [hv]; exact .bool b
    · cases hy
  · simp only [if_neg hd] at hy
    exact hs.2 i y u hy hu

theorem yielded_bool (hs : RepS φ rd w I ts a.tmps) {ops : Array Oper} {j d : Nat} {q : Oper} (hj : ops[j]? = some q) (hd : q.dst = some d) {b : Bool} (h : slot ts d = .t (.bool b)) : yielded ops a.tmps j = some b := by
  have := slot_rep (show RepL φ rd w I ts a.tmps.toList from hs) d
  rw [h] at this
  have hv := this.bool_inv
  rw [List.getD_eq_getElem?_getD, Array.getElem?_toList] at hv
  cases hq : a.tmps[d]? with
  | none => rw [hq] at hv; simp [Go.undef] at hv
  | some v =>
    rw [hq] at hv; simp at hv; subst hv
    simp [yielded, hj, hd, hq]

theorem yielded_undef (hs : RepS φ rd w I ts a.tmps) {ops : Array Oper} {j d : Nat} {q : Oper} (hj : ops[j]? = some q) (hd : q.dst = some d) (h : slot ts d = .undef) : yielded ops a.tmps j = none := by
  have := slot_rep (show RepL φ rd w I ts a.tmps.toList from hs) d
  rw [h] at this
  have hv : a.tmps.toList.getD d Go.undef = Go.undef := by
    generalize a.tmps.toList.getD d Go.undef = v at this
    cases this; rfl
  rw [List.getD_eq_getElem?_getD, Array.getElem?_toList] at hv
  cases hq : a.tmps[d]? with
  | none => simp [yielded, hj, hd, hq]
  | some v =>
    rw [hq] at hv; simp at hv; subst hv
    simp [yielded, hj, hd, hq, Go.undef]

/-- An operation is done or passed over, and what comes behind holds. -/
def StepWp (P : Program) (ops : Array Oper) (o : Oper) (a : Act) (w : World) (Kp : Act → World → Prop) (Q : Exit → Act → World → Prop) : Prop :=
  if Region.wanted o (yielded ops a.tmps) then o.wp P a w Kp Q else Kp (a.put o.dst undef) w

theorem operV_sound (hF : FnsOk P F) (hs : RepS φ rd w I ts a.tmps) (sm : Sim φ I rd w) {rs : Cfg} {ops : Array Oper} {o : Oper} {o' : IOper} {c : Nat} {K : List AV → Delta → List Nat × List Nat → Option α}
    (hc : compOper P rs ops o = some o') (h : operV F o' ts rd c K = some r) :
    ∃ ts' d fp, K ts' d fp = some r ∧ ((∀ y, c ≤ y → y < c + d.nw.length → rd y = .unborn) → ∀ (Kp : Act → World → Prop) (Q : Exit → Act → World → Prop),
      (∀ φ' I' a' w', a'.defers = a.defers → RepS φ' (appRd rd c d) w' I' ts' a'.tmps → Sim φ' I' (appRd rd c d) w' → Ext φ I rd w φ' I' (appRd rd c d) w' → Kp a' w') → StepWp P ops o a w Kp Q) := by
  have hput : ∀ v, (a.put o.dst v).defers = a.defers := fun v => by unfold Act.put; split <;> rfl
  have run : ∀ {p : IOp} {ts1 : List AV}, (compOp P rs o = some p ∨ p = .fail) → RepS φ rd w I ts1 a.tmps → Region.wanted o (yielded ops a.tmps) = true →
      evOp F p ts1 rd c (fun v d => K (putS ts1 o.dst v) d (foot p ts1 rd)) = some r → ∃ ts' d fp, K ts' d fp = some r ∧ ((∀ y, c ≤ y → y < c + d.nw.length → rd y = .unborn) → ∀ (Kp : Act → World → Prop) (Q : Exit → Act → World → Prop),
      (∀ φ' I' a' w', a'.defers = a.defers → RepS φ' (appRd rd c d) w' I' ts' a'.tmps → Sim φ' I' (appRd rd c d) w' → Ext φ I rd w φ' I' (appRd rd c d) w' → Kp a' w') → StepWp P ops o a w Kp Q) := by
    intro p ts1 hp hs1 hw h
    rcases hp with hp | rfl
    · obtain ⟨v, d, h1, h2⟩ := evOp_sound hF hs1 sm hp h
      refine ⟨_, d, _, h1, fun hu Kp Q hk => ?_⟩
      unfold StepWp
      rw [if_pos hw]
      exact h2 hu Kp Q fun φ' I' v w' k1 k2 k3 => hk φ' I' _ w' (hput v) (putS_rep (a := a) (show RepS φ' (appRd rd c d) w' I' ts1 a.tmps from ⟨hs1.1, fun i x v hx hv => (hs1.2 i x v hx hv).ext k3 sm⟩) o.dst k1) k2 k3
    · simp [evOp] at h
  have skip : ∀ {ts1 : List AV}, RepS φ rd w I ts1 a.tmps → Region.wanted o (yielded ops a.tmps) = false → K (putS ts1 o.dst .undef) .none ([], []) = some r → ∃ ts' d fp, K ts' d fp = some r ∧ ((∀ y, c ≤ y → y < c + d.nw.length → rd y = .unborn) → ∀ (Kp : Act → World → Prop) (Q : Exit → Act → World → Prop),
      (∀ φ' I' a' w', a'.defers = a.defers → RepS φ' (appRd rd c d) w' I' ts' a'.tmps → Sim φ' I' (appRd rd c d) w' → Ext φ I rd w φ' I' (appRd rd c d) w' → Kp a' w') → StepWp P ops o a w Kp Q) := by
    intro ts1 hs1 hw h
    refine ⟨_, _, _, h, fun _ Kp Q hk => ?_⟩
    unfold StepWp
    rw [hw, if_neg (by simp)]
    rw [appRd_none] at hk
    exact hk φ I _ w (hput undef) (putS_rep hs1 o.dst .undef) sm (.refl _ _ _ _)
  unfold compOper at hc
  have hcp : ∃ p, (compOp P rs o = some p ∨ p = .fail) ∧ (match o.guard with
      | none => some (⟨o.dst, none, p⟩ : IOper)
      | some (j, b) => match ops[j]? with
        | some q => match q.dst with
          | some d => some ⟨o.dst, some (d, b), p⟩
          | none => none
        | none => none) = some o' := by
    cases hp : compOp P rs o with
    | some p => simp only [hp] at hc; exact ⟨p, .inl rfl, hc⟩
    | none => simp only [hp] at hc; exact ⟨.fail, .inr rfl, hc⟩
  obtain ⟨p, hp, hc⟩ := hcp
  unfold operV at h
  split at hc
  · rename_i hg
    cases hc
    exact run hp hs (by simp [Region.wanted, hg]) h
  · rename_i j want hg
    split at hc
    · rename_i q hq
      split at hc
      · rename_i d hd
        cases hc
        simp only at h
        split at h
        · rename_i b hb
          have hy := yielded_bool hs hq hd hb
          have hs1 := setB_rep hs hb
          cases b <;> cases want <;> simp only [cond_true, cond_false] at h
          · exact run hp hs1 (by simp [Region.wanted, hg, hy]) h
          · exact skip hs1 (by simp [Region.wanted, hg, hy]) h
          · exact skip hs1 (by simp [Region.wanted, hg, hy]) h
          · exact run hp hs1 (by simp [Region.wanted, hg, hy]) h
        · rename_i hb
          have hy := yielded_undef hs hq hd hb
          exact skip hs (by simp [Region.wanted, hg, hy]) h
        · cases h
      · cases hc
    · cases hc

/-- A state of the reckoning tells one of the model. -/
structure StOk (Df : List Deferred) (φ : Phi) (I : Fz) (st : St) (a : Act) (w : World) : Prop where
  reps : RepS φ (rdH st.H) w I st.ts a.tmps
  sim : Sim φ I (rdH st.H) w
  defers : a.defers = Df

theorem evOps_sound (hF : FnsOk P F) {rs : Cfg} {ops : Array Oper} {Q : Exit → Act → World → Prop} {K : St → Option α} : ∀ (l : List Oper) (l' : List IOper) (st : St) (φ : Phi) (I : Fz) (a : Act) (w : World),
    mapO (compOper P rs ops) l = some l' → evOps F l' st K = some r → StOk Df φ I st a w →
    (∀ st' φ' I' a' w', K st' = some r → StOk Df φ' I' st' a' w' → Ext φ I (rdH st.H) w φ' I' (rdH st'.H) w' → Q .normal a' w') → wpList P ops Q l a w
  | [], l', st, φ, I, a, w, hl, h, ok, hQ => by
    simp [mapO] at hl; subst hl
    exact hQ st φ I a w h ok (.refl _ _ _ _)
  | o :: l, l', st, φ, I, a, w, hl, h, ok, hQ => by
    simp only [mapO] at hl
    split at hl
    · rename_i o' ho
      split at hl
      · rename_i r' hr'
        cases hl
        simp only [evOps] at h
        unfold evOper at h
        obtain ⟨ts', d, _, h1, h2⟩ := operV_sound hF ok.reps ok.sim ho h
        obtain ⟨hb, h1⟩ := bif_some h1
        refine wpList_step fun Kp hKp => ?_
        refine h2 (fun y hy _ => rdH_unborn _ _ hy) Kp Q fun φ' I' a' w' k1 k2 k3 k4 => hKp a' w' ?_
        have e := rdH_to d st.H (belowN_spec hb)
        rw [← e] at k2 k3 k4
        exact evOps_sound hF l r' ⟨ts', d.to st.H⟩ φ' I' a' w' hr' h1 ⟨k2, k3, k1.trans ok.defers⟩ fun st'' φ'' I'' a'' w'' m1 m2 m3 => hQ st'' φ'' I'' a'' w'' m1 m2 (k4.trans m3)
      · cases hl
    · cases hl

end

end Go.Proofs.Dw
end

/-
  THE ABSTRACT WALK, 24: what comes behind an operation is handed one value, whatever it is.
-/
section
namespace Go.Proofs.Dw

section
variable {α : Type} {r : α}

theorem asI_par {v : AV} {K : IntKind → Int → Option α} (h : asI v K = some r) : ∃ k n, K k n = some r ∧ ∀ {β : Type} (K' : IntKind → Int → Option β), asI v K' = K' k n := by
  obtain ⟨k, n, rfl, h⟩ := asI_some h
  exact ⟨k, n, h, fun K' => rfl⟩

theorem asB_par {v : AV} {K : Bool → Option α} (h : asB v K = some r) : ∃ b, K b = some r ∧ ∀ {β : Type} (K' : Bool → Option β), asB v K' = K' b := by
  obtain ⟨b, rfl, h⟩ := asB_some h
  exact ⟨b, h, fun K' => rfl⟩

theorem cellsBy_par {s : Sh} {v : AV} {K : List AV → Option α} (h : cellsBy s v K = some r) : ∃ l, K l = some r ∧ ∀ {β : Type} (K' : List AV → Option β), cellsBy s v K' = K' l := by
  unfold cellsBy at h
  split at h
  · split at h
    · obtain ⟨hb, h⟩ := bif_some h; exact ⟨_, h, fun K' => by simp only [cellsBy, hb, cond_true]⟩
    · obtain ⟨hb, h⟩ := bif_some h; exact ⟨_, h, fun K' => by simp only [cellsBy, hb, cond_true]⟩
    · cases h
  · rename_i hn
    obtain ⟨hb, h⟩ := bif_some h
    refine ⟨_, h, fun K' => ?_⟩
    cases s <;> first | exact absurd rfl (hn _) | (simp only [cellsBy, hb, cond_true])

theorem loadBy_par {s : Sh} {j : Nat} {cs : List AV} {K : AV → Option α} (h : loadBy s j cs K = some r) : ∃ v, K v = some r ∧ ∀ {β : Type} (K' : AV → Option β), loadBy s j cs K' = K' v := by
  unfold loadBy at h
  split at h
  · obtain ⟨hb, h⟩ := bif_some h; exact ⟨_, h, fun K' => by simp only [loadBy, hb, cond_true]⟩
  · rename_i hn
    split at h
    · rename_i hq
      obtain ⟨hb, h⟩ := bif_some h
      refine ⟨_, h, fun K' => ?_⟩
      unfold loadBy
      split
      · exact absurd rfl (hn _)
      · rw [hq]; simp only [hb, cond_true]
    · rename_i hnt hq
      obtain ⟨hb, h⟩ := bif_some h
      refine ⟨_, h, fun K' => ?_⟩
      unfold loadBy
      split
      · exact absurd rfl (hn _)
      · rw [hq]; simp only [hb, cond_true]
    · cases h

theorem elemOf_par {o : HObj} {i : Nat} {K : AV → Option α} (h : elemOf o i K = some r) : ∃ v, K v = some r ∧ ∀ {β : Type} (K' : AV → Option β), elemOf o i K' = K' v := by
  unfold elemOf at h
  split at h
  · cases h
  · cases h
  · cases h
  · rename_i s es
    cases hq : nth es i with
    | none => simp [hq] at h
    | some e => simp only [hq, Option.bind_some] at h; exact ⟨_, h, fun K' => by simp only [elemOf, hq, Option.bind_some]⟩
  all_goals
    rename_i s es
    cases hq : nth es i with
    | none => simp [hq] at h
    | some e =>
      simp only [hq, Option.bind_some] at h
      obtain ⟨hb, h⟩ := bif_some h
      exact ⟨_, h, fun K' => by simp only [elemOf, hq, Option.bind_some, hb, cond_true]⟩

theorem storeTo_par {o : HObj} {i j : Nat} {new : List AV} {K : HObj → Option α} (h : storeTo o i j new K = some r) : ∃ v, K v = some r ∧ ∀ {β : Type} (K' : HObj → Option β), storeTo o i j new K' = K' v := by
  unfold storeTo at h
  split at h
  · rename_i s es
    cases hq : nth es i with
    | none => simp [hq] at h
    | some e =>
      simp only [hq, Option.bind_some] at h
      obtain ⟨hb, h⟩ := bif_some h
      split at h
      · obtain ⟨hb2, h⟩ := bif_some h
        exact ⟨_, h, fun K' => by simp only [storeTo, hq, Option.bind_some, hb, hb2, cond_true]⟩
      · rename_i hn
        split at h
        · refine ⟨_, h, fun K' => ?_⟩
          simp only [storeTo, hq, Option.bind_some, hb, cond_true]
        · cases h
  · rename_i s es
    cases hq : nth es i with
    | none => simp [hq] at h
    | some e =>
      simp only [hq, Option.bind_some] at h
      split at h
      · obtain ⟨hb2, h⟩ := bif_some h
        exact ⟨_, h, fun K' => by simp only [storeTo, hq, Option.bind_some, hb2, cond_true]⟩
      · split at h
        · refine ⟨_, h, fun K' => ?_⟩
          simp only [storeTo, hq, Option.bind_some]
        · cases h
  · cases h

theorem elsOf_par {s : Sh} {rd : Rd} {v : AV} {K : Els → Option α} (h : elsOf s rd v K = some r) : ∃ l, K l = some r ∧ ∀ {β : Type} (K' : Els → Option β), elsOf s rd v K' = K' l := by
  unfold elsOf at h
  split at h
  · obtain ⟨hb, h⟩ := bif_some h; exact ⟨_, h, fun K' => by simp only [elsOf, hb, cond_true]⟩
  · exact ⟨_, h, fun K' => rfl⟩
  · obtain ⟨hb, h⟩ := bif_some h; exact ⟨_, h, fun K' => by simp only [elsOf, hb, cond_true]⟩
  · split at h
    · rename_i hq
      obtain ⟨hb, h⟩ := bif_some h
      exact ⟨_, h, fun K' => by simp only [elsOf, hq, hb, cond_true]⟩
    · cases h
  · split at h
    · rename_i hq
      obtain ⟨hb, h⟩ := bif_some h
      exact ⟨_, h, fun K' => by simp only [elsOf, hq, hb, cond_true]⟩
    · cases h
  · cases h

theorem lenOf_par {rd : Rd} {v : AV} {K : Nat → Option α} (h : lenOf rd v K = some r) : ∃ l, K l = some r ∧ ∀ {β : Type} (K' : Nat → Option β), lenOf rd v K' = K' l := by
  unfold lenOf at h
  split at h
  · exact ⟨_, h, fun K' => rfl⟩
  · exact ⟨_, h, fun K' => rfl⟩
  · exact ⟨_, h, fun K' => rfl⟩
  · split at h
    · rename_i hq; exact ⟨_, h, fun K' => by simp only [lenOf, hq]⟩
    · cases h
  · split at h
    · rename_i hq; exact ⟨_, h, fun K' => by simp only [lenOf, hq]⟩
    · cases h
  · cases h

theorem optI_par {ts : List AV} {o : Option Opd} {d : Int} {K : Int → Option α} (h : optI ts o d K = some r) : ∃ n, K n = some r ∧ ∀ {β : Type} (K' : Int → Option β), optI ts o d K' = K' n := by
  unfold optI at h
  split at h
  · exact ⟨_, h, fun K' => rfl⟩
  · obtain ⟨k, n, h, e⟩ := asI_par h
    exact ⟨n, h, fun K' => e _⟩

theorem fills_par {ts : List AV} : ∀ {ps : List (Nat × Sh × Opd)} {cs : List AV} {K : List AV → Option α}, fills ts cs ps K = some r → ∃ l, K l = some r ∧ ∀ {β : Type} (K' : List AV → Option β), fills ts cs ps K' = K' l
  | [], cs, K, h => ⟨_, h, fun K' => rfl⟩
  | (off, s, x) :: ps, cs, K, h => by
    simp only [fills] at h
    obtain ⟨l, h, e1⟩ := cellsBy_par h
    obtain ⟨hb, h⟩ := bif_some h
    obtain ⟨l2, h, e2⟩ := fills_par h
    exact ⟨l2, h, fun K' => by simp only [fills, e1, hb, cond_true, e2]⟩

theorem elemFills_par {ts : List AV} {s : Sh} : ∀ {ps : List (Nat × Opd)} {cs : List AV} {K : List AV → Option α}, elemFills ts s cs ps K = some r → ∃ l, K l = some r ∧ ∀ {β : Type} (K' : List AV → Option β), elemFills ts s cs ps K' = K' l
  | [], cs, K, h => ⟨_, h, fun K' => rfl⟩
  | (i, x) :: ps, cs, K, h => by
    simp only [elemFills] at h
    obtain ⟨l, h, e1⟩ := cellsBy_par h
    obtain ⟨hb, h⟩ := bif_some h
    obtain ⟨l2, h, e2⟩ := elemFills_par h
    exact ⟨l2, h, fun K' => by simp only [elemFills, e1, hb, cond_true, e2]⟩

theorem intOp_par {o : BinOp} {k : IntKind} {a b : Int} {K : AV → Option α} (h : intOp o k a b K = some r) : ∃ v, K v = some r ∧ ∀ {β : Type} (K' : AV → Option β), intOp o k a b K' = K' v := by
  unfold intOp at h
  split at h <;> first | exact ⟨_, h, fun K' => rfl⟩ | (obtain ⟨hb, h⟩ := bif_none h; exact ⟨_, h, fun K' => by simp only [intOp, hb, cond_false]⟩) | cases h

theorem shiftOp_par {o : BinOp} {k : IntKind} {a b : Int} {K : AV → Option α} (h : shiftOp o k a b K = some r) : ∃ v, K v = some r ∧ ∀ {β : Type} (K' : AV → Option β), shiftOp o k a b K' = K' v := by
  unfold shiftOp at h
  obtain ⟨hb, h⟩ := bif_none h
  split at h <;> first | exact ⟨_, h, fun K' => by simp only [shiftOp, hb, cond_false]⟩ | cases h

theorem strOp_par {o : BinOp} {a b : List UInt8} {K : AV → Option α} (h : strOp o a b K = some r) : ∃ v, K v = some r ∧ ∀ {β : Type} (K' : AV → Option β), strOp o a b K' = K' v := by
  unfold strOp at h
  split at h <;> first | exact ⟨_, h, fun K' => rfl⟩ | (obtain ⟨hb, h⟩ := bif_some h; exact ⟨_, h, fun K' => by simp only [strOp, hb, cond_true]⟩) | cases h

theorem binA_par {o : BinOp} {x y : AV} {K : AV → Option α} (h : binA o x y K = some r) : ∃ v, K v = some r ∧ ∀ {β : Type} (K' : AV → Option β), binA o x y K' = K' v := by
  unfold binA at h
  split at h
  · split at h
    · obtain ⟨v, h, e⟩ := shiftOp_par h; exact ⟨v, h, fun K' => by simp only [binA]; exact e K'⟩
    · obtain ⟨v, h, e⟩ := shiftOp_par h; exact ⟨v, h, fun K' => by simp only [binA]; exact e K'⟩
    · rename_i n1 n2
      obtain ⟨hb, h⟩ := bif_some h
      obtain ⟨v, h, e⟩ := intOp_par h
      refine ⟨v, h, fun K' => ?_⟩
      cases o <;> first | exact absurd rfl n1 | exact absurd rfl n2 | (simp only [binA, hb, cond_true]; exact e K')
  · obtain ⟨v, h, e⟩ := strOp_par h; exact ⟨v, h, fun K' => by simp only [binA]; exact e K'⟩
  · cases h

theorem unA_par {o : UnOp} {x : AV} {K : AV → Option α} (h : unA o x K = some r) : ∃ v, K v = some r ∧ ∀ {β : Type} (K' : AV → Option β), unA o x K' = K' v := by
  unfold unA at h
  split at h <;> first | exact ⟨_, h, fun K' => rfl⟩ | cases h

/-- A way of going on that is handed one value. -/
def Par (f : ∀ {β : Type}, (AV → Delta → Option β) → Option β) : Prop := ∀ {α : Type} {r : α} {K : AV → Delta → Option α}, f K = some r → ∃ v d, K v d = some r ∧ ∀ {β : Type} (K' : AV → Delta → Option β), f K' = K' v d

theorem callO_par {F : Fns} {g : Nat} {l : List Sh} {args : List AV} {c : Nat} {K : AV → Delta → Option α} (h : callO F g l args c K = some r) :
    ∃ v d, K v d = some r ∧ ∀ {β : Type} (K' : AV → Delta → Option β), callO F g l args c K' = K' v d := by
  unfold callO at h
  obtain ⟨hok, h⟩ := bif_some h
  cases hp : F.rf g args [] with
  | none => simp [hp] at h
  | some p =>
    simp only [hp, Option.bind_some] at h
    cases hb : rowForm (.agg l) p.2 l (aggCs p.1) with
    | true =>
      rw [hb, cond_true] at h
      exact ⟨_, _, h, fun K' => by simp only [callO, hok, cond_true, hp, Option.bind_some, hb, cond_true]⟩
    | false =>
      rw [hb, cond_false] at h
      obtain ⟨hb2, h⟩ := bif_some h
      exact ⟨_, _, h, fun K' => by simp only [callO, hok, cond_true, hp, Option.bind_some, hb, cond_false, hb2, cond_true]⟩

theorem callC_par {F : Fns} {g : Nat} {args : List AV} {c : Nat} {K : AV → Delta → Option α} (h : callC F g args c K = some r) :
    ∃ v d, K v d = some r ∧ ∀ {β : Type} (K' : AV → Delta → Option β), callC F g args c K' = K' v d := by
  unfold callC at h
  obtain ⟨hok, h⟩ := bif_some h
  cases hp : F.rf g args [] with
  | none => simp [hp] at h
  | some p =>
    simp only [hp, Option.bind_some] at h
    cases hb : isClip p.1 with
    | true =>
      rw [hb, cond_true] at h
      exact ⟨_, _, h, fun K' => by simp only [callC, hok, cond_true, hp, Option.bind_some, hb, cond_true]⟩
    | false =>
      rw [hb, cond_false] at h; cases h

theorem callA_par {F : Fns} {md : Bool} {g : Nat} {s : Sh} {args : List AV} {rd : Rd} {c : Nat} {K : AV → Delta → Option α} (h : callA F md g s args rd c K = some r) :
    ∃ v d, K v d = some r ∧ ∀ {β : Type} (K' : AV → Delta → Option β), callA F md g s args rd c K' = K' v d := by
  unfold callA at h
  cases md with
  | true =>
    simp only at h
    split at h
    · rename_i xs l hxs
      obtain ⟨v, d, h, e⟩ := callO_par h
      exact ⟨v, d, h, fun K' => by simp only [callA, hxs]; exact e K'⟩
    · rename_i xs hxs
      obtain ⟨v, d, h, e⟩ := callC_par h
      exact ⟨v, d, h, fun K' => by simp only [callA, hxs]; exact e K'⟩
    · rename_i hno hno2
      unfold callR at h
      obtain ⟨hb, h⟩ := bif_some h
      cases hp : F.rf g (AV.renL (idxN (discover rd 4096 (AV.refsL args) [])) args) (objs rd (idxN (discover rd 4096 (AV.refsL args) [])) (discover rd 4096 (AV.refsL args) [])) with
      | none => simp [hp] at h
      | some p =>
        simp only [hp, Option.bind_some] at h
        unfold callR.backTo at h
        obtain ⟨hb2, h⟩ := bif_some h
        refine ⟨_, _, h, fun K' => ?_⟩
        unfold callA
        first
        | (simp only [callR, hb, cond_true, hp, Option.bind_some, callR.backTo, hb2]; done)
        | (split
           · rename_i xs l hxs
             exact absurd rfl (hno xs l hxs)
           · rename_i xs hxs
             exact absurd rfl (hno2 xs hxs)
           · simp only [callR, hb, cond_true, hp, Option.bind_some, callR.backTo, hb2])
  | false =>
    simp only at h
    split at h
    · rename_i xs hxs
      cases hp : F.pf g xs with
      | none => simp [hp] at h
      | some y =>
        simp only [hp, Option.bind_some] at h
        obtain ⟨hb, h⟩ := bif_some h
        exact ⟨_, _, h, fun K' => by simp only [callA, hxs, hp, Option.bind_some, hb, cond_true]⟩
    · rename_i hxs
      split at h
      · cases h
      · rename_i wr hwr
        split at h
        · cases h
        · rename_i xs hm
          cases hp : F.pf g xs with
          | none => simp [hp] at h
          | some y =>
            simp only [hp, Option.bind_some] at h
            obtain ⟨hb, h⟩ := bif_some h
            exact ⟨_, _, h, fun K' => by simp only [callA, hxs, hwr, hm, hp, Option.bind_some, hb, cond_true]⟩

theorem callV_par {F : Fns} {x : AV} {s : Sh} {args : List AV} {rd : Rd} {c : Nat} {K : AV → Delta → Option α} (h : callV F x s args rd c K = some r) :
    ∃ v d, K v d = some r ∧ ∀ {β : Type} (K' : AV → Delta → Option β), callV F x s args rd c K' = K' v d := by
  unfold callV at h
  split at h
  · rename_i y
    split at h
    · rename_i xs hxs
      cases hp : callT F y xs with
      | none => simp [hp] at h
      | some z =>
        simp only [hp, Option.bind_some] at h
        obtain ⟨hb, h⟩ := bif_some h
        exact ⟨_, _, h, fun K' => by simp only [callV, hxs, hp, Option.bind_some, hb, cond_true]⟩
    · rename_i hxs
      split at h
      · obtain ⟨v, d, h, e⟩ := callA_par h
        exact ⟨v, d, h, fun K' => by simp only [callV, hxs]; exact e K'⟩
      · cases h
  · obtain ⟨v, d, h, e⟩ := callA_par h
    exact ⟨v, d, h, fun K' => by simp only [callV]; exact e K'⟩
  · cases h


theorem withW_par {rd : Rd} {K : World' → Option α} (h : withW rd K = some r) : ∃ G, K G = some r ∧ ∀ {β : Type} (K' : World' → Option β), withW rd K' = K' G := by
  unfold withW at h
  split at h
  · rename_i G hG; exact ⟨G, h, fun K' => by simp only [withW, hG]⟩
  · cases h

theorem treesOf_par {args : List AV} {rd : Rd} {K : List Tree → List (Nat × HObj) → Option α} (h : treesOf args rd K = some r) : ∃ xs wr, K xs wr = some r ∧ ∀ {β : Type} (K' : List Tree → List (Nat × HObj) → Option β), treesOf args rd K' = K' xs wr := by
  unfold treesOf at h
  split at h
  · rename_i xs hxs; exact ⟨xs, [], h, fun K' => by simp only [treesOf, hxs]⟩
  · rename_i hn
    split at h
    · cases h
    · rename_i wr hwr
      split at h
      · cases h
      · rename_i xs hxs; exact ⟨xs, wr, h, fun K' => by simp only [treesOf, hn, hwr, hxs]⟩

theorem callR_par {F : Fns} {g : Nat} {args : List AV} {rd : Rd} {c : Nat} {seen : List Nat} {K : AV → Delta → Option α} (h : callR F g args rd c seen K = some r) :
    ∃ v d, K v d = some r ∧ ∀ {β : Type} (K' : AV → Delta → Option β), callR F g args rd c seen K' = K' v d := by
  unfold callR at h
  obtain ⟨hb, h⟩ := bif_some h
  cases hp : F.rf g (AV.renL (idxN seen) args) (objs rd (idxN seen) seen) with
  | none => simp [hp] at h
  | some p =>
    simp only [hp, Option.bind_some] at h
    unfold callR.backTo at h
    obtain ⟨hb2, h⟩ := bif_some h
    exact ⟨_, _, h, fun K' => by simp only [callR, hb, cond_true, hp, Option.bind_some, callR.backTo, hb2]⟩

theorem layG_par {k : GK} {s : Sh} {m : Nat} {p : AV × Heap} {K : AV × Heap → Option α} (h : layG k s m p K = some r) : ∃ q, K q = some r ∧ ∀ {β : Type} (K' : AV × Heap → Option β), layG k s m p K' = K' q := by
  unfold layG at h
  split at h
  · obtain ⟨hb, h⟩ := bif_some h; exact ⟨_, h, fun K' => by simp only [layG, hb, cond_true]⟩
  · obtain ⟨hb, h⟩ := bif_some h; exact ⟨_, h, fun K' => by simp only [layG, hb, cond_true]⟩
  · rename_i ty ns
    cases hb : nForm ty ns p.1 p.2 with
    | true => rw [hb, cond_true] at h; exact ⟨_, h, fun K' => by simp only [layG, hb, cond_true]⟩
    | false =>
      rw [hb, cond_false] at h
      obtain ⟨hb2, h⟩ := bif_some h
      exact ⟨_, h, fun K' => by simp only [layG, hb, cond_false, hb2, cond_true]⟩
  · rename_i a b
    cases hb : bForm a b p.1 p.2 with
    | true => rw [hb, cond_true] at h; exact ⟨_, h, fun K' => by simp only [layG, hb, cond_true]⟩
    | false =>
      rw [hb, cond_false] at h
      obtain ⟨hb2, h⟩ := bif_some h
      exact ⟨_, h, fun K' => by simp only [layG, hb, cond_false, hb2, cond_true]⟩

theorem callG_par {F : Fns} {k : GK} {s : Sh} {mask : List Bool} {g : Nat} {args : List AV} {rd : Rd} {c : Nat} {K : AV → Delta → Option α} (h : callG F k s mask g args rd c K = some r) :
    ∃ v d, K v d = some r ∧ ∀ {β : Type} (K' : AV → Delta → Option β), callG F k s mask g args rd c K' = K' v d := by
  unfold callG at h
  obtain ⟨xs, wr, h, e1⟩ := treesOf_par h
  unfold callGR at h
  obtain ⟨hb, h⟩ := bif_some h
  cases hp : F.rf g (AV.renL (idxN (discover (wrF rd wr) 4096 (AV.refsL (putM mask args xs)) [])) (putM mask args xs)) (objs (wrF rd wr) (idxN (discover (wrF rd wr) 4096 (AV.refsL (putM mask args xs)) [])) (discover (wrF rd wr) 4096 (AV.refsL (putM mask args xs)) [])) with
  | none => simp [hp] at h
  | some p =>
    simp only [hp, Option.bind_some] at h
    obtain ⟨q, h, e2⟩ := layG_par h
    unfold callR.backTo at h
    obtain ⟨hb2, h⟩ := bif_some h
    exact ⟨_, _, h, fun K' => by simp only [callG, callGR, e1, hb, cond_true, hp, Option.bind_some, e2, callR.backTo, hb2]⟩

theorem callM_par {F : Fns} {mask : List Bool} {g : Nat} {args : List AV} {rd : Rd} {c : Nat} {K : AV → Delta → Option α} (h : callM F mask g args rd c K = some r) :
    ∃ v d, K v d = some r ∧ ∀ {β : Type} (K' : AV → Delta → Option β), callM F mask g args rd c K' = K' v d := by
  unfold callM at h
  obtain ⟨xs, wr, h, e1⟩ := treesOf_par h
  obtain ⟨v, d, h, e2⟩ := callR_par h
  exact ⟨_, _, h, fun K' => by simp only [callM, e1, e2]⟩

theorem extfA_par {n : Nat} {x : AV} {rd : Rd} {K : AV → Delta → Option α} (h : extfA n x rd K = some r) :
    ∃ v d, K v d = some r ∧ ∀ {β : Type} (K' : AV → Delta → Option β), extfA n x rd K' = K' v d := by
  unfold extfA at h
  split at h
  · rename_i l
    cases hq : nth l n with
    | none => simp [hq] at h
    | some e =>
      simp only [hq, Option.bind_some] at h
      exact ⟨_, _, h, fun K' => by simp only [extfA, hq, Option.bind_some]⟩
  · rename_i l
    cases hq : nth l n with
    | none => simp [hq] at h
    | some e =>
      simp only [hq, Option.bind_some] at h
      obtain ⟨xs, wr, h, e1⟩ := treesOf_par h
      exact ⟨_, _, h, fun K' => by simp only [extfA, hq, Option.bind_some, e1]⟩
  · cases h

theorem ldRow_par {s : Sh} {o : HObj} {i j : Nat} {K : AV → Option α} (h : ldRow s o i j K = some r) : ∃ v, K v = some r ∧ ∀ {β : Type} (K' : AV → Option β), ldRow s o i j K' = K' v := by
  have key : ∀ es : List Tree, (bif Nat.beq j 0 then (nth es i).bind fun e => bif Sh.ok .wp e then K (.t (Sh.open .wp e)) else none else none) = some r →
      ∃ v, K v = some r ∧ ∀ {β : Type} (K' : AV → Option β), (bif Nat.beq j 0 then (nth es i).bind fun e => bif Sh.ok .wp e then K' (.t (Sh.open .wp e)) else none else none) = K' v := by
    intro es h
    obtain ⟨hj, h⟩ := bif_some h
    cases hq : nth es i with
    | none => rw [hq] at h; cases h
    | some e =>
      rw [hq] at h
      simp only [Option.bind_some] at h
      obtain ⟨hb, h⟩ := bif_some h
      exact ⟨_, h, fun K' => by rw [hj]; simp only [cond_true, Option.bind_some, hb]⟩
  have old : ∀ s, elemOf o i (fun e => loadBy s j e.cells K) = some r → ∃ v, K v = some r ∧ ∀ {β : Type} (K' : AV → Option β), elemOf o i (fun e => loadBy s j e.cells K') = K' v := by
    intro s h
    obtain ⟨l, h, e⟩ := elemOf_par h
    obtain ⟨l2, h, e2⟩ := loadBy_par h
    exact ⟨_, h, fun K' => by rw [e]; exact e2 K'⟩
  cases s with
  | wp =>
    cases o with
    | tre s es => cases s <;> first | exact key _ h | exact old .wp h
    | froz s es => cases s <;> first | exact key _ h | exact old .wp h
    | _ => exact old .wp h
  | _ => exact old _ h

theorem bind_par {β : Type} {x : Option β} {K : β → Option α} (h : x.bind K = some r) : ∃ y, K y = some r ∧ x = some y := by
  cases x with
  | none => cases h
  | some y => exact ⟨y, h, rfl⟩

theorem wcells_par {G : World'} {id : Nat} : ∀ {l : List Sh} {j : Nat} {K : List Tree → Option α}, wcells G id j l K = some r → ∃ xs, K xs = some r ∧ ∀ {β : Type} (K' : List Tree → Option β), wcells G id j l K' = K' xs
  | [], j, K, h => ⟨[], h, fun K' => rfl⟩
  | s :: l, j, K, h => by
    simp only [wcells] at h
    obtain ⟨x, h, hx⟩ := bind_par h
    obtain ⟨hok, h⟩ := bif_some h
    obtain ⟨xs, h, e⟩ := wcells_par h
    exact ⟨_, h, fun K' => by simp only [wcells, hx, Option.bind_some, hok, cond_true, e]⟩

theorem loadW_par {s : Sh} {G : World'} {id j : Nat} {K : AV → Option α} (h : loadW s G id j K = some r) : ∃ v, K v = some r ∧ ∀ {β : Type} (K' : AV → Option β), loadW s G id j K' = K' v := by
  unfold loadW at h
  split at h
  · cases h
  · rename_i l hl
    obtain ⟨xs, h2, e⟩ := wcells_par h
    refine ⟨.t (.agg xs), h2, fun K' => ?_⟩
    cases l with
    | nil => exact (hl rfl).elim
    | cons q l => exact e fun xs => K' (.t (.agg xs))
  · rename_i h1 h2
    obtain ⟨x, h, hx⟩ := bind_par h
    obtain ⟨hok, h⟩ := bif_some h
    refine ⟨_, h, fun K' => ?_⟩
    unfold loadW
    split
    · exact (h1 rfl).elim
    · exact (h2 _ rfl).elim
    · simp only [hx, Option.bind_some, hok, cond_true]

theorem storeW_par {s : Sh} {G : World'} {id j : Nat} {x : Tree} {K : World' → Option α} (h : storeW s G id j x K = some r) : ∃ G', K G' = some r ∧ ∀ {β : Type} (K' : World' → Option β), storeW s G id j x K' = K' G' := by
  unfold storeW at h
  split at h
  · rename_i l
    split at h
    · rename_i cs
      obtain ⟨hb, h⟩ := bif_some h
      obtain ⟨G', h, hx⟩ := bind_par h
      exact ⟨G', h, fun K' => by simp only [storeW, hb, cond_true, hx, Option.bind_some]⟩
    · cases h
  · rename_i hn
    obtain ⟨G', h, hx⟩ := bind_par h
    refine ⟨G', h, fun K' => ?_⟩
    unfold storeW
    split
    · exact absurd rfl (hn _)
    · simp only [hx, Option.bind_some]

theorem callW_par {F : Fns} {g : Nat} {s : Sh} {args : List AV} {rd : Rd} {K : AV → Delta → Option α} (h : callW F g s args rd K = some r) :
    ∃ v d, K v d = some r ∧ ∀ {β : Type} (K' : AV → Delta → Option β), callW F g s args rd K' = K' v d := by
  unfold callW at h
  obtain ⟨xs, wr, h, e1⟩ := treesOf_par h
  obtain ⟨G, h, e2⟩ := withW_par h
  obtain ⟨p, h, e3⟩ := bind_par h
  obtain ⟨hb, h⟩ := bif_some h
  exact ⟨_, _, h, fun K' => by simp only [callW, e1, e2, e3, Option.bind_some, hb, cond_true]⟩

end

end Go.Proofs.Dw
end

/-
  THE ABSTRACT WALK, 25: the same, of each operation; and what it looks at.
-/
section
namespace Go.Proofs.Dw

theorem evOp_par {F : Fns} {p : IOp} {ts : List AV} {rd : Rd} {c : Nat} {α : Type} {r : α} {K : AV → Delta → Option α} (h : evOp F p ts rd c K = some r) :
    ∃ v d, K v d = some r ∧ ∀ {β : Type} (K' : AV → Delta → Option β), evOp F p ts rd c K' = K' v d := by
  cases p with
  | mov x => exact ⟨_, _, h, fun K' => rfl⟩
  | nonnil x =>
    simp only [evOp] at h
    split at h
    · rename_i e; exact ⟨_, _, h, fun K' => by simp only [evOp, e]⟩
    · rename_i e; exact ⟨_, _, h, fun K' => by simp only [evOp, e]⟩
    · rename_i e; exact ⟨_, _, h, fun K' => by simp only [evOp, e]⟩
    · cases h
  | pick x a b =>
    simp only [evOp] at h
    obtain ⟨t, h, e⟩ := asB_par h
    cases t with
    | true => exact ⟨_, _, h, fun K' => by simp only [evOp, e, cond_true]⟩
    | false => exact ⟨_, _, h, fun K' => by simp only [evOp, e, cond_false]⟩
  | new s z =>
    simp only [evOp] at h
    obtain ⟨l, h, e⟩ := cellsBy_par h
    exact ⟨_, _, h, fun K' => by simp only [evOp, e]⟩
  | box s x =>
    simp only [evOp] at h
    obtain ⟨l, h, e⟩ := cellsBy_par h
    exact ⟨_, _, h, fun K' => by simp only [evOp, e]⟩
  | build z ps =>
    simp only [evOp] at h
    obtain ⟨l, h, e⟩ := fills_par h
    exact ⟨_, _, h, fun K' => by simp only [evOp, e]⟩
  | bsl s z n ps =>
    simp only [evOp] at h
    obtain ⟨l, h, e⟩ := cellsBy_par h
    obtain ⟨l2, h, e2⟩ := elemFills_par h
    exact ⟨_, _, h, fun K' => by simp only [evOp, e, e2]⟩
  | ld s x =>
    simp only [evOp] at h
    split at h
    · rename_i q
      obtain ⟨l, h, e⟩ := ldRow_par h
      exact ⟨_, _, h, fun K' => by simp only [evOp, q, e]⟩
    · rename_i q
      obtain ⟨l2, h, e2⟩ := loadBy_par h
      exact ⟨_, _, h, fun K' => by simp only [evOp, q, e2]⟩
    · rename_i q
      obtain ⟨G, h, e⟩ := withW_par h
      obtain ⟨l2, h, e2⟩ := loadW_par h
      exact ⟨_, _, h, fun K' => by simp only [evOp, q, e, e2]⟩
    · cases h
  | st s x v =>
    simp only [evOp] at h
    split at h
    · rename_i q
      obtain ⟨xs, wr, h, e⟩ := treesOf_par h
      obtain ⟨G, h, e2⟩ := withW_par h
      obtain ⟨G', h, e3⟩ := storeW_par h
      exact ⟨_, _, h, fun K' => by simp only [evOp, q, e, e2, e3]⟩
    · rename_i q
      obtain ⟨l, h, e⟩ := cellsBy_par h
      obtain ⟨l2, h, e2⟩ := storeTo_par h
      exact ⟨_, _, h, fun K' => by simp only [evOp, q, e, e2]⟩
    · cases h
  | bin o x y =>
    simp only [evOp] at h
    obtain ⟨l, h, e⟩ := binA_par h
    exact ⟨_, _, h, fun K' => by simp only [evOp, e]⟩
  | eqs neq q x y =>
    simp only [evOp] at h
    split at h
    · rename_i b hb
      cases neq with
      | true => exact ⟨_, _, h, fun K' => by simp only [evOp, hb]⟩
      | false => exact ⟨_, _, h, fun K' => by simp only [evOp, hb]⟩
    · cases h
  | un o x =>
    simp only [evOp] at h
    obtain ⟨l, h, e⟩ := unA_par h
    exact ⟨_, _, h, fun K' => by simp only [evOp, e]⟩
  | conv k x =>
    simp only [evOp] at h
    obtain ⟨k', n, h, e⟩ := asI_par h
    exact ⟨_, _, h, fun K' => by simp only [evOp, e]⟩
  | mkf g a b =>
    simp only [evOp] at h
    split at h
    · rename_i q1 q2; exact ⟨_, _, h, fun K' => by simp only [evOp, q1, q2]⟩
    · rename_i hn
      refine ⟨_, _, h, fun K' => ?_⟩
      simp only [evOp]
  | mks s bytes z l m =>
    simp only [evOp] at h
    obtain ⟨l1, h, e1⟩ := cellsBy_par h
    obtain ⟨k2, n2, h, e2⟩ := asI_par h
    obtain ⟨k3, n3, h, e3⟩ := asI_par h
    obtain ⟨hb, h⟩ := bif_some h
    exact ⟨_, _, h, fun K' => by simp only [evOp, e1, e2, e3, hb, cond_true]⟩
  | sub s x lo hi mx =>
    cases mx with
    | none =>
      simp only [evOp] at h
      obtain ⟨n, h, e1⟩ := lenOf_par h
      obtain ⟨l, h, e2⟩ := optI_par h
      obtain ⟨u, h, e3⟩ := optI_par h
      obtain ⟨hb, h⟩ := bif_some h
      split at h
      · rename_i q; obtain ⟨hb2, h⟩ := bif_some h; exact ⟨_, _, h, fun K' => by simp only [evOp, e1, e2, e3, hb, cond_true]; simp only [q, hb2, cond_true]⟩
      · rename_i q; obtain ⟨hb2, h⟩ := bif_some h; exact ⟨_, _, h, fun K' => by simp only [evOp, e1, e2, e3, hb, cond_true]; simp only [q, hb2, cond_true]⟩
      · rename_i q; exact ⟨_, _, h, fun K' => by simp only [evOp, e1, e2, e3, hb, cond_true]; simp only [q]⟩
      · rename_i q; obtain ⟨hb2, h⟩ := bif_some h; exact ⟨_, _, h, fun K' => by simp only [evOp, e1, e2, e3, hb, cond_true]; simp only [q, hb2, cond_true]⟩
      · rename_i q; obtain ⟨hb2, h⟩ := bif_some h; exact ⟨_, _, h, fun K' => by simp only [evOp, e1, e2, e3, hb, cond_true]; simp only [q, hb2, cond_true]⟩
      · cases h
    | some mx =>
      simp only [evOp] at h
      obtain ⟨n, h, e1⟩ := lenOf_par h
      obtain ⟨l, h, e2⟩ := optI_par h
      obtain ⟨u, h, e3⟩ := optI_par h
      obtain ⟨k4, m, h, e4⟩ := asI_par h
      obtain ⟨hb, h⟩ := bif_some h
      split at h
      · rename_i q; obtain ⟨hb2, h⟩ := bif_some h; exact ⟨_, _, h, fun K' => by simp only [evOp, e1, e2, e3, e4, hb, cond_true]; simp only [q, hb2, cond_true]⟩
      · rename_i q; obtain ⟨hb2, h⟩ := bif_some h; exact ⟨_, _, h, fun K' => by simp only [evOp, e1, e2, e3, e4, hb, cond_true]; simp only [q, hb2, cond_true]⟩
      · rename_i q; exact ⟨_, _, h, fun K' => by simp only [evOp, e1, e2, e3, e4, hb, cond_true]; simp only [q]⟩
      · cases h
  | subs x lo hi =>
    simp only [evOp] at h
    split at h
    · rename_i q
      obtain ⟨l, h, e2⟩ := optI_par h
      obtain ⟨u, h, e3⟩ := optI_par h
      obtain ⟨hb, h⟩ := bif_some h
      exact ⟨_, _, h, fun K' => by simp only [evOp, q, e2, e3, hb, cond_true]⟩
    · cases h
  | fa off x =>
    simp only [evOp] at h
    split at h
    · rename_i q; exact ⟨_, _, h, fun K' => by simp only [evOp, q]⟩
    · rename_i q; exact ⟨_, _, h, fun K' => by simp only [evOp, q]⟩
    · rename_i q; exact ⟨_, _, h, fun K' => by simp only [evOp, q]⟩
    · cases h
  | fld off s x =>
    simp only [evOp] at h
    split at h
    · rename_i q; obtain ⟨l, h, e⟩ := loadBy_par h; exact ⟨_, _, h, fun K' => by simp only [evOp, q, e]⟩
    · rename_i q; obtain ⟨l, h, e⟩ := loadBy_par h; exact ⟨_, _, h, fun K' => by simp only [evOp, q, e]⟩
    · cases h
  | ia s x i =>
    simp only [evOp] at h
    obtain ⟨k, n, h, e1⟩ := asI_par h
    split at h
    · rename_i es q
      obtain ⟨hb, h⟩ := bif_some h
      cases hq : nth es n.toNat with
      | none => simp [hq] at h
      | some e =>
        simp only [hq, Option.bind_some] at h
        obtain ⟨hb2, h⟩ := bif_some h
        exact ⟨_, _, h, fun K' => by simp only [evOp, e1, q, hb, cond_true, hq, Option.bind_some, hb2]⟩
    · rename_i es q
      obtain ⟨hb, h⟩ := bif_some h
      cases hq : nth es n.toNat with
      | none => simp [hq] at h
      | some e =>
        simp only [hq, Option.bind_some] at h
        obtain ⟨hb2, h⟩ := bif_some h
        exact ⟨_, _, h, fun K' => by simp only [evOp, e1, q, hb, cond_true, hq, Option.bind_some, hb2]⟩
    · rename_i q
      split at h
      · rename_i hq
        obtain ⟨hb, h⟩ := bif_some h
        exact ⟨_, _, h, fun K' => by simp only [evOp, e1, q, hq, hb, cond_true]⟩
      · cases h
    · rename_i q
      split at h
      · rename_i hq
        obtain ⟨hb, h⟩ := bif_some h
        exact ⟨_, _, h, fun K' => by simp only [evOp, e1, q, hq, hb, cond_true]⟩
      · cases h
    · cases h
  | iaa s n x i =>
    simp only [evOp] at h
    obtain ⟨k, m, h, e1⟩ := asI_par h
    obtain ⟨hb, h⟩ := bif_some h
    split at h
    · rename_i q; exact ⟨_, _, h, fun K' => by simp only [evOp, e1, hb, cond_true, q]⟩
    · rename_i q; exact ⟨_, _, h, fun K' => by simp only [evOp, e1, hb, cond_true, q]⟩
    · cases h
  | ixa s n x i =>
    simp only [evOp] at h
    obtain ⟨k, m, h, e1⟩ := asI_par h
    obtain ⟨hb, h⟩ := bif_some h
    split at h
    · rename_i q; obtain ⟨l, h, e⟩ := loadBy_par h; exact ⟨_, _, h, fun K' => by simp only [evOp, e1, hb, cond_true, q, e]⟩
    · rename_i q; obtain ⟨l, h, e⟩ := loadBy_par h; exact ⟨_, _, h, fun K' => by simp only [evOp, e1, hb, cond_true, q, e]⟩
    · cases h
  | ixs x i =>
    simp only [evOp] at h
    obtain ⟨k, m, h, e1⟩ := asI_par h
    split at h
    · rename_i s q
      obtain ⟨hb, h⟩ := bif_some h
      cases hq : nth s m.toNat with
      | none => simp [hq] at h
      | some e =>
        simp only [hq, Option.bind_some] at h
        exact ⟨_, _, h, fun K' => by simp only [evOp, e1, q, hb, cond_true, hq, Option.bind_some]⟩
    · cases h
  | ext n x =>
    simp only [evOp] at h
    split at h
    · rename_i l q
      cases hq : nth l n with
      | none => simp [hq] at h
      | some e =>
        simp only [hq, Option.bind_some] at h
        exact ⟨_, _, h, fun K' => by simp only [evOp, q, hq, Option.bind_some]⟩
    · rename_i l q
      cases hq : nth l n with
      | none => simp [hq] at h
      | some e =>
        simp only [hq, Option.bind_some] at h
        exact ⟨_, _, h, fun K' => by simp only [evOp, q, hq, Option.bind_some]⟩
    · cases h
  | call md g s args => exact callA_par h
  | callv x s args => exact callV_par h
  | len x =>
    simp only [evOp] at h
    obtain ⟨n, h, e⟩ := lenOf_par h
    exact ⟨_, _, h, fun K' => by simp only [evOp, e]⟩
  | lens x =>
    simp only [evOp] at h
    split at h
    · rename_i q; exact ⟨_, _, h, fun K' => by simp only [evOp, q]⟩
    · cases h
  | cap x =>
    simp only [evOp] at h
    split at h
    · rename_i q; exact ⟨_, _, h, fun K' => by simp only [evOp, q]⟩
    · rename_i q; exact ⟨_, _, h, fun K' => by simp only [evOp, q]⟩
    · rename_i q
      split at h
      · rename_i hq; exact ⟨_, _, h, fun K' => by simp only [evOp, q, hq]⟩
      · cases h
    · cases h
  | mn x y =>
    simp only [evOp] at h
    obtain ⟨k, n, h, e1⟩ := asI_par h
    obtain ⟨k2, m, h, e2⟩ := asI_par h
    exact ⟨_, _, h, fun K' => by simp only [evOp, e1, e2]⟩
  | mx x y =>
    simp only [evOp] at h
    obtain ⟨k, n, h, e1⟩ := asI_par h
    obtain ⟨k2, m, h, e2⟩ := asI_par h
    exact ⟨_, _, h, fun K' => by simp only [evOp, e1, e2]⟩
  | app s bytes x y =>
    simp only [evOp] at h
    obtain ⟨l, h, e⟩ := elsOf_par h
    unfold evOp.appTo at h
    split at h
    · rename_i q; obtain ⟨hb, h⟩ := bif_some h; exact ⟨_, _, h, fun K' => by simp only [evOp, e]; simp only [evOp.appTo, q, hb, cond_true]⟩
    · rename_i q; obtain ⟨hb, h⟩ := bif_some h; exact ⟨_, _, h, fun K' => by simp only [evOp, e]; simp only [evOp.appTo, q, hb, cond_true]⟩
    · rename_i q
      split at h
      · rename_i hq; obtain ⟨hb, h⟩ := bif_some h; exact ⟨_, _, h, fun K' => by simp only [evOp, e]; simp only [evOp.appTo, q, hq, hb, cond_true]⟩
      · rename_i hq; obtain ⟨hb, h⟩ := bif_some h; exact ⟨_, _, h, fun K' => by simp only [evOp, e]; simp only [evOp.appTo, q, hq, hb, cond_true]⟩
      · cases h
    · rename_i q
      split at h
      · rename_i hq; obtain ⟨hb, h⟩ := bif_some h; exact ⟨_, _, h, fun K' => by simp only [evOp, e]; simp only [evOp.appTo, q, hq, hb, cond_true]⟩
      · rename_i hq; obtain ⟨hb, h⟩ := bif_some h; exact ⟨_, _, h, fun K' => by simp only [evOp, e]; simp only [evOp.appTo, q, hq, hb, cond_true]⟩
      · cases h
    · cases h
  | appz s bytes z x n =>
    simp only [evOp] at h
    obtain ⟨l, h, e⟩ := cellsBy_par h
    obtain ⟨k, n, h, e1⟩ := asI_par h
    obtain ⟨hb, h⟩ := bif_some h
    split at h
    · rename_i q; exact ⟨_, _, h, fun K' => by simp only [evOp, e, e1, hb, cond_true, q]⟩
    · cases h
  | copy s x y => simp [evOp] at h
  | clr s z x =>
    simp only [evOp] at h
    obtain ⟨l, h, e⟩ := cellsBy_par h
    obtain ⟨n, h, e1⟩ := lenOf_par h
    cases hn : Nat.beq n 0 with
    | true => rw [hn, cond_true] at h; exact ⟨_, _, h, fun K' => by simp only [evOp, e, e1, hn, cond_true]⟩
    | false =>
      rw [hn, cond_false] at h
      split at h
      · rename_i q
        unfold evOp.clrTo at h
        split at h
        · rename_i hq
          obtain ⟨hb, h⟩ := bif_some h
          unfold evOp.wipe at h
          obtain ⟨hb2, h⟩ := bif_some h
          exact ⟨_, _, h, fun K' => by simp only [evOp, e, e1, hn, cond_false]; simp only [q, evOp.clrTo, hq, hb, cond_true, evOp.wipe, hb2]⟩
        · rename_i hq
          obtain ⟨hb, h⟩ := bif_some h
          unfold evOp.wipe at h
          obtain ⟨hb2, h⟩ := bif_some h
          exact ⟨_, _, h, fun K' => by simp only [evOp, e, e1, hn, cond_false]; simp only [q, evOp.clrTo, hq, hb, cond_true, evOp.wipe, hb2]⟩
        · cases h
      · rename_i q
        unfold evOp.clrTo at h
        split at h
        · rename_i hq
          obtain ⟨hb, h⟩ := bif_some h
          unfold evOp.wipe at h
          obtain ⟨hb2, h⟩ := bif_some h
          exact ⟨_, _, h, fun K' => by simp only [evOp, e, e1, hn, cond_false]; simp only [q, evOp.clrTo, hq, hb, cond_true, evOp.wipe, hb2]⟩
        · rename_i hq
          obtain ⟨hb, h⟩ := bif_some h
          unfold evOp.wipe at h
          obtain ⟨hb2, h⟩ := bif_some h
          exact ⟨_, _, h, fun K' => by simp only [evOp, e, e1, hn, cond_false]; simp only [q, evOp.clrTo, hq, hb, cond_true, evOp.wipe, hb2]⟩
        · cases h
      · cases h
  | clone s bytes x =>
    simp only [evOp] at h
    obtain ⟨l, h, e⟩ := elsOf_par h
    obtain ⟨hb, h⟩ := bif_some h
    exact ⟨_, _, h, fun K' => by simp only [evOp, e, hb, cond_true]⟩
  | carry sub x y z =>
    simp only [evOp] at h
    obtain ⟨k1, n1, h, e1⟩ := asI_par h
    obtain ⟨k2, n2, h, e2⟩ := asI_par h
    obtain ⟨k3, n3, h, e3⟩ := asI_par h
    obtain ⟨hb, h⟩ := bif_some h
    cases sub with
    | true => exact ⟨_, _, h, fun K' => by simp only [evOp, e1, e2, e3, hb, cond_true]⟩
    | false => exact ⟨_, _, h, fun K' => by simp only [evOp, e1, e2, e3, hb, cond_true]⟩
  | wnew s z =>
    simp only [evOp] at h
    obtain ⟨cs, h, e⟩ := cellsBy_par h
    split at h
    · rename_i xs hxs
      obtain ⟨G, h, e2⟩ := withW_par h
      obtain ⟨hb, h⟩ := bif_some h
      exact ⟨_, _, h, fun K' => by simp only [evOp, e, hxs, e2, hb, cond_true]⟩
    · cases h
  | wbox s x =>
    simp only [evOp] at h
    obtain ⟨cs, h, e⟩ := cellsBy_par h
    obtain ⟨xs, wr, h, e1⟩ := treesOf_par h
    obtain ⟨G, h, e2⟩ := withW_par h
    obtain ⟨hb, h⟩ := bif_some h
    exact ⟨_, _, h, fun K' => by simp only [evOp, e, e1, e2, hb, cond_true]⟩
  | extf n x =>
    simp only [evOp] at h
    obtain ⟨v, d, h, e⟩ := extfA_par h
    exact ⟨v, d, h, fun K' => by simp only [evOp]; exact e K'⟩
  | mki t x =>
    simp only [evOp] at h
    obtain ⟨xs, wr, h, e1⟩ := treesOf_par h
    exact ⟨_, _, h, fun K' => by simp only [evOp, e1]⟩
  | tas ok t s z x =>
    simp only [evOp] at h
    split at h
    · rename_i t' v q
      cases hb : Nat.beq t' t with
      | true =>
        rw [hb, cond_true] at h
        obtain ⟨hok, h⟩ := bif_some h
        cases ok with
        | true => exact ⟨_, _, h, fun K' => by simp only [evOp, q, hb, hok, cond_true]⟩
        | false => exact ⟨_, _, h, fun K' => by simp only [evOp, q, hb, hok, cond_true]⟩
      | false =>
        rw [hb, cond_false] at h
        split at h
        · rename_i z' hz
          exact ⟨_, _, h, fun K' => by simp only [evOp, q, hb, hz, cond_false]⟩
        · cases h
    · rename_i q
      split at h
      · rename_i z' hz
        exact ⟨_, _, h, fun K' => by simp only [evOp, q, hz]⟩
      · cases h
    · cases h
  | callg k s mask g args =>
    simp only [evOp] at h
    obtain ⟨v, d, h, e⟩ := callG_par h
    exact ⟨v, d, h, fun K' => by simp only [evOp]; exact e K'⟩
  | callm mask g args =>
    simp only [evOp] at h
    obtain ⟨v, d, h, e⟩ := callM_par h
    exact ⟨v, d, h, fun K' => by simp only [evOp]; exact e K'⟩
  | wmk =>
    simp only [evOp] at h
    obtain ⟨G, h, e2⟩ := withW_par h
    exact ⟨_, _, h, fun K' => by simp only [evOp, e2]⟩
  | wget q ok s z x k =>
    simp only [evOp] at h
    split at h
    · rename_i i zt he hz
      obtain ⟨xs, wr, h, e⟩ := treesOf_par h
      obtain ⟨hk, h⟩ := bif_some h
      obtain ⟨G, h, e2⟩ := withW_par h
      obtain ⟨y, h, e3⟩ := bind_par h
      cases ok with
      | true =>
        simp only at h
        cases hy : y.1 with
        | true =>
          rw [hy, cond_true] at h
          obtain ⟨hb, h⟩ := bif_some h
          exact ⟨_, _, h, fun K' => by simp only [evOp, he, hz, e, hk, cond_true, e2, e3, Option.bind_some, hy, hb]⟩
        | false =>
          rw [hy, cond_false] at h
          exact ⟨_, _, h, fun K' => by simp only [evOp, he, hz, e, hk, cond_true, e2, e3, Option.bind_some, hy, cond_false]⟩
      | false =>
        simp only at h
        obtain ⟨hb, h⟩ := bif_some h
        exact ⟨_, _, h, fun K' => by simp only [evOp, he, hz, e, hk, cond_true, e2, e3, Option.bind_some, hb]⟩
    · cases h
  | wput q x k v =>
    simp only [evOp] at h
    split at h
    · rename_i i he
      obtain ⟨xs, wr, h, e⟩ := treesOf_par h
      obtain ⟨hk, h⟩ := bif_some h
      obtain ⟨G, h, e2⟩ := withW_par h
      obtain ⟨y, h, e3⟩ := bind_par h
      exact ⟨_, _, h, fun K' => by simp only [evOp, he, e, hk, cond_true, e2, e3, Option.bind_some]⟩
    · cases h
  | wlen x =>
    simp only [evOp] at h
    split at h
    · rename_i i he
      obtain ⟨G, h, e2⟩ := withW_par h
      obtain ⟨y, h, e3⟩ := bind_par h
      exact ⟨_, _, h, fun K' => by simp only [evOp, he, e2, e3, Option.bind_some]⟩
    · cases h
  | callw g s args =>
    simp only [evOp] at h
    obtain ⟨v, d, h, e⟩ := callW_par h
    exact ⟨v, d, h, fun K' => by simp only [evOp]; exact e K'⟩
  | callvw x s args =>
    simp only [evOp] at h
    unfold callVW at h
    split at h
    · rename_i g p q hx
      obtain ⟨v, d, h, e⟩ := callW_par h
      exact ⟨v, d, h, fun K' => by simp only [evOp, hx, callVW]; exact e K'⟩
    · rename_i g p q hx
      obtain ⟨v, d, h, e⟩ := callW_par h
      exact ⟨v, d, h, fun K' => by simp only [evOp, hx, callVW]; exact e K'⟩
    · cases h
  | pan x => simp [evOp] at h
  | fail => simp [evOp] at h

end Go.Proofs.Dw
end

/-
  THE ABSTRACT WALK, 26: what an operation does not look at says nothing.
-/
section
namespace Go.Proofs.Dw

section
variable {ts ts' : List AV} {rd rd' : Rd}

theorem ev_congr {x : Opd} (h : ∀ t, t ∈ x.sl → slot ts' t = slot ts t) : ev ts' x = ev ts x := by
  cases x with
  | s t => exact h t (by simp [Opd.sl])
  | c v => rfl
  | f g => rfl

theorem evs_congr : ∀ {l : List Opd}, (∀ t, t ∈ slsL l → slot ts' t = slot ts t) → evs ts' l = evs ts l
  | [], _ => rfl
  | x :: l, h => by
    simp only [evs]
    rw [ev_congr (fun t ht => h t (by simp [slsL, ht])), evs_congr (l := l) (fun t ht => h t (by simp [slsL, ht]))]

theorem optI_congr {α : Type} {o : Option Opd} (h : ∀ t, t ∈ slO o → slot ts' t = slot ts t) (d : Int) (K : Int → Option α) : optI ts' o d K = optI ts o d K := by
  cases o with
  | none => rfl
  | some x => simp only [optI]; rw [ev_congr (x := x) h]

theorem fills_congr {α : Type} : ∀ {ps : List (Nat × Sh × Opd)} {cs : List AV} {K : List AV → Option α}, (∀ t, t ∈ slParts ps → slot ts' t = slot ts t) → fills ts' cs ps K = fills ts cs ps K
  | [], _, _, _ => rfl
  | (off, s, x) :: ps, cs, K, h => by
    simp only [fills]
    rw [ev_congr (x := x) (fun t ht => h t (by simp [slParts, ht]))]
    congr 1
    funext new
    rw [fills_congr (ps := ps) (fun t ht => h t (by simp [slParts, ht]))]

theorem elemFills_congr {α : Type} {s : Sh} : ∀ {ps : List (Nat × Opd)} {cs : List AV} {K : List AV → Option α}, (∀ t, t ∈ slElems ps → slot ts' t = slot ts t) → elemFills ts' s cs ps K = elemFills ts s cs ps K
  | [], _, _, _ => rfl
  | (i, x) :: ps, cs, K, h => by
    simp only [elemFills]
    rw [ev_congr (x := x) (fun t ht => h t (by simp [slElems, ht]))]
    congr 1
    funext new
    rw [elemFills_congr (ps := ps) (fun t ht => h t (by simp [slElems, ht]))]

theorem elsOf_congr {α : Type} {s : Sh} {v : AV} (h : ∀ b, b ∈ avB v → rd' b = rd b) (K : Els → Option α) : elsOf s rd' v K = elsOf s rd v K := by
  cases v with
  | hsl b k => simp only [elsOf]; rw [h b (by simp [avB])]
  | hsub b o l => simp only [elsOf]; rw [h b (by simp [avB])]
  | t x => cases x <;> rfl
  | _ => rfl

theorem lenOf_congr {α : Type} {v : AV} (h : ∀ b, b ∈ avB v → rd' b = rd b) (K : Nat → Option α) : lenOf rd' v K = lenOf rd v K := by
  cases v with
  | hsl b k => simp only [lenOf]; rw [h b (by simp [avB])]
  | hsub b o l => simp only [lenOf]; rw [h b (by simp [avB])]
  | t x => cases x <;> rfl
  | _ => rfl

theorem discover_congr : ∀ {n : Nat} {l seen : List Nat}, (∀ b, b ∈ discover rd n l seen → rd' b = rd b) → discover rd' n l seen = discover rd n l seen
  | 0, l, seen, _ => rfl
  | n + 1, [], seen, _ => rfl
  | n + 1, b :: r, seen, h => by
    simp only [discover] at h ⊢
    cases hm : memN seen b with
    | true => simp only [hm, cond_true] at h ⊢; exact discover_congr h
    | false =>
      simp only [hm, cond_false] at h ⊢
      have hb : rd' b = rd b := by
        apply h
        split
        · obtain ⟨t, ht⟩ := discover_prefix rd n (AV.refsL _ ++ r) (seen ++ [b]); rw [ht]; simp
        · obtain ⟨t, ht⟩ := discover_prefix rd n r (seen ++ [b]); rw [ht]; simp
      rw [hb]
      cases hq : rd b with
      | mix s es => simp only [hq] at h ⊢; exact discover_congr h
      | tre s es => simp only [hq] at h ⊢; exact discover_congr h
      | froz s es => simp only [hq] at h ⊢; exact discover_congr h
      | unborn => simp only [hq] at h ⊢; exact discover_congr h
      | dead => simp only [hq] at h ⊢; exact discover_congr h
      | wld G => simp only [hq] at h ⊢; exact discover_congr h

theorem mapO_congr {β γ : Type} {f g : β → Option γ} : ∀ {l : List β}, (∀ x, x ∈ l → f x = g x) → mapO f l = mapO g l
  | [], _ => rfl
  | x :: l, h => by
    simp only [mapO]
    rw [h x (by simp), mapO_congr (l := l) fun y hy => h y (by simp [hy])]

theorem toTree_congr {ok : Nat → Bool} (h : ∀ b, ok b = true → rd' b = rd b) : ∀ (n : Nat) (v : AV), toTree ok rd' n v = toTree ok rd n v
  | 0, v => rfl
  | n + 1, v => by
    have ih : toTree ok rd' n = toTree ok rd n := funext (toTree_congr h n)
    cases v with
    | href b i j =>
      simp only [toTree]
      cases hb : ok b with
      | false => rfl
      | true => rw [h b hb, ih]
    | hsl b k =>
      simp only [toTree]
      cases hb : ok b with
      | false => rfl
      | true => rw [h b hb, ih]
    | hsub b o l =>
      simp only [toTree]
      cases hb : ok b with
      | false => rfl
      | true => rw [h b hb, ih]
    | agg cs => simp only [toTree, ih]
    | fn f a c => simp only [toTree, ih]
    | tup l => simp only [toTree, ih]
    | _ => rfl

theorem freezes_congr {ok : Nat → Bool} (h : ∀ b, ok b = true → rd' b = rd b) : ∀ {l : List Nat}, (∀ b, b ∈ l → rd' b = rd b) → freezes ok rd' l = freezes ok rd l
  | [], _ => rfl
  | b :: l, hl => by
    simp only [freezes]
    rw [freezes_congr h (l := l) fun b hb => hl b (by simp [hb]), hl b (by simp), show toTree ok rd' depth = toTree ok rd depth from funext (toTree_congr h depth)]

theorem objs_congr {ρ : Nat → Option Nat} : ∀ {l : List Nat}, (∀ b, b ∈ l → rd' b = rd b) → objs rd' ρ l = objs rd ρ l
  | [], _ => rfl
  | b :: l, h => by
    simp only [objs]
    rw [h b (by simp), objs_congr (l := l) fun b hb => h b (by simp [hb])]

def inF (f : List Nat × List Nat) (b : Nat) : Prop := b ∈ f.1 ∨ b ∈ f.2

theorem noWldL_congr : ∀ {l : List Nat}, (∀ b, b ∈ l → rd' b = rd b) → noWldL rd' l = noWldL rd l
  | [], _ => rfl
  | b :: l, h => by
    simp only [noWldL]
    rw [h b (by simp), noWldL_congr (l := l) fun b hb => h b (by simp [hb])]

theorem withW_congr {α : Type} (h : rd' 0 = rd 0) (K : World' → Option α) : withW rd' K = withW rd K := by
  unfold withW; rw [h]

theorem treesOf_congr {α : Type} {args : List AV} (hd : ∀ b, b ∈ treesFoot args rd → rd' b = rd b) : (∀ K : List Tree → List (Nat × HObj) → Option α, treesOf args rd' K = treesOf args rd K) ∧ treesFoot args rd' = treesFoot args rd := by
  unfold treesFoot at hd ⊢
  have e := discover_congr hd
  refine ⟨fun K => ?_, e⟩
  unfold treesOf
  split
  · rfl
  · rw [e]
    have hok : ∀ b, memN (discover rd 4096 (AV.refsL args) []) b = true → rd' b = rd b := fun b hb => hd b ((memN_iff _ _).1 hb)
    rw [freezes_congr hok hd, show toTree (memN (discover rd 4096 (AV.refsL args) [])) rd' depth = toTree (memN (discover rd 4096 (AV.refsL args) [])) rd depth from funext (toTree_congr hok depth)]

theorem callW_congr {F : Fns} {g : Nat} {s : Sh} {args : List AV} {α : Type} (h : ∀ b, inF (([], 0 :: treesFoot args rd) : List Nat × List Nat) b → rd' b = rd b) :
    (∀ K : AV → Delta → Option α, callW F g s args rd' K = callW F g s args rd K) ∧ treesFoot args rd' = treesFoot args rd := by
  have hd : ∀ b, b ∈ treesFoot args rd → rd' b = rd b := fun b hb => h b (.inr (by simp [hb]))
  have h0 : rd' 0 = rd 0 := h 0 (.inr (by simp))
  obtain ⟨e1, e2⟩ := treesOf_congr (α := α) hd
  refine ⟨fun K => ?_, e2⟩
  unfold callW
  rw [e1]
  congr 1
  funext xs wr
  exact withW_congr h0 _

theorem treesOf_bind {α : Type} {args : List AV} {rd : Rd} (K : List Tree → List (Nat × HObj) → Option α) : treesOf args rd K = (treesOf args rd fun xs wr => some (xs, wr)).bind fun p => K p.1 p.2 := by
  unfold treesOf
  split
  · rfl
  · split
    · rfl
    · split
      · rfl
      · rfl

theorem wrF_over : ∀ (wr : List (Nat × HObj)) (rd rd' : Rd) (b : Nat), rd' b = rd b → wrF rd' wr b = wrF rd wr b := fun wr rd rd' b h => by
  rw [wrF_eq, wrF_eq]
  revert rd rd'
  induction wr with
  | nil => intro rd rd' h; exact h
  | cons p wr ih =>
    intro rd rd' h
    obtain ⟨x, o⟩ := p
    simp only [wrR]
    exact ih _ _ (by unfold upd; split <;> first | rfl | exact h)

theorem cellsBy_is {β : Type} {s : Sh} {x : AV} {K : List AV → Option β} : cellsBy s x K = bif (cellsBy s x fun _ => some ()).isSome then K x.cells else none := by
  cases hq : cellsBy s x (fun _ => some ()) with
  | none =>
    simp only [Option.isSome_none, cond_false]
    cases hk : cellsBy s x K with
    | none => rfl
    | some r =>
      obtain ⟨l, _, e⟩ := cellsBy_par hk
      rw [e] at hq; cases hq
  | some u =>
    simp only [Option.isSome_some, cond_true]
    unfold cellsBy at hq ⊢
    split at hq
    · split at hq
      · obtain ⟨hb, _⟩ := bif_some hq; simp only [hb, cond_true]; rfl
      · obtain ⟨hb, _⟩ := bif_some hq; simp only [hb, cond_true]; rfl
      · cases hq
    · rename_i hn
      have hb : x.isSc = true := by
        cases hs : x.isSc with
        | true => rfl
        | false => exfalso; rw [hs] at hq; cases hq
      rw [AV.cells_sc hb]
      cases s <;> first | exact absurd rfl (hn _) | (simp only [hb, cond_true])

theorem callM_congr {F : Fns} {mask : List Bool} {g c : Nat} {args : List AV} {α : Type} (h : ∀ b, b ∈ treesFoot (pickM mask args) rd ++ callMFoot mask args rd → rd' b = rd b) :
    (∀ K : AV → Delta → Option α, callM F mask g args rd' c K = callM F mask g args rd c K) ∧ treesFoot (pickM mask args) rd' ++ callMFoot mask args rd' = treesFoot (pickM mask args) rd ++ callMFoot mask args rd := by
  have hd : ∀ b, b ∈ treesFoot (pickM mask args) rd → rd' b = rd b := fun b hb => h b (by simp [hb])
  obtain ⟨e1, e2⟩ := treesOf_congr (α := List Tree × List (Nat × HObj)) hd
  have e1 := e1 fun xs wr => some (xs, wr)
  have hc : ∀ b, b ∈ callMFoot mask args rd → rd' b = rd b := fun b hb => h b (by simp [hb])
  unfold callMFoot at hc ⊢
  rw [treesOf_bind] at hc
  rw [e2, treesOf_bind (rd := rd'), treesOf_bind (rd := rd), e1]
  unfold callM
  cases hq : treesOf (pickM mask args) rd fun xs wr => some (xs, wr) with
  | none =>
    refine ⟨fun K => ?_, by simp⟩
    rw [treesOf_bind, treesOf_bind (rd := rd), e1, hq]; rfl
  | some p =>
    obtain ⟨xs, wr⟩ := p
    simp only [hq, Option.bind_some] at hc ⊢
    have hd2 : ∀ b, b ∈ discover (wrF rd wr) 4096 (AV.refsL (putM mask args xs)) [] → wrF rd' wr b = wrF rd wr b := fun b hb => wrF_over wr rd rd' b (hc b hb)
    have e3 := discover_congr hd2
    refine ⟨fun K => ?_, by rw [e3]⟩
    rw [treesOf_bind, treesOf_bind (rd := rd), e1, hq]
    simp only [Option.bind_some]
    rw [e3]
    unfold callR
    rw [objs_congr hd2, noWldL_congr hd2]
    rfl

theorem callG_congr {F : Fns} {k : GK} {s : Sh} {mask : List Bool} {g c : Nat} {args : List AV} {α : Type} (h : ∀ b, b ∈ treesFoot (pickM mask args) rd ++ callMFoot mask args rd → rd' b = rd b) :
    (∀ K : AV → Delta → Option α, callG F k s mask g args rd' c K = callG F k s mask g args rd c K) ∧ treesFoot (pickM mask args) rd' ++ callMFoot mask args rd' = treesFoot (pickM mask args) rd ++ callMFoot mask args rd := by
  refine ⟨?_, (callM_congr (α := α) (F := F) (g := g) (c := c) h).2⟩
  have hd : ∀ b, b ∈ treesFoot (pickM mask args) rd → rd' b = rd b := fun b hb => h b (by simp [hb])
  obtain ⟨e1, _⟩ := treesOf_congr (α := List Tree × List (Nat × HObj)) hd
  have e1 := e1 fun xs wr => some (xs, wr)
  have hc : ∀ b, b ∈ callMFoot mask args rd → rd' b = rd b := fun b hb => h b (by simp [hb])
  unfold callMFoot at hc
  rw [treesOf_bind] at hc
  unfold callG
  cases hq : treesOf (pickM mask args) rd fun xs wr => some (xs, wr) with
  | none =>
    intro K
    rw [treesOf_bind, treesOf_bind (rd := rd), e1, hq]; rfl
  | some p =>
    obtain ⟨xs, wr⟩ := p
    simp only [hq, Option.bind_some] at hc
    have hd2 : ∀ b, b ∈ discover (wrF rd wr) 4096 (AV.refsL (putM mask args xs)) [] → wrF rd' wr b = wrF rd wr b := fun b hb => wrF_over wr rd rd' b (hc b hb)
    have e3 := discover_congr hd2
    intro K
    rw [treesOf_bind, treesOf_bind (rd := rd), e1, hq]
    simp only [Option.bind_some]
    rw [e3]
    unfold callGR
    rw [objs_congr hd2, noWldL_congr hd2]
    rfl

theorem extf_congr {n : Nat} {v : AV} {α : Type} (hb : ∀ b, b ∈ extfFoot n v rd → rd' b = rd b) :
    (∀ K : AV → Delta → Option α, extfA n v rd' K = extfA n v rd K) ∧ extfFoot n v rd' = extfFoot n v rd := by
  cases v with
  | tup l =>
    simp only [extfA, extfFoot] at hb ⊢
    cases hn : nth l n with
    | none => simp
    | some y =>
      simp only [hn] at hb
      obtain ⟨k1, k2⟩ := treesOf_congr (α := α) (rd := rd) (rd' := rd') (args := [y]) hb
      refine ⟨fun K => ?_, k2⟩
      simp only [Option.bind_some]
      rw [k1]
  | t x => cases x <;> exact ⟨fun K => rfl, rfl⟩
  | _ => exact ⟨fun K => rfl, rfl⟩

theorem argsFoot_congr {md : Bool} {s : Sh} {args : List AV} (h : ∀ b, inF (argsFoot md s args rd) b → rd' b = rd b) : argsFoot md s args rd' = argsFoot md s args rd := by
  unfold argsFoot at h ⊢
  cases md with
  | true => simp only at h ⊢; rw [discover_congr fun b hb => h b (.inr hb)]
  | false =>
    simp only at h ⊢
    split at h
    · rfl
    · cases hf : s.flat with
      | true => simp only [hf, cond_true] at h ⊢; rw [discover_congr fun b hb => h b (.inl hb)]
      | false => simp only [hf, cond_false] at h ⊢; rw [discover_congr fun b hb => h b (.inr hb)]

theorem callA_congr {F : Fns} {md : Bool} {g : Nat} {s : Sh} {args : List AV} {c : Nat} {α : Type} (h : ∀ b, inF (argsFoot md s args rd) b → rd' b = rd b) (K : AV → Delta → Option α) : callA F md g s args rd' c K = callA F md g s args rd c K := by
  unfold argsFoot at h
  unfold callA
  cases md with
  | true =>
    simp only at h ⊢
    have hd : ∀ b, b ∈ discover rd 4096 (AV.refsL args) [] → rd' b = rd b := fun b hb => h b (.inr hb)
    split
    · rfl
    · rfl
    · rw [discover_congr hd]
      unfold callR
      rw [objs_congr hd, noWldL_congr hd]
      rfl
  | false =>
    simp only at h ⊢
    split
    · rfl
    · rename_i hn
      rw [hn] at h
      have hd : ∀ b, b ∈ discover rd 4096 (AV.refsL args) [] → rd' b = rd b := fun b hb => by
        cases hf : s.flat with
        | true => exact h b (.inl (by simp only [hf, cond_true]; exact hb))
        | false => exact h b (.inr (by simp only [hf, cond_false]; exact hb))
      rw [discover_congr hd]
      have hok : ∀ b, memN (discover rd 4096 (AV.refsL args) []) b = true → rd' b = rd b := fun b hb => hd b ((memN_iff _ _).1 hb)
      rw [freezes_congr hok hd, show toTree (memN (discover rd 4096 (AV.refsL args) [])) rd' depth = toTree (memN (discover rd 4096 (AV.refsL args) [])) rd depth from funext (toTree_congr hok depth)]

theorem evOp_congr {F : Fns} {p : IOp} {c : Nat} {α : Type} (hs : ∀ t, t ∈ p.slots → slot ts' t = slot ts t) (hb : ∀ b, inF (foot p ts rd) b → rd' b = rd b) :
    (∀ K : AV → Delta → Option α, evOp F p ts' rd' c K = evOp F p ts rd c K) ∧ foot p ts' rd' = foot p ts rd := by
  cases p with
  | mov x => exact ⟨fun K => by simp only [evOp, ev_congr (x := x) hs], rfl⟩
  | nonnil x => exact ⟨fun K => by simp only [evOp, ev_congr (x := x) hs], rfl⟩
  | pick x a b =>
    have e1 := ev_congr (x := x) fun t ht => hs t (by simp [IOp.slots, ht])
    have e2 := ev_congr (x := a) fun t ht => hs t (by simp [IOp.slots, ht])
    have e3 := ev_congr (x := b) fun t ht => hs t (by simp [IOp.slots, ht])
    exact ⟨fun K => by simp only [evOp, e1, e2, e3], rfl⟩
  | new s z => exact ⟨fun K => rfl, rfl⟩
  | box s x => exact ⟨fun K => by simp only [evOp, ev_congr (x := x) hs], rfl⟩
  | build z ps => exact ⟨fun K => by simp only [evOp]; exact fills_congr hs, rfl⟩
  | bsl s z n ps => exact ⟨fun K => by simp only [evOp]; congr 1; funext _; exact elemFills_congr hs, rfl⟩
  | ld s x =>
    have e := ev_congr (x := x) hs
    simp only [foot, evOp, e] at hb ⊢
    refine ⟨fun K => ?_, trivial⟩
    split
    · rename_i b i j hq; rw [hb b (.inl (by simp [avB, hq]))]
    · rfl
    · rename_i i j hq; exact withW_congr (hb 0 (.inl (by simp [avB, hq]))) _
    · rfl
  | st s x v =>
    have e := ev_congr (x := x) fun t ht => hs t (by simp [IOp.slots, ht])
    have e2 := ev_congr (x := v) fun t ht => hs t (by simp [IOp.slots, ht])
    simp only [foot, evOp, e, e2] at hb ⊢
    generalize ev ts x = u at hb ⊢
    cases u with
    | t x =>
      cases x with
      | wp i j =>
        simp only at hb ⊢
        obtain ⟨k1, k2⟩ := treesOf_congr (α := α) (rd := rd) (rd' := rd') (args := [ev ts v]) fun b hb' => hb b (.inr (by simp [hb']))
        refine ⟨fun K => ?_, by rw [k2]⟩
        rw [k1]
        congr 1
        funext xs wr
        exact withW_congr (hb 0 (.inr (by simp))) _
      | _ => exact ⟨fun K => rfl, rfl⟩
    | href b i j => exact ⟨fun K => by simp only; rw [hb b (.inr (by simp [avB]))], rfl⟩
    | _ => exact ⟨fun K => rfl, rfl⟩
  | bin o x y =>
    have e := ev_congr (x := x) fun t ht => hs t (by simp [IOp.slots, ht])
    have e2 := ev_congr (x := y) fun t ht => hs t (by simp [IOp.slots, ht])
    exact ⟨fun K => by simp only [evOp, e, e2], rfl⟩
  | eqs neq q x y =>
    have e := ev_congr (x := x) fun t ht => hs t (by simp [IOp.slots, ht])
    have e2 := ev_congr (x := y) fun t ht => hs t (by simp [IOp.slots, ht])
    exact ⟨fun K => by simp only [evOp, e, e2], rfl⟩
  | un o x => exact ⟨fun K => by simp only [evOp, ev_congr (x := x) hs], rfl⟩
  | conv k x => exact ⟨fun K => by simp only [evOp, ev_congr (x := x) hs], rfl⟩
  | mkf g a b =>
    have e := evs_congr (l := a) fun t ht => hs t (by simp [IOp.slots, ht])
    have e2 := evs_congr (l := b) fun t ht => hs t (by simp [IOp.slots, ht])
    exact ⟨fun K => by simp only [evOp, e, e2], rfl⟩
  | mks s bytes z l m =>
    have e := ev_congr (x := l) fun t ht => hs t (by simp [IOp.slots, ht])
    have e2 := ev_congr (x := m) fun t ht => hs t (by simp [IOp.slots, ht])
    exact ⟨fun K => by simp only [evOp, e, e2], rfl⟩
  | sub s x lo hi mx =>
    have e := ev_congr (x := x) fun t ht => hs t (by simp [IOp.slots, ht])
    have e1 := fun d (K : Int → Option α) => optI_congr (o := lo) (fun t ht => hs t (by simp [IOp.slots, ht])) d K
    have e2 := fun d (K : Int → Option α) => optI_congr (o := hi) (fun t ht => hs t (by simp [IOp.slots, ht])) d K
    simp only [foot, e] at hb ⊢
    have hl := fun (K : Nat → Option α) => lenOf_congr (v := ev ts x) (fun b h => hb b (.inl h)) K
    refine ⟨fun K => ?_, trivial⟩
    cases mx with
    | none =>
      simp only [evOp, e, e1, e2, hl]
      generalize ev ts x = v at hb ⊢
      cases v with
      | hsl b k => have hbb := hb b (.inl (by simp [avB])); simp only [hbb]
      | hsub b o l => have hbb := hb b (.inl (by simp [avB])); simp only [hbb]
      | t x => cases x <;> rfl
      | _ => rfl
    | some m =>
      have e3 := ev_congr (x := m) fun t ht => hs t (by simp [IOp.slots, slO, ht])
      simp only [evOp, e, e1, e2, e3, hl]
  | subs x lo hi =>
    have e := ev_congr (x := x) fun t ht => hs t (by simp [IOp.slots, ht])
    have e1 := fun d (K : Int → Option α) => optI_congr (o := lo) (fun t ht => hs t (by simp [IOp.slots, ht])) d K
    have e2 := fun d (K : Int → Option α) => optI_congr (o := hi) (fun t ht => hs t (by simp [IOp.slots, ht])) d K
    exact ⟨fun K => by simp only [evOp, e, e1, e2], rfl⟩
  | fa off x => exact ⟨fun K => by simp only [evOp, ev_congr (x := x) hs], rfl⟩
  | fld off s x => exact ⟨fun K => by simp only [evOp, ev_congr (x := x) hs], rfl⟩
  | ia s x i =>
    have e := ev_congr (x := x) fun t ht => hs t (by simp [IOp.slots, ht])
    have e2 := ev_congr (x := i) fun t ht => hs t (by simp [IOp.slots, ht])
    simp only [foot, e] at hb ⊢
    refine ⟨fun K => ?_, trivial⟩
    simp only [evOp, e, e2]
    generalize ev ts x = v at hb ⊢
    cases v with
    | hsl b k => have hbb := hb b (.inl (by simp [avB])); simp only [hbb]
    | hsub b o l => have hbb := hb b (.inl (by simp [avB])); simp only [hbb]
    | t x => cases x <;> rfl
    | _ => rfl
  | iaa s n x i =>
    have e := ev_congr (x := x) fun t ht => hs t (by simp [IOp.slots, ht])
    have e2 := ev_congr (x := i) fun t ht => hs t (by simp [IOp.slots, ht])
    exact ⟨fun K => by simp only [evOp, e, e2], rfl⟩
  | ixa s n x i =>
    have e := ev_congr (x := x) fun t ht => hs t (by simp [IOp.slots, ht])
    have e2 := ev_congr (x := i) fun t ht => hs t (by simp [IOp.slots, ht])
    exact ⟨fun K => by simp only [evOp, e, e2], rfl⟩
  | ixs x i =>
    have e := ev_congr (x := x) fun t ht => hs t (by simp [IOp.slots, ht])
    have e2 := ev_congr (x := i) fun t ht => hs t (by simp [IOp.slots, ht])
    exact ⟨fun K => by simp only [evOp, e, e2], rfl⟩
  | ext n x => exact ⟨fun K => by simp only [evOp, ev_congr (x := x) hs], rfl⟩
  | call md g s args =>
    have e := evs_congr (l := args) hs
    simp only [foot, evOp, e] at hb ⊢
    exact ⟨fun K => callA_congr hb K, argsFoot_congr hb⟩
  | callv x s args =>
    have e := ev_congr (x := x) fun t ht => hs t (by simp [IOp.slots, ht])
    have e2 := evs_congr (l := args) fun t ht => hs t (by simp [IOp.slots, ht])
    simp only [foot, evOp, e, e2] at hb ⊢
    unfold callV
    split
    · rename_i y hy
      simp only [hy] at hb ⊢
      cases hq : allT (evs ts args) with
      | some xs => simp only [hq] at hb ⊢; exact ⟨fun K => trivial, trivial⟩
      | none =>
        simp only [hq] at hb ⊢
        cases y with
        | fn g a b => simp only at hb ⊢; exact ⟨fun K => callA_congr hb K, argsFoot_congr hb⟩
        | _ => exact ⟨fun K => rfl, rfl⟩
    · rename_i g a b hy
      simp only [hy] at hb ⊢
      exact ⟨fun K => callA_congr hb K, argsFoot_congr hb⟩
    · exact ⟨fun K => rfl, rfl⟩
  | len x =>
    have e := ev_congr (x := x) hs
    simp only [foot, evOp, e] at hb ⊢
    exact ⟨fun K => lenOf_congr (fun b h => hb b (.inl h)) _, trivial⟩
  | lens x => exact ⟨fun K => by simp only [evOp, ev_congr (x := x) hs], rfl⟩
  | cap x =>
    have e := ev_congr (x := x) hs
    simp only [foot, evOp, e] at hb ⊢
    refine ⟨fun K => ?_, trivial⟩
    generalize ev ts x = v at hb ⊢
    cases v with
    | hsl b k => cases k with
      | none => rfl
      | some k => simp only; rw [hb b (.inl (by simp [avB]))]
    | t x => cases x <;> rfl
    | _ => rfl
  | mn x y =>
    have e := ev_congr (x := x) fun t ht => hs t (by simp [IOp.slots, ht])
    have e2 := ev_congr (x := y) fun t ht => hs t (by simp [IOp.slots, ht])
    exact ⟨fun K => by simp only [evOp, e, e2], rfl⟩
  | mx x y =>
    have e := ev_congr (x := x) fun t ht => hs t (by simp [IOp.slots, ht])
    have e2 := ev_congr (x := y) fun t ht => hs t (by simp [IOp.slots, ht])
    exact ⟨fun K => by simp only [evOp, e, e2], rfl⟩
  | app s bytes x y =>
    have e := ev_congr (x := x) fun t ht => hs t (by simp [IOp.slots, ht])
    have e2 := ev_congr (x := y) fun t ht => hs t (by simp [IOp.slots, ht])
    simp only [foot, evOp, e, e2] at hb ⊢
    refine ⟨fun K => ?_, trivial⟩
    rw [elsOf_congr fun b h => hb b (.inl h)]
    congr 1
    funext new
    generalize ev ts x = v at hb ⊢
    cases v with
    | hsl b k => simp only [evOp.appTo]; rw [hb b (.inr (by simp [avB]))]
    | hsub b o l => cases o with
      | zero => simp only [evOp.appTo]; rw [hb b (.inr (by simp [avB]))]
      | succ o => rfl
    | t x => cases x <;> rfl
    | _ => rfl
  | appz s bytes z x n =>
    have e := ev_congr (x := x) fun t ht => hs t (by simp [IOp.slots, ht])
    have e2 := ev_congr (x := n) fun t ht => hs t (by simp [IOp.slots, ht])
    simp only [foot, evOp, e, e2] at hb ⊢
    exact ⟨fun K => trivial, trivial⟩
  | copy s x y => exact ⟨fun K => rfl, rfl⟩
  | clr s z x =>
    have e := ev_congr (x := x) hs
    simp only [foot, evOp, e] at hb ⊢
    refine ⟨fun K => ?_, trivial⟩
    congr 1
    funext _
    rw [lenOf_congr fun b h => hb b (.inr h)]
    generalize ev ts x = v at hb ⊢
    cases v with
    | hsl b k => simp only [evOp.clrTo]; rw [hb b (.inr (by simp [avB]))]
    | hsub b o l => simp only [evOp.clrTo]; rw [hb b (.inr (by simp [avB]))]
    | t x => cases x <;> rfl
    | _ => rfl
  | clone s bytes x =>
    have e := ev_congr (x := x) hs
    simp only [foot, evOp, e] at hb ⊢
    exact ⟨fun K => elsOf_congr (fun b h => hb b (.inl h)) _, trivial⟩
  | carry sub x y z =>
    have e := ev_congr (x := x) fun t ht => hs t (by simp [IOp.slots, ht])
    have e2 := ev_congr (x := y) fun t ht => hs t (by simp [IOp.slots, ht])
    have e3 := ev_congr (x := z) fun t ht => hs t (by simp [IOp.slots, ht])
    exact ⟨fun K => by simp only [evOp, e, e2, e3], rfl⟩
  | wnew s z =>
    simp only [foot, evOp] at hb ⊢
    refine ⟨fun K => ?_, trivial⟩
    congr 1
    funext cs
    split
    · exact withW_congr (hb 0 (.inr (by simp))) _
    · rfl
  | wbox s x =>
    have e := ev_congr (x := x) hs
    simp only [foot, evOp, e] at hb ⊢
    obtain ⟨k1, k2⟩ := treesOf_congr (α := α) (rd := rd) (rd' := rd') (args := (ev ts x).cells) fun b hb' => hb b (.inr (by simp [hb']))
    refine ⟨fun K => ?_, by rw [k2]⟩
    refine cellsBy_is.trans (Eq.trans ?_ cellsBy_is.symm)
    rw [k1]
    refine congrArg (fun z => bif (cellsBy s (ev ts x) fun _ => some ()).isSome then z else none) ?_
    congr 1
    funext xs wr
    exact withW_congr (hb 0 (.inr (by simp))) _
  | extf n x =>
    have e := ev_congr (x := x) hs
    simp only [foot, evOp, e] at hb ⊢
    obtain ⟨k1, k2⟩ := extf_congr (α := α) (n := n) (v := ev ts x) (rd := rd) (rd' := rd') fun b h => hb b (.inr h)
    exact ⟨k1, by rw [k2]⟩
  | mki t x =>
    have e := ev_congr (x := x) hs
    simp only [foot, evOp, e] at hb ⊢
    obtain ⟨k1, k2⟩ := treesOf_congr (α := α) (rd := rd) (rd' := rd') (args := [ev ts x]) fun b hb' => hb b (.inr hb')
    exact ⟨fun K => k1 _, by rw [k2]⟩
  | tas ok t s z x =>
    have e := ev_congr (x := x) hs
    exact ⟨fun K => by simp only [evOp, e], rfl⟩
  | callg k s mask g args =>
    have e := evs_congr (l := args) hs
    simp only [foot, evOp, e] at hb ⊢
    obtain ⟨k1, k2⟩ := callG_congr (α := α) (F := F) (k := k) (s := s) (g := g) (c := c) fun b hb' => hb b (.inr hb')
    exact ⟨k1, by rw [k2]⟩
  | callm mask g args =>
    have e := evs_congr (l := args) hs
    simp only [foot, evOp, e] at hb ⊢
    obtain ⟨k1, k2⟩ := callM_congr (α := α) (F := F) (g := g) (c := c) fun b hb' => hb b (.inr hb')
    exact ⟨k1, by rw [k2]⟩
  | wmk =>
    simp only [foot, evOp] at hb ⊢
    exact ⟨fun K => withW_congr (hb 0 (.inr (by simp))) _, trivial⟩
  | wget q ok s z x k =>
    have e := ev_congr (x := x) fun t ht => hs t (by simp [IOp.slots, ht])
    have e2 := ev_congr (x := k) fun t ht => hs t (by simp [IOp.slots, ht])
    simp only [foot, evOp, e, e2] at hb ⊢
    obtain ⟨k1, k2⟩ := treesOf_congr (α := α) (rd := rd) (rd' := rd') (args := [ev ts k]) fun b hb' => hb b (.inr hb')
    refine ⟨fun K => ?_, by rw [k2]⟩
    split
    · rw [k1]
      congr 1
      funext ks wr
      congr 1
      exact withW_congr (hb 0 (.inl (by simp))) _
    · rfl
  | wput q x k v =>
    have e := ev_congr (x := x) fun t ht => hs t (by simp [IOp.slots, ht])
    have e2 := ev_congr (x := k) fun t ht => hs t (by simp [IOp.slots, ht])
    have e3 := ev_congr (x := v) fun t ht => hs t (by simp [IOp.slots, ht])
    simp only [foot, evOp, e, e2, e3] at hb ⊢
    obtain ⟨k1, k2⟩ := treesOf_congr (α := α) (rd := rd) (rd' := rd') (args := [ev ts k, ev ts v]) fun b hb' => hb b (.inr (by simp [hb']))
    refine ⟨fun K => ?_, by rw [k2]⟩
    split
    · rw [k1]
      congr 1
      funext ks wr
      congr 1
      exact withW_congr (hb 0 (.inr (by simp))) _
    · rfl
  | wlen x =>
    have e := ev_congr (x := x) hs
    simp only [foot, evOp, e] at hb ⊢
    refine ⟨fun K => ?_, trivial⟩
    split
    · exact withW_congr (hb 0 (.inl (by simp))) _
    · rfl
  | callw g s args =>
    have e := evs_congr (l := args) hs
    simp only [foot, evOp, e] at hb ⊢
    obtain ⟨k1, k2⟩ := callW_congr (F := F) (g := g) (s := s) (α := α) hb
    exact ⟨k1, by rw [k2]⟩
  | callvw x s args =>
    have e := ev_congr (x := x) fun t ht => hs t (by simp [IOp.slots, ht])
    have e2 := evs_congr (l := args) fun t ht => hs t (by simp [IOp.slots, ht])
    simp only [foot, evOp, e, e2] at hb ⊢
    unfold callVW
    split
    · rename_i g p q hx
      simp only [hx] at hb ⊢
      obtain ⟨k1, k2⟩ := callW_congr (F := F) (g := g) (s := s) (α := α) hb
      exact ⟨k1, by rw [k2]⟩
    · rename_i g p q hx
      simp only [hx] at hb ⊢
      obtain ⟨k1, k2⟩ := callW_congr (F := F) (g := g) (s := s) (α := α) hb
      exact ⟨k1, by rw [k2]⟩
    · rename_i h1 h2
      exact ⟨fun K => rfl, rfl⟩
  | pan x => exact ⟨fun K => rfl, rfl⟩
  | fail => exact ⟨fun K => rfl, rfl⟩

end

end Go.Proofs.Dw
end

/-
  THE ABSTRACT WALK, 27: regions that draw their order: operations that do not look at each other may change places.
-/
section
namespace Go.Proofs.Dw

/-! ### one operation, wherever it comes -/
theorem setN_slot : ∀ (ts : List AV) (g : Nat), setN ts g (slot ts g) = ts
  | [], _ => rfl
  | x :: l, 0 => rfl
  | x :: l, g + 1 => by simp only [setN, slot, setN_slot l g]

theorem setB_same {ts : List AV} {g : Nat} {b : Bool} (h : slot ts g = .t (.bool b)) : setB ts g b = ts := by
  unfold setB; rw [← h]; exact setN_slot ts g

/-- Wherever the slots and the blocks that it looks at are the same, it does the same. -/
def Loc (F : Fns) (o : IOper) (c : Nat) (v : AV) (d : Delta) (fp : List Nat × List Nat) (ts : List AV) (rd : Rd) : Prop :=
  ∀ (ts' : List AV) (rd' : Rd), (∀ t, t ∈ o.looks → slot ts' t = slot ts t) → (∀ b, inF fp b → rd' b = rd b) → ∀ {β : Type} (K' : List AV → Delta → List Nat × List Nat → Option β), operV F o ts' rd' c K' = K' (putS ts' o.dst v) d fp

theorem operV_par {F : Fns} {o : IOper} {ts : List AV} {rd : Rd} {c : Nat} {α : Type} {r : α} {K : List AV → Delta → List Nat × List Nat → Option α} (h : operV F o ts rd c K = some r) :
    ∃ v d fp, K (putS ts o.dst v) d fp = some r ∧ Loc F o c v d fp ts rd := by
  have run : ∀ {ts1 : List AV}, ts1 = ts → evOp F o.op ts1 rd c (fun v d => K (putS ts1 o.dst v) d (foot o.op ts1 rd)) = some r → ∃ v d fp, K (putS ts o.dst v) d fp = some r ∧
      ∀ (ts' : List AV) (rd' : Rd), (∀ t, t ∈ o.op.slots → slot ts' t = slot ts t) → (∀ b, inF fp b → rd' b = rd b) → ∀ {β : Type} (K' : List AV → Delta → List Nat × List Nat → Option β),
        evOp F o.op ts' rd' c (fun v d => K' (putS ts' o.dst v) d (foot o.op ts' rd')) = K' (putS ts' o.dst v) d fp := by
    intro ts1 e h0
    rw [e] at h0
    obtain ⟨v, d, h0, e⟩ := evOp_par h0
    refine ⟨v, d, _, h0, fun ts' rd' h1 h2 β K' => ?_⟩
    obtain ⟨k1, k2⟩ := evOp_congr (F := F) (c := c) (α := β) h1 h2
    rw [k1, e, k2]
  unfold operV at h
  cases hg : o.g with
  | none =>
    simp only [hg] at h
    obtain ⟨v, d, fp, h, e⟩ := run rfl h
    refine ⟨v, d, fp, h, fun ts' rd' h1 h2 β K' => ?_⟩
    unfold operV
    simp only [hg]
    exact e ts' rd' (fun t ht => h1 t (by simp [IOper.looks, hg, ht])) h2 K'
  | some q =>
    obtain ⟨g, want⟩ := q
    simp only [hg] at h
    have hl : ∀ {ts' : List AV}, (∀ t, t ∈ o.looks → slot ts' t = slot ts t) → slot ts' g = slot ts g := fun h1 => h1 g (by simp [IOper.looks, hg])
    split at h
    · rename_i b hb
      have hsame := setB_same hb
      have done : b = want → evOp F o.op (setB ts g b) rd c (fun v d => K (putS (setB ts g b) o.dst v) d (foot o.op (setB ts g b) rd)) = some r → ∃ v d fp, K (putS ts o.dst v) d fp = some r ∧ Loc F o c v d fp ts rd := by
        intro hw h
        obtain ⟨v, d, fp, h, e⟩ := run hsame h
        refine ⟨v, d, fp, h, fun ts' rd' h1 h2 β K' => ?_⟩
        have hs' : slot ts' g = .t (.bool b) := (hl h1).trans hb
        have := e ts' rd' (fun t ht => h1 t (by simp [IOper.looks, hg, ht])) h2 K'
        unfold operV
        subst hw
        have e2 := setB_same hs'
        cases b <;> simp only [hg, hs', cond_true, cond_false] <;> rw [e2] <;> exact this
      have pass : b ≠ want → K (putS (setB ts g b) o.dst .undef) .none ([], []) = some r → ∃ v d fp, K (putS ts o.dst v) d fp = some r ∧ Loc F o c v d fp ts rd := by
        intro hw h
        rw [hsame] at h
        refine ⟨_, _, _, h, fun ts' rd' h1 h2 β K' => ?_⟩
        have hs' : slot ts' g = .t (.bool b) := (hl h1).trans hb
        have e2 := setB_same hs'
        unfold operV
        cases b <;> cases want <;> first | exact absurd rfl hw | (simp only [hg, hs', cond_true, cond_false]; rw [e2])
      cases b <;> cases want <;> simp only [cond_true, cond_false] at h
      · exact done rfl h
      · exact pass (by simp) h
      · exact pass (by simp) h
      · exact done rfl h
    · rename_i hb
      refine ⟨_, _, _, h, fun ts' rd' h1 h2 β K' => ?_⟩
      have hs' : slot ts' g = .undef := (hl h1).trans hb
      unfold operV
      simp only [hg, hs']
    · cases h

/-! ### operations one behind the other -/
structure DStep where
  o : Oper
  o' : IOper
  i : Nat
  c : Nat
  v : AV
  d : Delta
  fp : List Nat × List Nat

structure StepOk (F : Fns) (s : DStep) (ts : List AV) (rd : Rd) : Prop where
  loc : Loc F s.o' s.c s.v s.d s.fp ts rd
  fresh : ∀ y, s.c ≤ y → y < s.c + s.d.nw.length → rd y = .unborn
  keys : ∀ b o, (b, o) ∈ s.d.wr → b ∈ s.fp.2

inductive Chain (F : Fns) : List DStep → List AV → Rd → List AV → Rd → Prop where
  | nil (ts : List AV) (rd : Rd) : Chain F [] ts rd ts rd
  | cons (s : DStep) (l : List DStep) (ts : List AV) (rd : Rd) (ts2 : List AV) (rd2 : Rd) (h : StepOk F s ts rd) (t : Chain F l (putS ts s.o'.dst s.v) (appRd rd s.c s.d) ts2 rd2) : Chain F (s :: l) ts rd ts2 rd2

/-- What it writes. -/
def DStep.w (s : DStep) (b : Nat) : Prop := b ∈ s.fp.2 ∨ (s.c ≤ b ∧ b < s.c + s.d.nw.length)

structure Ind (a i : DStep) : Prop where
  d1 : ∀ t, a.o'.dst = some t → t ∉ i.o'.looks
  d2 : ∀ t, i.o'.dst = some t → t ∉ a.o'.looks
  d3 : ∀ t, a.o'.dst = some t → i.o'.dst = some t → False
  w1 : ∀ b, a.w b → ¬ inF i.fp b
  w2 : ∀ b, i.w b → ¬ inF a.fp b
  w3 : ∀ b, a.w b → ¬ i.w b

theorem slot_setN_ne : ∀ (ts : List AV) (d t : Nat) (v : AV), d ≠ t → slot (setN ts d v) t = slot ts t
  | [], _, _, _, _ => rfl
  | x :: l, 0, 0, _, h => absurd rfl h
  | x :: l, 0, t + 1, _, _ => rfl
  | x :: l, d + 1, 0, _, _ => rfl
  | x :: l, d + 1, t + 1, v, h => by simp only [setN, slot]; exact slot_setN_ne l d t v (by omega)

theorem slot_putS {ts : List AV} {d : Option Nat} {v : AV} {t : Nat} (h : d ≠ some t) : slot (putS ts d v) t = slot ts t := by
  cases d with
  | none => rfl
  | some d => exact slot_setN_ne ts d t v (fun e => h (by rw [e]))

theorem setN_comm : ∀ (ts : List AV) (d e : Nat) (u v : AV), d ≠ e → setN (setN ts d u) e v = setN (setN ts e v) d u
  | [], _, _, _, _, _ => rfl
  | x :: l, 0, 0, _, _, h => absurd rfl h
  | x :: l, 0, e + 1, _, _, _ => rfl
  | x :: l, d + 1, 0, _, _, _ => rfl
  | x :: l, d + 1, e + 1, u, v, h => by simp only [setN]; rw [setN_comm l d e u v (by omega)]

theorem appRd_get (rd : Rd) (c : Nat) (d : Delta) (b : Nat) (h1 : ∀ o, (b, o) ∉ d.wr) (h2 : ¬ (c ≤ b ∧ b < c + d.nw.length)) : appRd rd c d b = rd b := by
  unfold appRd
  rw [if_neg h2]
  rcases wrR_get d.wr rd b with ⟨h, _⟩ | ⟨o, h, _⟩
  · exact h
  · exact absurd h (h1 o)

/-- What an operation leaves alone. -/
theorem StepOk.same {F : Fns} {s : DStep} {ts : List AV} {rd rd1 : Rd} (h : StepOk F s ts rd) {b : Nat} (hb : ¬ s.w b) : appRd rd1 s.c s.d b = rd1 b :=
  appRd_get rd1 s.c s.d b (fun o ho => hb (.inl (h.keys b o ho))) (fun hr => hb (.inr hr))

/-- What an operation leaves where it writes does not hang on what was there. -/
theorem wrR_over : ∀ (wr : List (Nat × HObj)) (rd rd1 : Rd) (b : Nat), rd1 b = rd b → wrR rd1 wr b = wrR rd wr b
  | [], _, _, _, h => h
  | (x, o) :: r, rd, rd1, b, h => by
    simp only [wrR]
    apply wrR_over
    simp only [upd]
    split
    · rfl
    · exact h

theorem wrR_mem : ∀ (wr : List (Nat × HObj)) (rd rd1 : Rd) (b : Nat), (∃ o, (b, o) ∈ wr) → wrR rd1 wr b = wrR rd wr b
  | [], _, _, _, ⟨o, h⟩ => by simp at h
  | (x, o) :: r, rd, rd1, b, ⟨o', h⟩ => by
    simp only [wrR]
    by_cases hx : b = x
    · subst hx; exact wrR_over r _ _ b (by simp [upd])
    · exact wrR_mem r _ _ b (by
        rcases List.mem_cons.1 h with h | h
        · cases h; exact absurd rfl hx
        · exact ⟨o', h⟩)

theorem appRd_over (rd rd1 : Rd) (c : Nat) (d : Delta) (b : Nat) (h : rd1 b = rd b) : appRd rd1 c d b = appRd rd c d b := by
  unfold appRd
  split
  · rfl
  · exact wrR_over d.wr rd rd1 b h

theorem swap {F : Fns} {a i : DStep} {ts : List AV} {rd : Rd} (ha : StepOk F a ts rd) (hi : StepOk F i (putS ts a.o'.dst a.v) (appRd rd a.c a.d)) (hin : Ind a i) :
    StepOk F i ts rd ∧ StepOk F a (putS ts i.o'.dst i.v) (appRd rd i.c i.d) ∧ putS (putS ts a.o'.dst a.v) i.o'.dst i.v = putS (putS ts i.o'.dst i.v) a.o'.dst a.v ∧
      appRd (appRd rd a.c a.d) i.c i.d = appRd (appRd rd i.c i.d) a.c a.d := by
  have sl : ∀ t, t ∈ i.o'.looks → slot (putS ts a.o'.dst a.v) t = slot ts t := fun t ht => slot_putS fun e => hin.d1 t e ht
  have sl2 : ∀ t, t ∈ a.o'.looks → slot (putS ts i.o'.dst i.v) t = slot ts t := fun t ht => slot_putS fun e => hin.d2 t e ht
  refine ⟨⟨fun ts' rd' h1 h2 => hi.loc ts' rd' (fun t ht => (h1 t ht).trans (sl t ht).symm) (fun b hb => (h2 b hb).trans (ha.same (fun hw => hin.w1 b hw hb)).symm), fun y h1 h2 => ?_, hi.keys⟩,
    ⟨fun ts' rd' h1 h2 => ha.loc ts' rd' (fun t ht => (h1 t ht).trans (sl2 t ht)) (fun b hb => (h2 b hb).trans (hi.same (fun hw => hin.w2 b hw hb))), fun y h1 h2 => ?_, ha.keys⟩, ?_, ?_⟩
  · have := hi.fresh y h1 h2
    rwa [ha.same (fun hw => hin.w3 y hw (.inr ⟨h1, h2⟩))] at this
  · rw [hi.same (fun hw => hin.w3 y (.inr ⟨h1, h2⟩) hw)]
    exact ha.fresh y h1 h2
  · cases h1 : a.o'.dst with
    | none => rfl
    | some d =>
      cases h2 : i.o'.dst with
      | none => rfl
      | some e => exact setN_comm ts d e a.v i.v fun he => hin.d3 d h1 (by rw [h2, he])
  · funext y
    by_cases hw : a.w y
    · have hni : ¬ i.w y := hin.w3 y hw
      rw [hi.same hni]
      exact (appRd_over rd _ a.c a.d y (hi.same hni)).symm
    · rw [ha.same (rd1 := appRd rd i.c i.d) hw]
      exact appRd_over rd _ i.c i.d y (ha.same hw)

theorem Chain.front {F : Fns} {i : DStep} {B : List DStep} {ts2 : List AV} {rd2 : Rd} : ∀ (A : List DStep) {ts : List AV} {rd : Rd}, Chain F (A ++ i :: B) ts rd ts2 rd2 → (∀ a, a ∈ A → Ind a i) → Chain F (i :: (A ++ B)) ts rd ts2 rd2
  | [], ts, rd, h, _ => h
  | a :: A, ts, rd, h, hin => by
    cases h with
    | cons _ _ _ _ _ _ h1 h2 =>
      have := Chain.front A h2 fun x hx => hin x (by simp [hx])
      cases this with
      | cons _ _ _ _ _ _ k1 k2 =>
        obtain ⟨e1, e2, e3, e4⟩ := swap h1 k1 (hin a (by simp))
        rw [e3, e4] at k2
        exact .cons _ _ _ _ _ _ e1 (.cons _ _ _ _ _ _ e2 k2)

end Go.Proofs.Dw
end

/-
  THE ABSTRACT WALK, 28: regions that draw their order.
-/
section
namespace Go.Proofs.Dw

theorem apartN_spec : ∀ {l m : List Nat}, apartN l m = true → ∀ x, x ∈ l → x ∉ m
  | [], _, _, x, h => by simp at h
  | y :: l, m, h, x, hx => by
    simp only [apartN] at h
    obtain ⟨h1, h2⟩ : memN m y = false ∧ apartN l m = true := by
      cases hq : memN m y with
      | true => rw [hq] at h; cases h
      | false => rw [hq] at h; exact ⟨rfl, h⟩
    rcases List.mem_cons.1 hx with e | e
    · subst e; intro hm; rw [(memN_iff m x).2 hm] at h1; cases h1
    · exact apartN_spec h2 x e

theorem mem_fromN : ∀ (n c b : Nat), b ∈ fromN c n ↔ c ≤ b ∧ b < c + n
  | 0, c, b => by simp [fromN]
  | n + 1, c, b => by
    simp only [fromN, List.mem_cons, mem_fromN n (c + 1) b]
    omega

theorem subN_spec : ∀ {l m : List Nat}, subN l m = true → ∀ x, x ∈ l → x ∈ m
  | [], _, _, x, h => by simp at h
  | y :: l, m, h, x, hx => by
    simp only [subN] at h
    obtain ⟨h1, h2⟩ : memN m y = true ∧ subN l m = true := by
      cases hq : memN m y with
      | true => rw [hq] at h; exact ⟨rfl, h⟩
      | false => rw [hq] at h; cases h
    rcases List.mem_cons.1 hx with e | e
    · subst e; exact (memN_iff m x).1 h1
    · exact subN_spec h2 x e

theorem keysN_mem : ∀ {l : List (Nat × HObj)} {b : Nat} {o : HObj}, (b, o) ∈ l → b ∈ keysN l
  | [], b, o, h => by simp at h
  | (x, y) :: l, b, o, h => by
    simp only [keysN, List.mem_cons]
    rcases List.mem_cons.1 h with e | e
    · cases e; exact .inl rfl
    · exact .inr (keysN_mem e)

theorem biff {c x : Bool} (h : (bif c then x else false) = true) : c = true ∧ x = true := by cases c <;> simp_all

theorem clearOf_spec : ∀ {i : Nat} {a : List Nat × List Nat} {bef : List Nat} {fps : List (List Nat × List Nat)} {q : Nat} {m : Nat} {b : List Nat × List Nat}, clearOf i a bef fps = true → bef[q]? = some m → fps[q]? = some b →
    Nat.testBit m i = true ∨ clash a b = false
  | i, a, [], fps, q, m, b, _, h, _ => by simp at h
  | i, a, _ :: _, [], q, m, b, _, _, h => by simp at h
  | i, a, m :: bef, b :: fps, 0, m', b', h, h1, h2 => by
    simp at h1 h2; subst h1; subst h2
    have := (biff h).1
    simpa using this
  | i, a, m :: bef, b :: fps, q + 1, m', b', h, h1, h2 => clearOf_spec (biff h).2 (by simpa using h1) (by simpa using h2)

theorem allClear_spec : ∀ {i : Nat} {bef : List Nat} {fps : List (List Nat × List Nat)} {p q m : Nat} {a b : List Nat × List Nat}, allClear i bef fps = true → p < q → fps[p]? = some a → bef[q]? = some m → fps[q]? = some b →
    Nat.testBit m (i + p) = true ∨ clash a b = false
  | i, [], fps, p, q, m, a, b, _, _, _, h, _ => by simp at h
  | i, _ :: _, [], p, q, m, a, b, _, _, h, _, _ => by simp at h
  | i, m :: bef, x :: fps, 0, q + 1, m', a, b, h, _, h1, h2, h3 => by
    simp at h1; subst h1
    exact clearOf_spec (biff h).1 (by simpa using h2) (by simpa using h3)
  | i, m :: bef, x :: fps, p + 1, q + 1, m', a, b, h, hpq, h1, h2, h3 => by
    have := allClear_spec (p := p) (q := q) (biff h).2 (by omega) (by simpa using h1) (by simpa using h2) (by simpa using h3)
    rwa [show i + 1 + p = i + (p + 1) by omega] at this
  | i, _, _, _, 0, _, _, _, _, hpq, _, _, _ => by omega

theorem slotsFrom_spec : ∀ {i : Nat} {a : IOper} {bef : List Nat} {l : List IOper} {q : Nat} {m : Nat} {b : IOper}, slotsFrom i a bef l = true → bef[q]? = some m → l[q]? = some b →
    Nat.testBit m i = true ∨ (pairOk a b = true ∧ pairOk b a = true)
  | i, a, [], l, q, m, b, _, h, _ => by simp at h
  | i, a, _ :: _, [], q, m, b, _, _, h => by simp at h
  | i, a, m :: bef, b :: l, 0, m', b', h, h1, h2 => by
    simp at h1 h2; subst h1; subst h2
    have := (biff h).1
    simpa using this
  | i, a, m :: bef, b :: l, q + 1, m', b', h, h1, h2 => slotsFrom_spec (biff h).2 (by simpa using h1) (by simpa using h2)

theorem slotsClear_spec : ∀ {i : Nat} {bef : List Nat} {l : List IOper} {p q m : Nat} {a b : IOper}, slotsClear i bef l = true → p < q → l[p]? = some a → bef[q]? = some m → l[q]? = some b →
    Nat.testBit m (i + p) = true ∨ (pairOk a b = true ∧ pairOk b a = true)
  | i, [], l, p, q, m, a, b, _, _, _, h, _ => by simp at h
  | i, _ :: _, [], p, q, m, a, b, _, _, h, _, _ => by simp at h
  | i, m :: bef, x :: l, 0, q + 1, m', a, b, h, _, h1, h2, h3 => by
    simp at h1; subst h1
    exact slotsFrom_spec (biff h).1 (by simpa using h2) (by simpa using h3)
  | i, m :: bef, x :: l, p + 1, q + 1, m', a, b, h, hpq, h1, h2, h3 => by
    have := slotsClear_spec (p := p) (q := q) (biff h).2 (by omega) (by simpa using h1) (by simpa using h2) (by simpa using h3)
    rwa [show i + 1 + p = i + (p + 1) by omega] at this
  | i, _, _, _, 0, _, _, _, _, hpq, _, _, _ => by omega

theorem pairOk_spec {a b : IOper} (h : pairOk a b = true) : (∀ t, a.dst = some t → t ∉ b.looks) ∧ (∀ t, a.dst = some t → b.dst = some t → False) := by
  unfold pairOk at h
  cases ha : a.dst with
  | none => exact ⟨fun t h => (by cases h), fun t h => (by cases h)⟩
  | some d =>
    simp only [ha, Bool.and_eq_true, Bool.not_eq_true'] at h
    refine ⟨fun t ht hm => ?_, fun t ht hb => ?_⟩
    · cases ht; rw [(memN_iff _ _).2 hm] at h; cases h.1
    · cases ht
      rw [hb] at h
      simp at h

/-- The list of the steps, with what each may not meet. -/
def DStep.foot (s : DStep) : List Nat × List Nat := footN s.fp s.c s.d.nw

theorem ind_of {a b : DStep} (h1 : clash a.foot b.foot = false) (h2 : pairOk a.o' b.o' = true) (h3 : pairOk b.o' a.o' = true) : Ind a b := by
  have hc : apartN a.foot.2 b.foot.1 = true ∧ apartN a.foot.2 b.foot.2 = true ∧ apartN a.foot.1 b.foot.2 = true := by
    unfold clash at h1
    simpa using h1
  have wf : ∀ (s : DStep) (x : Nat), s.w x → x ∈ s.foot.2 := fun s x hx => by
    simp only [DStep.foot, footN, List.mem_append, mem_fromN]
    exact hx
  obtain ⟨p1, p2⟩ := pairOk_spec h2
  obtain ⟨q1, _⟩ := pairOk_spec h3
  refine ⟨p1, q1, p2, fun x hx hf => ?_, fun x hx hf => ?_, fun x hx hy => apartN_spec hc.2.1 x (wf a x hx) (wf b x hy)⟩
  · rcases hf with hf | hf
    · exact apartN_spec hc.1 x (wf a x hx) hf
    · exact apartN_spec hc.2.1 x (wf a x hx) (wf b x (.inl hf))
  · rcases hf with hf | hf
    · exact apartN_spec hc.2.2 x hf (wf b x hx)
    · exact apartN_spec hc.2.1 x (wf a x (.inl hf)) (wf b x hx)

/-- The reckoning in the text's order, as a chain. -/
theorem evDops_chain {F : Fns} {bef : List Nat} {P : Program} {rs : Cfg} {ops : Array Oper} {α : Type} {r : α} {K : St → Option α} : ∀ (l : List Oper) (l' : List IOper) (acc : List (List Nat × List Nat)) (st : St) (k : Nat), mapO (compOper P rs ops) l = some l' →
    evDops F bef l' acc st K = some r → ∃ (R : List DStep) (st' : St), Chain F R st.ts (rdH st.H) st'.ts (rdH st'.H) ∧ K st' = some r ∧ allClear 0 bef (acc ++ R.map DStep.foot) = true ∧
      R.map (·.o) = l ∧ R.map (·.o') = l' ∧ (∀ (q : Nat) s, R[q]? = some s → s.i = k + q ∧ compOper P rs ops s.o = some s.o')
  | [], l', acc, st, k, hl, h => by
    simp [mapO] at hl; subst hl
    simp only [evDops] at h
    obtain ⟨hb, h⟩ := bif_some h
    exact ⟨[], st, .nil _ _, h, by simpa using hb, rfl, rfl, fun q s h => by simp at h⟩
  | o :: l, l', acc, st, k, hl, h => by
    simp only [mapO] at hl
    split at hl
    · rename_i o' ho
      split at hl
      · rename_i r' hr'
        cases hl
        simp only [evDops, evOperD] at h
        obtain ⟨v, d, fp, h, hloc⟩ := operV_par h
        obtain ⟨hb, h⟩ := bif_some h
        simp only [Bool.and_eq_true] at hb
        obtain ⟨R, st', h1, h2, h3, h4, h5, h6⟩ := evDops_chain l r' _ _ (k + 1) hr' h
        have e := rdH_to d st.H (belowN_spec hb.1)
        refine ⟨⟨o, o', k, st.H.length, v, d, fp⟩ :: R, st', .cons _ _ _ _ _ _ ⟨hloc, fun y hy _ => rdH_unborn _ _ hy, fun b ob hm => subN_spec hb.2 b (keysN_mem hm)⟩ ?_, h2, ?_, by simp [h4], by simp [h5], fun q s hq => ?_⟩
        · rw [← e]; exact h1
        · simpa [DStep.foot, List.append_assoc] using h3
        · cases q with
          | zero => simp at hq; subst hq; exact ⟨rfl, ho⟩
          | succ q =>
            obtain ⟨e1, e2⟩ := h6 q s (by simpa using hq)
            exact ⟨by rw [e1]; omega, e2⟩
      · cases hl
    · cases hl

/-! ### what comes ahead -/
theorem befBits_spec {acc : List Nat} {k : Nat} : ∀ {a : List Nat}, Nat.testBit (befBits acc a) k = true → ∃ e, e ∈ a ∧ (k = e ∨ ∃ m, acc[e]? = some m ∧ Nat.testBit m k = true)
  | [], h => by simp [befBits] at h
  | e :: r, h => by
    simp only [befBits, Nat.testBit_or, Bool.or_eq_true] at h
    rcases h with h | h | h
    · obtain ⟨e', h1, h2⟩ := befBits_spec h
      exact ⟨e', List.mem_cons_of_mem _ h1, h2⟩
    · rw [Nat.testBit_two_pow] at h
      have h' : e = k := by simpa using h
      exact ⟨e, by simp, .inl h'.symm⟩
    · rw [nth_eq] at h
      cases hq : acc[e]? with
      | none => simp [hq] at h
      | some m => simp only [hq] at h; exact ⟨e, by simp, .inr ⟨m, hq, h⟩⟩

theorem befGo_prefix : ∀ (afs : List (List Nat)) (acc : List Nat), ∃ t, befGo afs acc = acc ++ t ∧ t.length = afs.length
  | [], acc => ⟨[], by simp [befGo]⟩
  | a :: r, acc => by
    obtain ⟨t, h1, h2⟩ := befGo_prefix r (acc ++ [befBits acc a])
    exact ⟨befBits acc a :: t, by simp [befGo, h1], by simp [h2]⟩

theorem befGo_get : ∀ (afs : List (List Nat)) (acc : List Nat) (i : Nat) (a : List Nat), afs[i]? = some a → ∃ acc', (befGo afs acc)[acc.length + i]? = some (befBits acc' a) ∧ ∀ (e m : Nat), acc'[e]? = some m → (befGo afs acc)[e]? = some m
  | [], acc, i, a, h => by simp at h
  | x :: r, acc, 0, a, h => by
    simp at h; subst h
    obtain ⟨t, h1, h2⟩ := befGo_prefix r (acc ++ [befBits acc x])
    refine ⟨acc, ?_, fun e m he => ?_⟩
    · simp only [befGo, h1, Nat.add_zero]; simp
    · simp only [befGo, h1]
      rw [List.append_assoc, List.getElem?_append_left (List.getElem?_eq_some_iff.1 he).1]
      exact he
  | x :: r, acc, i + 1, a, h => by
    obtain ⟨acc', h1, h2⟩ := befGo_get r (acc ++ [befBits acc x]) i a (by simpa using h)
    refine ⟨acc', ?_, h2⟩
    simp only [befGo]
    rw [show acc.length + (i + 1) = (acc ++ [befBits acc x]).length + i by simp; omega]
    exact h1

theorem readyIn_spec {done : List Nat} : ∀ {afs : List (List Nat)} {k i : Nat}, readyIn done k afs = some i → ∃ a, k ≤ i ∧ afs[i - k]? = some a ∧ i ∉ done ∧ ∀ e, e ∈ a → e ∈ done
  | [], k, i, h => by simp [readyIn] at h
  | a :: r, k, i, h => by
    simp only [readyIn] at h
    cases hb : (!memN done k && subN a done) with
    | true =>
      rw [hb, cond_true] at h; cases h
      simp only [Bool.and_eq_true, Bool.not_eq_true'] at hb
      refine ⟨a, Nat.le_refl _, by simp, fun hm => ?_, subN_spec hb.2⟩
      rw [(memN_iff _ _).2 hm] at hb; cases hb.1
    | false =>
      rw [hb, cond_false] at h
      obtain ⟨a', h1, h2, h3, h4⟩ := readyIn_spec h
      exact ⟨a', by omega, by rw [show i - k = (i - (k + 1)) + 1 by omega]; simpa using h2, h3, h4⟩

theorem acyc_spec {afs : List (List Nat)} (L : Nat → Prop) : ∀ (n : Nat) (done : List Nat), acyc afs n done = true → (∀ x, x ∈ done → L x) → (∃ i, i < afs.length ∧ ¬ L i) → ∃ i a, afs[i]? = some a ∧ ¬ L i ∧ ∀ e, e ∈ a → L e
  | 0, done, h, hd, ⟨i, hi, hn⟩ => by
    simp only [acyc] at h
    exact absurd (hd i (subN_spec h i (List.mem_of_getElem? (upTo_get _ i hi)))) hn
  | n + 1, done, h, hd, ⟨i, hi, hn⟩ => by
    simp only [acyc] at h
    split at h
    · rename_i j hj
      obtain ⟨a, h1, h2, h3, h4⟩ := readyIn_spec hj
      by_cases hL : L j
      · refine acyc_spec L n (j :: done) h (fun x hx => ?_) ⟨i, hi, hn⟩
        rcases List.mem_cons.1 hx with e | e
        · subst e; exact hL
        · exact hd x e
      · exact ⟨j, a, by simpa using h2, hL, fun e he => hd e (h4 e he)⟩
    · exact absurd (hd i (subN_spec h i (List.mem_of_getElem? (upTo_get _ i hi)))) hn

theorem mem_ready {ops : Array Oper} {listed : Array Bool} {i : Nat} (hsz : listed.size = ops.size) : i ∈ Region.ready .any ops listed ↔ ∃ o, ops[i]? = some o ∧ listed[i]? = some false ∧ ∀ e, e ∈ afterOf o → listed[e]? = some true := by
  have g1 : ∀ (j : Nat), listed.getD j false = true ↔ listed[j]? = some true := fun j => by
    rw [Array.getD_eq_getD_getElem?]; cases listed[j]? <;> simp
  have g2 : ∀ (j : Nat), listed.getD j true = false ↔ listed[j]? = some false := fun j => by
    rw [Array.getD_eq_getD_getElem?]; cases listed[j]? <;> simp
  unfold Region.ready
  simp only [List.mem_filter, List.mem_range, Bool.and_eq_true, Bool.not_eq_true']
  constructor
  · rintro ⟨hi, h1, h2⟩
    have ho : ops[i]? = some ops[i] := by simp [hi]
    rw [ho] at h2
    simp only [Option.map_some, Option.getD_some, Array.all_eq_true] at h2
    refine ⟨_, ho, (g2 i).1 h1, fun e he => ?_⟩
    simp only [afterOf, List.mem_map, List.mem_filter] at he
    obtain ⟨ed, ⟨hm, hb⟩, rfl⟩ := he
    obtain ⟨k, hk, hke⟩ := List.mem_iff_getElem.1 hm
    have := h2 k (by simpa using hk)
    rw [show ops[i].after[k]'(by simpa using hk) = ed by simpa using hke] at this
    simp only [hb, Bool.not_true, Bool.false_or] at this
    exact (g1 _).1 this
  · rintro ⟨o, ho, h1, h2⟩
    have hi : i < ops.size := (Array.getElem?_eq_some_iff.1 ho).1
    refine ⟨hi, (g2 i).2 h1, ?_⟩
    rw [ho]
    simp only [Option.map_some, Option.getD_some, Array.all_eq_true]
    intro k hk
    cases hb : Region.binds .any o.after[k] with
    | false => simp
    | true =>
      simp only [Bool.not_true, Bool.false_or]
      refine (g1 _).2 (h2 _ ?_)
      simp only [afterOf, List.mem_map, List.mem_filter]
      exact ⟨_, ⟨by simp, hb⟩, rfl⟩

end Go.Proofs.Dw
end

/-
  THE ABSTRACT WALK, 29: regions that draw their order are sound.
-/
section
namespace Go.Proofs.Dw

section
variable {Df : List Deferred} {P : Program} {F : Fns} {rs : Cfg} {ops : Array Oper} {Q : Exit → Act → World → Prop} {tsF : List AV} {rdF : Rd}

/-- Which are still to come. -/
structure Left (P : Program) (rs : Cfg) (ops : Array Oper) (R : List DStep) (listed : Array Bool) : Prop where
  size : listed.size = ops.size
  mem : ∀ (j : Nat), j < ops.size → (listed[j]? = some false ↔ ∃ s, s ∈ R ∧ s.i = j)
  up : R.Pairwise (fun a b => a.i < b.i)
  code : ∀ s, s ∈ R → ops[s.i]? = some s.o ∧ compOper P rs ops s.o = some s.o'
  clear : R.Pairwise (fun a b => (∃ m, (befGo (ops.toList.map afterOf) [])[b.i]? = some m ∧ Nat.testBit m a.i = true) ∨ Ind a b)
  closed : ∀ (j m k : Nat), listed[j]? = some true → (befGo (ops.toList.map afterOf) [])[j]? = some m → Nat.testBit m k = true → listed[k]? = some true

theorem Left.take {A B : List DStep} {s : DStep} {listed : Array Bool} (h : Left P rs ops (A ++ s :: B) listed) (hb : ∀ (m k : Nat), (befGo (ops.toList.map afterOf) [])[s.i]? = some m → Nat.testBit m k = true → listed[k]? = some true) :
    Left P rs ops (A ++ B) (listed.setIfInBounds s.i true) := by
  have hsub : (A ++ B).Sublist (A ++ s :: B) := (List.Sublist.refl A).append (List.sublist_cons_self s B)
  have hne : ∀ x, x ∈ A ++ B → x.i ≠ s.i := by
    intro x hx
    have hp := h.up
    rw [List.pairwise_append] at hp
    obtain ⟨_, hp2, hp3⟩ := hp
    rw [List.pairwise_cons] at hp2
    rcases List.mem_append.1 hx with hx | hx
    · have := hp3 x hx s (by simp); omega
    · have := hp2.1 x hx; omega
  have hsi : s.i < ops.size := by
    obtain ⟨ho, _⟩ := h.code s (by simp)
    exact (Array.getElem?_eq_some_iff.1 ho).1
  have get : ∀ (j : Nat), (listed.setIfInBounds s.i true)[j]? = if s.i = j then some true else listed[j]? := fun j => by
    rw [Array.getElem?_setIfInBounds]
    by_cases he : s.i = j
    · subst he; rw [if_pos rfl, if_pos rfl, if_pos (by rw [h.size]; exact hsi)]
    · rw [if_neg he, if_neg he]
  refine ⟨by simp [h.size], fun j hj => ?_, h.up.sublist hsub, fun x hx => h.code x (hsub.mem hx), h.clear.sublist hsub, fun j m k hj hm hk => ?_⟩
  · rw [get]
    by_cases he : s.i = j
    · rw [if_pos he]
      refine ⟨fun h => (by cases h), fun ⟨x, hx, hxi⟩ => absurd (hxi.trans he.symm) (hne x hx)⟩
    · rw [if_neg he, h.mem j hj]
      refine ⟨fun ⟨x, hx, hxi⟩ => ⟨x, ?_, hxi⟩, fun ⟨x, hx, hxi⟩ => ⟨x, hsub.mem hx, hxi⟩⟩
      rcases List.mem_append.1 hx with hx | hx
      · exact List.mem_append_left _ hx
      · rcases List.mem_cons.1 hx with e | hx
        · subst e; exact absurd hxi he
        · exact List.mem_append_right _ hx
  · rw [get] at hj ⊢
    by_cases he : s.i = k
    · rw [if_pos he]
    · rw [if_neg he]
      by_cases hj2 : s.i = j
      · subst hj2; exact hb m k hm hk
      · rw [if_neg hj2] at hj; exact h.closed j m k hj hm hk

theorem wpAny_dreg (hF : FnsOk P F) (hac : acyc (ops.toList.map afterOf) ops.size [] = true) : ∀ (fuel : Nat) (R : List DStep) (listed : Array Bool) (φ : Phi) (I : Fz) (ts : List AV) (rd : Rd) (a : Act) (w : World),
    Left P rs ops R listed → R.length = fuel → Chain F R ts rd tsF rdF → RepS φ rd w I ts a.tmps → Sim φ I rd w →
    (∀ φ' I' a' w', a'.defers = a.defers → RepS φ' rdF w' I' tsF a'.tmps → Sim φ' I' rdF w' → Ext φ I rd w φ' I' rdF w' → Q .normal a' w') → wpAny P .any ops Q fuel listed a w
  | 0, R, listed, φ, I, ts, rd, a, w, hL, hlen, hch, hs, sm, hQ => by
    have : R = [] := List.eq_nil_of_length_eq_zero hlen
    subst this
    cases hch
    refine ⟨?_, hQ φ I a w rfl hs sm (.refl _ _ _ _)⟩
    rw [List.eq_nil_iff_forall_not_mem]
    intro i hi
    obtain ⟨o, h1, h2, _⟩ := (mem_ready hL.size).1 hi
    obtain ⟨s, hs, _⟩ := (hL.mem i (Array.getElem?_eq_some_iff.1 h1).1).1 h2
    cases hs
  | fuel + 1, R, listed, φ, I, ts, rd, a, w, hL, hlen, hch, hs, sm, hQ => by
    refine ⟨fun hr => ?_, fun i hi => ?_⟩
    · exfalso
      cases R with
      | nil => cases hlen
      | cons s0 R0 =>
        obtain ⟨ho, _⟩ := hL.code s0 (by simp)
        have hsi := (Array.getElem?_eq_some_iff.1 ho).1
        have hf := (hL.mem s0.i hsi).2 ⟨s0, by simp, rfl⟩
        obtain ⟨i, af, h1, h2, h3⟩ := acyc_spec (fun j : Nat => listed[j]? = some true) _ [] hac (fun x hx => by cases hx) ⟨s0.i, by simpa using hsi, by rw [hf]; simp⟩
        have hi : i < ops.size := by have := (List.getElem?_eq_some_iff.1 h1).1; simpa using this
        have ho : ops[i]? = some ops[i] := by simp [hi]
        have haf : af = afterOf ops[i] := by
          rw [List.getElem?_map, Array.getElem?_toList, ho] at h1
          cases h1; rfl
        have hfl : listed[i]? = some false := by
          have hl : i < listed.size := by rw [hL.size]; exact hi
          have he : listed[i]? = some listed[i] := by simp [hl]
          rw [he] at h2 ⊢
          cases hq : listed[i] with
          | true => rw [hq] at h2; exact absurd rfl h2
          | false => rfl
        have := (mem_ready (i := i) hL.size).2 ⟨_, ho, hfl, fun e he => h3 e (by rw [haf]; exact he)⟩
        rw [hr] at this; cases this
    · obtain ⟨o, ho, hfl, haf⟩ := (mem_ready hL.size).1 hi
      obtain ⟨s, hsR, rfl⟩ := (hL.mem i (Array.getElem?_eq_some_iff.1 ho).1).1 hfl
      obtain ⟨A, B, rfl⟩ := List.append_of_mem hsR
      obtain ⟨ho', hcomp⟩ := hL.code s hsR
      rw [ho] at ho'; cases ho'
      have hbits : ∀ (m k : Nat), (befGo (ops.toList.map afterOf) [])[s.i]? = some m → Nat.testBit m k = true → listed[k]? = some true := by
        intro m k hm hk
        obtain ⟨acc', h1, h2⟩ := befGo_get (ops.toList.map afterOf) [] s.i (afterOf s.o) (by rw [List.getElem?_map, Array.getElem?_toList, ho]; rfl)
        rw [List.length_nil, Nat.zero_add, hm] at h1
        cases h1
        obtain ⟨e, he, hcase⟩ := befBits_spec hk
        rcases hcase with rfl | ⟨m', hm', hk'⟩
        · exact haf k he
        · exact hL.closed e m' k (haf e he) (h2 e m' hm') hk'
      have hind : ∀ x, x ∈ A → Ind x s := by
        intro x hx
        have hp := hL.clear
        rw [List.pairwise_append] at hp
        rcases hp.2.2 x hx s (by simp) with ⟨m, hm, hk⟩ | h
        · exfalso
          have ht := hbits m x.i hm hk
          obtain ⟨hox, _⟩ := hL.code x (by simp [hx])
          have := (hL.mem x.i (Array.getElem?_eq_some_iff.1 hox).1).2 ⟨x, by simp [hx], rfl⟩
          rw [ht] at this; cases this
        · exact h
      cases hch.front A hind with
      | cons _ _ _ _ _ _ hok htail =>
        have hrun : operV F s.o' ts rd s.c (fun ts d fp => some (ts, d, fp)) = some (putS ts s.o'.dst s.v, s.d, s.fp) := hok.loc ts rd (fun _ _ => rfl) (fun _ _ => rfl) _
        obtain ⟨ts', d', fp', h1, h2⟩ := operV_sound hF hs sm hcomp hrun
        cases h1
        have h2 := h2 hok.fresh (wpAny P .any ops Q fuel (listed.setIfInBounds s.i true)) Q fun φ' I' a' w' k1 k2 k3 k4 =>
          wpAny_dreg hF hac fuel (A ++ B) _ φ' I' _ _ a' w' (hL.take hbits) (by simp at hlen ⊢; omega) htail k2 k3 fun φ'' I'' a'' w'' m1 m2 m3 m4 => hQ φ'' I'' a'' w'' (m1.trans k1) m2 m3 (k4.trans m4)
        unfold wpOp
        rw [ho]
        unfold StepWp at h2
        simp only
        split
        · rename_i hw; rw [if_pos hw] at h2; exact .inl h2
        · rename_i hw; rw [if_neg hw] at h2; exact h2

theorem dreg_sound (hF : FnsOk P F) (hm : P.follows .mixedOrders = true) {l' : List IOper} {st : St} {α : Type} {r : α} {K : St → Option α} {id : Nat} {φ : Phi} {I : Fz} {a : Act} {w : World} (hl : mapO (compOper P rs ops) ops.toList = some l')
    (hac : acyc (ops.toList.map afterOf) ops.size [] = true) (hsl : slotsClear 0 (befGo (ops.toList.map afterOf) []) l' = true)
    (h : evDops F (befGo (ops.toList.map afterOf) []) l' [] st K = some r) (ok : StOk Df φ I st a w)
    (hQ : ∀ st' φ' I' a' w', K st' = some r → StOk Df φ' I' st' a' w' → Ext φ I (rdH st.H) w φ' I' (rdH st'.H) w' → Q .normal a' w') : (Code.region id ops true).wp P Q a w := by
  obtain ⟨R, st', h1, h2, h3, h4, h5, h6⟩ := evDops_chain ops.toList l' [] st 0 hl h
  refine wp_region_any hm ?_
  have E0 : Ext φ I (rdH st.H) w φ I (rdH st.H) { w with drawn := w.drawn + 1 } := Ext.same (fun _ => rfl) rfl rfl rfl rfl
  have sm0 : Sim φ I (rdH st.H) { w with drawn := w.drawn + 1 } := ok.sim.same (fun _ => rfl) rfl rfl rfl rfl
  have hlen : R.length = ops.size := by have := congrArg List.length h4; simpa using this
  have hRi : ∀ (q : Nat) s, R[q]? = some s → s.i = q := fun q s hq => by have := (h6 q s hq).1; omega
  have hL : Left P rs ops R (Array.replicate ops.size false) := by
    refine ⟨by simp, fun j hj => ⟨fun _ => ?_, fun _ => by simp [hj]⟩, ?_, fun s hs => ?_, ?_, fun j m k hj => ?_⟩
    · have hj' : j < R.length := by omega
      exact ⟨R[j], List.getElem_mem _, hRi j _ (by simp)⟩
    · rw [List.pairwise_iff_getElem]
      intro p q hp hq hpq
      rw [hRi p _ (List.getElem?_eq_getElem hp), hRi q _ (List.getElem?_eq_getElem hq)]
      exact hpq
    · obtain ⟨q, hq, rfl⟩ := List.mem_iff_getElem.1 hs
      have he : R[q]? = some R[q] := List.getElem?_eq_getElem hq
      refine ⟨?_, (h6 q _ he).2⟩
      rw [hRi q _ he, ← Array.getElem?_toList, ← h4, List.getElem?_map, he]; rfl
    · rw [List.pairwise_iff_getElem]
      intro p q hp hq hpq
      have ep : R[p]? = some R[p] := List.getElem?_eq_getElem hp
      have eq : R[q]? = some R[q] := List.getElem?_eq_getElem hq
      rw [hRi p _ ep, hRi q _ eq]
      obtain ⟨acc', b1, _⟩ := befGo_get (ops.toList.map afterOf) [] q (afterOf R[q].o) (by
        rw [List.getElem?_map, ← h4, List.getElem?_map, eq]; rfl)
      rw [List.length_nil, Nat.zero_add] at b1
      rw [List.nil_append] at h3
      have c1 := allClear_spec (p := p) (q := q) h3 hpq (by rw [List.getElem?_map, ep]; rfl) b1 (by rw [List.getElem?_map, eq]; rfl)
      have c2 := slotsClear_spec (p := p) (q := q) hsl hpq (by rw [← h5, List.getElem?_map, ep]; rfl) b1 (by rw [← h5, List.getElem?_map, eq]; rfl)
      rw [Nat.zero_add] at c1 c2
      rcases c1 with c1 | c1
      · exact .inl ⟨_, b1, c1⟩
      · rcases c2 with c2 | ⟨c2, c3⟩
        · exact .inl ⟨_, b1, c2⟩
        · exact .inr (ind_of c1 c2 c3)
    · rw [Array.getElem?_replicate] at hj
      split at hj <;> cases hj
  refine wpAny_dreg hF hac ops.size R _ φ I st.ts (rdH st.H) a _ hL hlen h1 ⟨ok.reps.1, fun i x v hx hv => (ok.reps.2 i x v hx hv).ext E0 ok.sim⟩ sm0 fun φ' I' a' w' k1 k2 k3 k4 => ?_
  exact hQ st' φ' I' a' w' h2 ⟨k2, k3, k1.trans ok.defers⟩ (E0.trans k4)

end

end Go.Proofs.Dw
end

/-
  THE ABSTRACT WALK, 30: code, loops, functions: what is reckoned is what the model does.
-/
section
namespace Go.Proofs.Dw

def IExit.out : IExit → Exit
  | .normal => .normal
  | .exit id => .exit id
  | .ret => .ret

section
variable {Df : List Deferred} {P : Program} {F : Fns} {rs : Cfg}

theorem comp_region {id : Nat} {ops : Array Oper} {draw : Bool} {h h' : List (List Nat)} {ic : ICode} (hc : comp P rs (.region id ops draw) h = some (ic, h')) :
    ∃ l, mapO (compOper P rs ops) ops.toList = some l ∧ ((draw = false ∧ ic = .reg l) ∨ (draw = true ∧ acyc (ops.toList.map afterOf) ops.size [] = true ∧ slotsClear 0 (befGo (ops.toList.map afterOf) []) l = true ∧ ic = .dreg l (befGo (ops.toList.map afterOf) []))) := by
  simp only [comp] at hc
  split at hc
  · cases hc
  · rename_i l hl
    cases draw with
    | false => cases hc; exact ⟨l, hl, .inl ⟨rfl, rfl⟩⟩
    | true =>
      obtain ⟨hb, hc⟩ := bif_some hc
      cases hc
      simp only [Bool.and_eq_true] at hb
      exact ⟨l, hl, .inr ⟨rfl, hb.1, hb.2, rfl⟩⟩

theorem evC_sound (hF : FnsOk P F) (hm : P.follows .mixedOrders = true) {m n : Nat} {φ0 : Phi} {I0 : Fz} {rd0 : Rd} {w0 : World} (hm0 : ∀ b, rd0 b ≠ .unborn → b < m) {α : Type} {r : α} : ∀ (c : Code) (h h' : List (List Nat)) (ic : ICode) (st : St) (φ : Phi) (I : Fz) (a : Act) (w : World)
    (K : IExit → St → Option α) (Q : Exit → Act → World → Prop), comp P rs c h = some (ic, h') → evC F n m ic st K = some r → StOk Df φ I st a w → Ext φ0 I0 rd0 w0 φ I (rdH st.H) w →
    (∀ e st' φ' I' a' w', K e st' = some r → StOk Df φ' I' st' a' w' → Ext φ0 I0 rd0 w0 φ' I' (rdH st'.H) w' → Q e.out a' w') → c.wp P Q a w := by
  intro c
  induction c with
  | skip =>
    intro h h' ic st φ I a w K Q hc he ok E hQ
    simp only [comp] at hc; cases hc
    exact wp_skip (hQ .normal st φ I a w he ok E)
  | region id ops draw =>
    intro h h' ic st φ I a w K Q hc he ok E hQ
    obtain ⟨l, hl, ⟨rfl, rfl⟩ | ⟨rfl, h1, h2, rfl⟩⟩ := comp_region hc
    · simp only [evC] at he
      exact wp_region_list (evOps_sound hF ops.toList l st φ I a w hl he ok fun st' φ' I' a' w' k1 k2 k3 => hQ .normal st' φ' I' a' w' k1 k2 (E.trans k3))
    · simp only [evC] at he
      exact dreg_sound hF hm hl h1 h2 he ok fun st' φ' I' a' w' k1 k2 k3 => hQ .normal st' φ' I' a' w' k1 k2 (E.trans k3)
  | seq x y ihx ihy =>
    intro h h' ic st φ I a w K Q hc he ok E hQ
    simp only [comp] at hc
    split at hc
    · cases hc
    · rename_i ix h1 hx
      split at hc
      · cases hc
      · rename_i iy h2 hy
        cases hc
        simp only [evC] at he
        refine wp_seq (ihx h h1 ix st φ I a w _ _ hx he ok E fun e st' φ' I' a' w' k1 k2 k3 => ?_)
        cases e with
        | normal => exact ihy h1 h' iy st' φ' I' a' w' K Q hy k1 k2 k3 hQ
        | exit i => exact hQ (.exit i) st' φ' I' a' w' k1 k2 k3
        | ret => exact hQ .ret st' φ' I' a' w' k1 k2 k3
  | cond c x y ihx ihy =>
    intro h h' ic st φ I a w K Q hc he ok E hQ
    simp only [comp] at hc
    split at hc
    · rename_i c' ix h1 hcc hx
      split at hc
      · cases hc
      · rename_i iy h2 hy
        cases hc
        simp only [evC] at he
        obtain ⟨b, hb, he⟩ := asB_some he
        have hv := ev_rep ok.reps hcc
        rw [hb] at hv
        have hv := hv.bool_inv
        have he : (bif b then evC F n m ix st K else evC F n m iy st K) = some r := by
          cases c' with
          | s i =>
            have hs : slot st.ts i = .t (.bool b) := hb
            have hsame := setB_same hs
            cases b <;> simp only [cond_true, cond_false] at he ⊢ <;> rw [hsame] at he <;> exact he
          | c v => exact he
          | f g => exact he
        refine wp_cond hv ?_
        cases b with
        | true => exact ihx h h1 ix st φ I a w K Q hx he ok E hQ
        | false => exact ihy h1 h' iy st φ I a w K Q hy he ok E hQ
    · cases hc
  | block id c ih =>
    intro h h' ic st φ I a w K Q hc he ok E hQ
    simp only [comp] at hc
    split at hc
    · rename_i ix h1 hx
      cases hc
      simp only [evC] at he
      refine wp_block (ih h h' ix st φ I a w _ _ hx he ok E fun e st' φ' I' a' w' k1 k2 k3 => ?_)
      cases e with
      | normal => exact hQ .normal st' φ' I' a' w' k1 k2 k3
      | exit i =>
        simp only at k1
        show Exit.inBlock id Q (.exit i) a' w'
        simp only [Exit.inBlock]
        cases hb : Nat.beq i id with
        | true =>
          rw [hb, cond_true] at k1
          rw [if_pos (Nat.eq_of_beq_eq_true hb)]
          exact hQ .normal st' φ' I' a' w' k1 k2 k3
        | false =>
          rw [hb, cond_false] at k1
          rw [if_neg (Nat.ne_of_beq_eq_false hb)]
          exact hQ (.exit i) st' φ' I' a' w' k1 k2 k3
      | ret => exact hQ .ret st' φ' I' a' w' k1 k2 k3
    · cases hc
  | loop c ih =>
    intro h h' ic st φ I a w K Q hc he ok E hQ
    simp only [comp] at hc
    split at hc
    · rename_i live h1
      split at hc
      · rename_i ix h2 hx
        cases hc
        simp only [evC] at he
        obtain ⟨φ1, st1, k1, k2, k3, k4⟩ := norm_sound (st := st) (ts := st.ts) (H := st.H) rfl he hm0 ok.sim E ok.reps
        have rounds : ∀ (q : Nat) (st : St) (φ : Phi) (I : Fz) (a : Act) (w : World), evLoop m live (fun s K' => evC F n m ix s K') q st K = some r → StOk Df φ I st a w → Ext φ0 I0 rd0 w0 φ I (rdH st.H) w →
            Code.rounds P c Q q a w := by
          intro q
          induction q with
          | zero => intro st φ I a w h _ _; simp [evLoop] at h
          | succ q ihq =>
            intro st φ I a w hl ok E
            simp only [evLoop] at hl
            rw [rounds_succ]
            refine ih h1 h' ix st φ I a w _ _ hx hl ok E fun e st' φ' I' a' w' k1 k2 k3 => ?_
            cases e with
            | normal =>
              obtain ⟨φ2, st2, m1, m2, m3, m4⟩ := norm_sound (st := st') (ts := st'.ts) (H := st'.H) rfl k1 hm0 k2.sim k3 k2.reps
              exact ihq st2 φ2 I' a' w' m1 ⟨m4, m2, k2.defers⟩ m3
            | exit i => exact hQ (.exit i) st' φ' I' a' w' k1 k2 k3
            | ret => exact hQ .ret st' φ' I' a' w' k1 k2 k3
        exact wp_loop_rounds n (rounds n st1 φ1 I a w k1 ⟨k4, k2, ok.defers⟩ k3)
      · cases hc
    · cases hc
  | exit id =>
    intro h h' ic st φ I a w K Q hc he ok E hQ
    simp only [comp] at hc; cases hc
    exact wp_exit (hQ (.exit id) st φ I a w he ok E)
  | ret =>
    intro h h' ic st φ I a w K Q hc he ok E hQ
    simp only [comp] at hc; cases hc
    exact wp_ret (hQ .ret st φ I a w he ok E)
  | _ =>
    intro h h' ic st φ I a w K Q hc
    simp [comp] at hc

/-! ### what a function gives back -/
def resF (tmps : Array Value) : ResultVar → Sem Value
  | .tmp t => pure (tmps.getD t undef)
  | .cell q t => do loadVar t (← asAddr (tmps.getD q undef))

theorem results_eq (fn : Func) (tmps : Array Value) : results fn tmps = (do
    let vs ← fn.results.mapM (resF tmps)
    pure (if h : vs.size = 1 then vs[0] else .tuple vs)) := by
  have : resF tmps = (fun
    | .tmp t => pure (tmps.getD t undef)
    | .cell a t => (do loadVar t (← asAddr (tmps.getD a undef)))) := (funext fun x => by cases x <;> rfl)
  unfold results
  rw [this]
  first | rfl | (congr 1; congr 1; funext x; cases x <;> rfl)

theorem res_run {φ : Phi} {I : Fz} {st : St} {a : Act} {w : World} {α : Type} {r : α} (ok : StOk Df φ I st a w) : ∀ (l : List ResultVar) (l' : List IRes) (K : List AV → Option α), compRes P l = some l' → resA st l' K = some r →
    ∃ (xs : List AV) (vs : List Value), K xs = some r ∧ (l.mapM (resF a.tmps)).run P w = .ok vs w ∧ RepL φ (rdH st.H) w I xs vs
  | [], l', K, hc, h => by
    simp [compRes] at hc; subst hc
    exact ⟨[], [], h, rfl, .nil⟩
  | .tmp t :: l, l', K, hc, h => by
    simp only [compRes] at hc
    obtain ⟨l2, hl2, rfl⟩ := map_some' hc
    simp only [resA] at h
    obtain ⟨xs, vs, h1, h2, h3⟩ := res_run ok l l2 _ hl2 h
    refine ⟨_, a.tmps.getD t undef :: vs, h1, ?_, .cons (by rw [getD_toList]; exact slot_rep ok.reps t) h3⟩
    rw [List.mapM_cons]
    simp only [resF, Sem.run_bind, Sem.run_pure, Result.andThen_ok, h2]
  | .cell q t :: l, l', K, hc, h => by
    simp only [compRes] at hc
    split at hc
    · rename_i s l2 hs hl2
      cases hc
      simp only [resA] at h
      have hr := slot_rep ok.reps q
      rw [← getD_toList] at hr
      have fin : ∀ {A : Addr} {x : AV} {v : Value}, a.tmps.getD q undef = .pointer (some A) → (loadVar t A).run P w = .ok v w → RepA φ (rdH st.H) w I x v → (resA st l2 fun l => K (x :: l)) = some r →
          ∃ (xs : List AV) (vs : List Value), K xs = some r ∧ ((ResultVar.cell q t :: l).mapM (resF a.tmps)).run P w = .ok vs w ∧ RepL φ (rdH st.H) w I xs vs := by
        intro A x v hA hv hx h
        obtain ⟨xs, vs, h1, h2, h3⟩ := res_run ok l l2 _ hl2 h
        refine ⟨_, v :: vs, h1, ?_, .cons hx h3⟩
        have hc : (resF a.tmps (.cell q t)).run P w = .ok v w := by
          simp only [resF, hA, asAddr, pure_bind]; exact hv
        rw [List.mapM_cons]
        simp only [Sem.run_bind, hc, Sem.run_pure, Result.andThen_ok, h2]
      split at h
      · rename_i b i j hq
        rw [hq] at hr
        obtain ⟨ha, e, he, h⟩ := elemOf_some h
        obtain ⟨g, C, hφ, ⟨_, hf⟩, hcells⟩ := ok.sim.elem ha he
        obtain ⟨x, v, h, hv, hx⟩ := loadBy_run hs hcells hf h
        obtain ⟨g', C', hφ', hp⟩ := hr.href_inv ha
        rw [hφ] at hφ'; cases hφ'
        exact fin hp hv hx h
      · rename_i e j hq
        rw [hq] at hr
        obtain ⟨b, o, hp, hcells, hf⟩ := RepT.ptrCells (φ := φ) (rd := rdH st.H) hr.tree
        obtain ⟨x, v, h, hv, hx⟩ := loadBy_run hs hcells hf h
        exact fin hp hv hx h
      · rename_i id j hq
        rw [hq] at hr
        obtain ⟨g, hg, ea⟩ := hr.tree.wp_inv
        obtain ⟨G, h0, h⟩ := withW_some h
        obtain ⟨cs, hcs, h⟩ := loadW_some h
        obtain ⟨hcells, hf, _⟩ := ok.sim.cellsW h0 hcs hg
        obtain ⟨x, v, h, hv, hx⟩ := loadBy_run hs hcells hf h
        exact fin ea (by simpa using hv) hx h
      · cases h
    · cases hc

theorem results_run {φ : Phi} {I : Fz} {st : St} {a : Act} {w : World} {α : Type} {r : α} {fn : Func} {l' : List IRes} {K : AV → Option α} (ok : StOk Df φ I st a w) (hc : compRes P fn.results.toList = some l') (h : (resA st l' fun l => K (oneA l)) = some r) :
    ∃ x v, K x = some r ∧ (results fn a.tmps).run P w = .ok v w ∧ RepA φ (rdH st.H) w I x v := by
  obtain ⟨xs, vs, h1, h2, h3⟩ := res_run ok fn.results.toList l' _ hc h
  have hrun : (results fn a.tmps).run P w = .ok (if h : vs.toArray.size = 1 then vs.toArray[0] else .tuple vs.toArray) w := by
    rw [results_eq, Array.mapM_eq_mapM_toList]
    simp only [Sem.run_bind, Sem.run_map, h2, Result.andThen_ok, Sem.run_pure]
  refine ⟨_, _, h1, hrun, ?_⟩
  match xs, vs, h3 with
  | [], [], h3 => exact mkTup_rep (by simpa using h3)
  | [x], [v], h3 => exact h3.2 0 x v rfl rfl
  | x :: y :: xs, [v], h3 => have := h3.1; simp at this
  | [x], v :: u :: vs, h3 => have := h3.1; simp at this
  | x :: y :: xs, v :: u :: vs, h3 =>
    rw [dif_neg (by simp)]
    exact mkTup_rep (by simpa using h3)

theorem start_rep {φ : Phi} {rd : Rd} {w : World} {I : Fz} {args : List AV} {vals : Array Value} (n : Nat) (h : RepL φ rd w I args vals.toList) : RepS φ rd w I (start n args) (vals ++ Array.replicate (n - vals.size) undef) := by
  unfold RepS start
  have hl : vals.size = args.length := by simpa using h.1
  rw [Array.toList_append, ← hl]
  refine h.append ⟨by simp, fun i x v hx hv => ?_⟩
  rw [List.getElem?_replicate] at hx
  rw [Array.toList_replicate, List.getElem?_replicate] at hv
  rw [hl] at hv hx
  by_cases h : i < n - args.length
  · rw [if_pos h] at hx hv; cases hx; cases hv; exact .undef
  · rw [if_neg h] at hx; cases hx

/-- The code that is reckoned is the program's. -/
structure EnvOk (P : Program) (E : Env) : Prop where
  code : ∀ f fi, E.code f = some fi → ∃ live rs, compF P f live rs = some fi
  sum : ∀ g args H v H', E.has g = true → E.cond g args H = true → E.sum g args H = some (v, H') → callable P g = true ∧ ∀ (φ : Phi) (w : World) (I : Fz) (vals : Array Value), RepL φ (rdH H) w I args vals.toList → Sim φ I (rdH H) w → Calls P g vals w (Comes' φ I H w v H')

def RfOk (P : Program) (rf : Nat → List AV → Heap → Option (AV × Heap)) : Prop :=
  ∀ g args H v H', rf g args H = some (v, H') → callable P g = true ∧ ∀ (φ : Phi) (w : World) (I : Fz) (vals : Array Value), RepL φ (rdH H) w I args vals.toList → Sim φ I (rdH H) w → Calls P g vals w (Comes' φ I H w v H')

theorem pureOf_gets {rf : Nat → List AV → Heap → Option (AV × Heap)} (hrf : RfOk P rf) {g : Nat} {xs : List Tree} {y : Tree} (h : pureOf rf g xs = some y) :
    callable P g = true ∧ ∀ (w : World) (I : Fz) (vals : Array Value), RepTL w I xs vals.toList → FzOk I w → Calls P g vals w (Gets w I y) := by
  simp only [pureOf] at h
  cases hp : rf g (xs.map .t) [] with
  | none => simp [hp] at h
  | some p =>
    obtain ⟨v, H'⟩ := p
    simp only [hp, Option.bind_some] at h
    obtain ⟨hc, hcall⟩ := hrf g _ [] v H' hp
    refine ⟨hc, fun w I vals hr hI => ?_⟩
    have dead : ∀ b : Nat, rdH [] b = .unborn := fun b => rdH_unborn [] b (by simp)
    have nw : ¬ HasW (rdH []) := fun ⟨b, G, hb⟩ => by rw [dead b] at hb; cases hb
    have sm : Sim (fun _ => none) I (rdH []) w := ⟨fun b hb => (by rw [dead b] at hb; cases hb), fun b b' g C C' hb => (by rw [dead b] at hb; cases hb), hI.old, ⟨hI.psI, hI.psinj, fun b g C id hb => (by rw [dead b] at hb; cases hb), fun b G hb => (by rw [dead b] at hb; cases hb)⟩⟩
    refine Calls.mono (hcall (fun _ => none) w I vals (RepL.ofT hr) sm) fun e w' he => ?_
    obtain ⟨val, φ', I', rfl, h1, h2, h3⟩ := he
    have hps : I'.ps = I.ps := by
      funext id
      cases hq : I.ps id with
      | some g => exact h3.wx.psub id g hq
      | none =>
        cases hq' : I'.ps id with
        | none => rfl
        | some g =>
          rcases h3.wx.psnew id g hq' with h | ⟨h, _⟩
          · rw [hq] at h; cases h
          · exact (nw h).elim
    refine ⟨val, ⟨fun g => I' g ∨ ∃ b C, (rdH H' b).mut = true ∧ φ' b = some (g, C), I'.ps⟩, rfl, ?_, fun b hb => .inl (h3.sub b hb), fun b hb => ?_, fun b hb => ?_, ⟨fun b hb => ?_, h3.size, h3.os, h3.tape, h3.output⟩, hps⟩
    · exact toTree_rep h2 (I2 := ⟨fun g => I' g ∨ ∃ b C, (rdH H' b).mut = true ∧ φ' b = some (g, C), I'.ps⟩) ⟨fun g hg => .inl hg, fun _ _ h => h⟩ (fun b g C _ hm hφ => .inr ⟨b, C, hm, hφ⟩) depth depth (Nat.le_refl _) v y val h h1
    · rcases hb with hb | ⟨b', C, hm, hφ⟩
      · rcases h3.inew b hb with h | h | ⟨b0, C0, hm0, _⟩
        · exact .inl h
        · exact .inr h
        · rw [dead b0] at hm0; cases hm0
      · rcases h3.mnew b' b C hm hφ with h | ⟨b0, C0, hm0, _⟩
        · exact .inr h
        · rw [dead b0] at hm0; cases hm0
    · rcases hb with hb | ⟨b', C, hm, hφ⟩
      · exact h2.old b hb
      · exact h2.lt (HObj.mut_alive hm) hφ
    · exact h3.frame b hb (fun b0 C hm _ => by rw [dead b0] at hm; cases hm) fun h => (nw h).elim

theorem wldOf_gets {rf : Nat → List AV → Heap → Option (AV × Heap)} (hrf : RfOk P rf) {g : Nat} {xs : List Tree} {G G' : World'} {y : Tree} (h : wldOf rf g xs G = some (y, G')) :
    callable P g = true ∧ ∀ (w : World) (I : Fz) (vals : Array Value), RepTL w I xs vals.toList → FzOk I w → WldOk w I G → Calls P g vals w (GetsW w I y G') := by
  simp only [wldOf] at h
  cases hp : rf g (xs.map .t) [.wld G] with
  | none => simp [hp] at h
  | some p =>
    obtain ⟨v, H'⟩ := p
    simp only [hp, Option.bind_some] at h
    obtain ⟨G1, hG1, h⟩ := withW_some h
    cases hy : toTree (fun _ => true) (rdH H') depth v with
    | none => simp [hy] at h
    | some y1 =>
      simp only [hy, Option.bind_some] at h
      cases h
      obtain ⟨hc, hcall⟩ := hrf g _ _ v H' hp
      refine ⟨hc, fun w I vals hr hI hW => ?_⟩
      have at0 : rdH [HObj.wld G] 0 = .wld G := rfl
      have atn : ∀ b : Nat, b ≠ 0 → rdH [HObj.wld G] b = .unborn := fun b hb => rdH_unborn _ b (by simp; omega)
      have nal : ∀ b, (rdH [HObj.wld G] b).alive = true → False := fun b hb => by
        by_cases h : b = 0
        · subst h; rw [at0] at hb; cases hb
        · rw [atn b h] at hb; cases hb
      have sm : Sim (fun _ => none) I (rdH [.wld G]) w := ⟨fun b hb => (nal b hb).elim, fun b b' g C C' hb => (nal b (HObj.mut_alive hb)).elim, hI.old, ⟨hI.psI, hI.psinj, fun b g C id hb => (nal b (HObj.mut_alive hb)).elim, fun b G0 hb => by
        by_cases h : b = 0
        · subst h; rw [at0] at hb; cases hb; exact ⟨rfl, hW⟩
        · rw [atn b h] at hb; cases hb⟩⟩
      refine Calls.mono (hcall (fun _ => none) w I vals (RepL.ofT hr) sm) fun e w' he => ?_
      obtain ⟨val, φ', I', rfl, h1, h2, h3⟩ := he
      have le : I'.Le ⟨fun g => I' g ∨ ∃ b C, (rdH H' b).mut = true ∧ φ' b = some (g, C), I'.ps⟩ := ⟨fun g hg => .inl hg, fun _ _ h => h⟩
      refine ⟨val, ⟨fun g => I' g ∨ ∃ b C, (rdH H' b).mut = true ∧ φ' b = some (g, C), I'.ps⟩, rfl, ?_, ⟨⟨fun b hb => ?_, fun id g hg => ?_, h2.wok.psinj⟩, ⟨fun id o ho => ?_, (h2.wok.wld 0 _ hG1).2.2⟩, fun b hb => .inl (h3.sub b hb), fun b hb => ?_, h3.wx.psub, fun id g hg => (h3.wx.psnew id g hg).imp_right (·.2), fun b hb hn => ?_, h3.size, h3.os, h3.tape, h3.output⟩⟩
      · exact toTree_rep h2 le (fun b g C _ hm hφ => .inr ⟨b, C, hm, hφ⟩) depth depth (Nat.le_refl _) v y val hy h1
      · rcases hb with hb | ⟨b', C, hm, hφ⟩
        · exact h2.old b hb
        · exact h2.lt (HObj.mut_alive hm) hφ
      · obtain ⟨k1, k2⟩ := h2.wok.psI id g hg
        refine ⟨fun h => ?_, k2⟩
        rcases h with h | ⟨b, C, hm, hφ⟩
        · exact k1 h
        · exact h2.wok.psM b g C id hm hφ hg
      · obtain ⟨g, k1, k2⟩ := (h2.wok.wld 0 _ hG1).2.1 id o ho
        refine ⟨g, k1, ?_⟩
        have mono : ∀ {x : Tree} {v : Value}, RepT w' I' x v → RepT w' ⟨fun g => I' g ∨ ∃ b C, (rdH H' b).mut = true ∧ φ' b = some (g, C), I'.ps⟩ x v := fun h => h.mono le fun _ _ _ => rfl
        cases k2 with
        | dead => exact .dead
        | cells cs arr T h hl hc =>
          refine .cells cs arr T h hl fun i x hx => ?_
          obtain ⟨q1, v, q2, q3⟩ := hc i x hx
          exact ⟨q1, v, q2, mono q3⟩
        | map es ms n h hl hc => exact .map es ms n h hl fun i p m hp hm => ⟨mono (hc i p m hp hm).1, mono (hc i p m hp hm).2⟩
      · rcases hb with hb | ⟨b', C, hm, hφ⟩
        · rcases h3.inew b hb with h | h | ⟨b0, C0, hm0, _⟩
          · exact .inl h
          · exact .inr h
          · exact (nal b0 (HObj.mut_alive hm0)).elim
        · rcases h3.mnew b' b C hm hφ with h | ⟨b0, C0, hm0, _⟩
          · exact .inr h
          · exact (nal b0 (HObj.mut_alive hm0)).elim
      · exact h3.frame b hb (fun b0 C hm _ => (nal b0 (HObj.mut_alive hm)).elim) fun _ => hn

theorem noWs_mem : ∀ {l : List Tree}, noWs l = true → ∀ x, x ∈ l → noW x = true
  | [], _, x, h => by simp at h
  | y :: l, h, x, hx => by
    simp only [noWs, Bool.and_eq_true] at h
    rcases List.mem_cons.1 hx with e | e
    · subst e; exact h.1
    · exact noWs_mem h.2 x e

theorem noW_cells {x y : Tree} (h : noW x = true) (hy : y ∈ x.cells) : noW y = true := by
  cases x with
  | agg cs => simp only [noW] at h; exact noWs_mem h y hy
  | _ => simp only [Tree.cells, List.mem_singleton] at hy; subst hy; exact h

/-- What does not lead to the world does not hang on where it lies. -/
theorem RepT.noW {w : World} {I : Fz} {x : Tree} {v : Value} (h : RepT w I x v) (ps : Nat → Option Nat) : Dw.noW x = true → RepT w ⟨I.fz, ps⟩ x v := by
  induction h with
  | bool b => intro _; exact .bool b
  | int k n => intro _; exact .int k n
  | str s => intro _; exact .str s
  | agg cs vs hl hf _ ih => intro hn; simp only [Dw.noW] at hn; exact .agg cs vs hl hf fun i x v hx hv => ih i x v hx hv (noWs_mem hn x (List.mem_of_getElem? hx))
  | slc0 a c => intro _; exact .slc0 a c
  | slc es b o c k val hb hc hk hf hcell _ ih => intro hn; simp only [Dw.noW] at hn; exact .slc es b o c k val hb hc hk hf hcell fun i j x y hx hy => ih i j x y hx hy (noW_cells (noWs_mem hn x (List.mem_of_getElem? hx)) (List.mem_of_getElem? hy))
  | ptr e j b o val hb hf hcell _ ih => intro hn; simp only [Dw.noW] at hn; exact .ptr e j b o val hb hf hcell fun i y hy => ih i y hy (noW_cells hn (List.mem_of_getElem? hy))
  | nilp => intro _; exact .nilp
  | fn f a c va vc ha hc _ _ ih1 ih2 => intro hn; simp only [Dw.noW, Bool.and_eq_true] at hn; exact .fn f a c va vc ha hc (fun i x v hx hv => ih1 i x v hx hv (noWs_mem hn.1 x (List.mem_of_getElem? hx))) fun i x v hx hv => ih2 i x v hx hv (noWs_mem hn.2 x (List.mem_of_getElem? hx))
  | nilfn => intro _; exact .nilfn
  | tup cs vs hl _ ih => intro hn; simp only [Dw.noW] at hn; exact .tup cs vs hl fun i x v hx hv => ih i x v hx hv (noWs_mem hn x (List.mem_of_getElem? hx))
  | wp id off g h => intro hn; simp [Dw.noW] at hn
  | wm id g h => intro hn; simp [Dw.noW] at hn
  | nilm => intro _; exact .nilm
  | ifc t x v _ ih => intro hn; simp only [Dw.noW] at hn; exact .ifc t x v (ih hn)
  | nili => intro _; exact .nili

theorem rootOf_gets {rf : Nat → List AV → Heap → Option (AV × Heap)} (hrf : RfOk P rf) {g : Nat} {xs : List Tree} {y : Tree} (h : rootOf rf g xs = some y) :
    callable P g = true ∧ ∀ (w : World) (I : Fz) (vals : Array Value), RepTL w I xs vals.toList → FzOk I w → Calls P g vals w (Gets w I y) := by
  unfold rootOf at h
  obtain ⟨hn, h⟩ := bif_some h
  cases hp : wldOf rf g xs [] with
  | none => simp [hp] at h
  | some p =>
    obtain ⟨y1, G'⟩ := p
    simp only [hp, Option.bind_some] at h
    obtain ⟨hy, h⟩ := bif_some h
    cases h
    obtain ⟨hc, hcall⟩ := wldOf_gets hrf hp
    refine ⟨hc, fun w I vals hr hI => ?_⟩
    have hr0 : RepTL w ⟨I.fz, fun _ => none⟩ xs vals.toList := ⟨hr.1, fun i x v hx hv => (hr.2 i x v hx hv).noW _ (noWs_mem hn x (List.mem_of_getElem? hx))⟩
    refine Calls.mono (hcall w ⟨I.fz, fun _ => none⟩ vals hr0 ⟨hI.old, fun id g h => (by cases h), fun id id' g h => (by cases h)⟩ ⟨fun id o ho => by simp at ho, fun id g h => (by cases h)⟩) fun e w' he => ?_
    obtain ⟨v, I', rfl, h1, st⟩ := he
    exact ⟨v, ⟨I'.fz, I.ps⟩, rfl, h1.noW _ hy, st.sub, st.inew, st.fz.old, ⟨fun g hg => st.frame g hg fun id h => (by cases h), st.size, st.os, st.tape, st.output⟩, rfl⟩

theorem pureOf_ok {root : Nat → Bool} {rf : Nat → List AV → Heap → Option (AV × Heap)} (hrf : RfOk P rf) : FnsOk P ⟨pureE root rf, rf, fun _ _ _ => true, wldOf rf⟩ where
  rf := fun g args H v H' _ h => hrf g args H v H' h
  pf := by
    intro g xs y h
    have h : pureE root rf g xs = some y := h
    unfold pureE at h
    cases hb : root g with
    | true => rw [hb, cond_true] at h; exact rootOf_gets hrf h
    | false => rw [hb, cond_false] at h; exact pureOf_gets hrf h
  wf := fun g xs G y G' h => wldOf_gets hrf h

theorem rf_ok {E : Env} (hE : EnvOk P E) {pf : Nat → List Tree → Option Tree} {rf : Nat → List AV → Heap → Option (AV × Heap)} {wf : Nat → List Tree → World' → Option (Tree × World')} (h : FnsOk P ⟨pf, rf, fun _ _ _ => true, wf⟩) : FnsOk P ⟨pf, E.rf rf, E.ok, wf⟩ where
  pf := h.pf
  rf := fun g args H v H' ho hc => by
    have ho : (bif E.has g then E.cond g args H else true) = true := ho
    have hc : (bif E.has g then E.sum g args H else rf g args H) = some (v, H') := hc
    cases hb : E.has g with
    | true => rw [hb, cond_true] at hc ho; exact hE.sum g args H v H' hb ho hc
    | false => rw [hb, cond_false] at hc; exact h.rf g args H v H' rfl hc
  wf := h.wf

theorem runFn_sound {E : Env} (hE : EnvOk P E) (hm : P.follows .mixedOrders = true) : ∀ k, FnsOk P ⟨pureE E.root (runFn E k), runFn E k, fun _ _ _ => true, wldOf (runFn E k)⟩
  | 0 => pureOf_ok fun g args H v H' h => by simp [runFn] at h
  | k + 1 => pureOf_ok fun f args H v H' h => by
    have ih := rf_ok hE (runFn_sound hE hm k)
    simp only [runFn] at h
    split at h
    · obtain ⟨hb, h⟩ := bif_some h
      simp only [Bool.and_eq_true] at hb
      exact hE.sum f args H v H' hb.1 hb.2 h
    · rename_i fi hfi
      obtain ⟨live, rs, hcf⟩ := hE.code f fi hfi
      unfold compF at hcf
      split at hcf
      · cases hcf
      · rename_i fn hfn
        split at hcf
        · cases hcf
        · rename_i c hbody
          obtain ⟨hcall, hcf⟩ := bif_some hcf
          split at hcf
          · rename_i ib ir hcomp hres
            cases hcf
            refine ⟨hcall, fun φ w I vals hr sm => ?_⟩
            refine calls_of_wp hfn hbody ?_
            refine evC_sound ih hm (m := H.length) (φ0 := φ) (I0 := I) (rd0 := rdH H) (w0 := w) (fun b hb => ?_) c live [] ib ⟨start fn.ntmps args, H⟩ φ I _ w _ _ hcomp h ⟨start_rep fn.ntmps hr, sm, rfl⟩ (.refl _ _ _ _) fun e st' φ' I' a' w' k1 k2 k3 => ?_
            · rcases Nat.lt_or_ge b H.length with h | h
              · exact h
              · exact absurd (rdH_unborn H b h) hb
            · have fin : (resA st' ir fun l => some (oneA l, st'.H)) = some (v, H') → ∃ val, (results fn a'.tmps).run P w' = .ok val w' ∧ Comes' φ I H w v H' (.returned val) w' := by
                intro hk
                obtain ⟨x, val, h1, h2, h3⟩ := results_run (K := fun x => some (x, st'.H)) k2 hres hk
                cases h1
                exact ⟨val, h2, val, φ', I', rfl, h3, k2.sim, k3⟩
              cases e with
              | normal => exact ⟨k2.defers, fin k1⟩
              | ret => exact ⟨k2.defers, fin k1⟩
              | exit i => cases k1
          · cases hcf

/-- What is reckoned of a call is what the model does. -/
theorem evP_calls {E : Env} (hE : EnvOk P E) (hm : P.follows .mixedOrders = true) {k g : Nat} {xs : List Tree} {y : Tree} (h : evP E k g xs = some y) {w : World} {I : Fz} {vals : Array Value} (hr : RepTL w I xs vals.toList) (hI : FzOk I w) :
    Calls P g vals w (Gets w I y) := ((runFn_sound hE hm k).pf g xs y h).2 w I vals hr hI

end

end Go.Proofs.Dw
end

/-
  THE ABSTRACT WALK, 31: a program's functions as a table.
-/
section
namespace Go.Proofs.Dw

inductive Tab where
  | nil
  | leaf (k : Nat) (fi : FInfo)
  | root (k : Nat) (fi : FInfo)
  | sum (k : Nat) (C : List AV → Heap → Bool) (S : List AV → Heap → Option (AV × Heap))
  | both (k : Nat) (fi : FInfo) (S : List AV → Heap → Option (AV × Heap))
  | node (k : Nat) (l r : Tab)

def Tab.get : Tab → Nat → Option FInfo
  | .nil, _ => none
  | .leaf k fi, f => bif Nat.beq f k then some fi else none
  | .root k fi, f => bif Nat.beq f k then some fi else none
  | .sum _ _ _, _ => none
  | .both k fi _, f => bif Nat.beq f k then some fi else none
  | .node k l r, f => bif Nat.blt f k then l.get f else r.get f

def Tab.has : Tab → Nat → Bool
  | .nil, _ => false
  | .leaf _ _, _ => false
  | .root _ _, _ => false
  | .sum k _ _, f => Nat.beq f k
  | .both k _ _, f => Nat.beq f k
  | .node k l r, f => bif Nat.blt f k then l.has f else r.has f

def Tab.isRoot : Tab → Nat → Bool
  | .nil, _ => false
  | .leaf _ _, _ => false
  | .root k _, f => Nat.beq f k
  | .sum _ _ _, _ => false
  | .both _ _ _, _ => false
  | .node k l r, f => bif Nat.blt f k then l.isRoot f else r.isRoot f

def Tab.sumOf : Tab → Nat → List AV → Heap → Option (AV × Heap)
  | .nil, _, _, _ => none
  | .leaf _ _, _, _, _ => none
  | .root _ _, _, _, _ => none
  | .sum k _ S, f, args, H => bif Nat.beq f k then S args H else none
  | .both k _ S, f, args, H => bif Nat.beq f k then S args H else none
  | .node k l r, f, args, H => bif Nat.blt f k then l.sumOf f args H else r.sumOf f args H

def Tab.condOf : Tab → Nat → List AV → Heap → Bool
  | .nil, _, _, _ => false
  | .leaf _ _, _, _, _ => false
  | .root _ _, _, _, _ => false
  | .sum k C _, f, args, H => bif Nat.beq f k then C args H else false
  | .both k _ _, f, _, _ => Nat.beq f k
  | .node k l r, f, args, H => bif Nat.blt f k then l.condOf f args H else r.condOf f args H

def Tab.env (t : Tab) : Env := ⟨t.get, t.has, t.isRoot, t.condOf, t.sumOf⟩

/-- A summary is what the model does. -/
def SumOk (P : Program) (g : Nat) (C : List AV → Heap → Bool) (S : List AV → Heap → Option (AV × Heap)) : Prop :=
  ∀ args H v H', C args H = true → S args H = some (v, H') → callable P g = true ∧ ∀ (φ : Phi) (w : World) (I : Fz) (vals : Array Value), RepL φ (rdH H) w I args vals.toList → Sim φ I (rdH H) w → Calls P g vals w (Comes' φ I H w v H')

def Tab.Ok (P : Program) : Tab → Prop
  | .nil => True
  | .leaf k fi => ∃ live rs, compF P k live rs = some fi
  | .root k fi => ∃ live rs, compF P k live rs = some fi
  | .sum k C S => SumOk P k C S
  | .both k fi S => (∃ live rs, compF P k live rs = some fi) ∧ SumOk P k (fun _ _ => true) S
  | .node _ l r => l.Ok P ∧ r.Ok P

theorem Tab.codeOk {P : Program} : ∀ {t : Tab}, t.Ok P → ∀ f fi, t.get f = some fi → ∃ live rs, compF P f live rs = some fi
  | .nil, _, f, fi, h => by cases h
  | .sum _ _ _, _, f, fi, h => by cases h
  | .leaf k fi', hk, f, fi, h => by
    have h : (bif Nat.beq f k then some fi' else none) = some fi := h
    cases hb : Nat.beq f k with
    | true =>
      rw [hb, cond_true] at h
      cases h
      have e := Nat.eq_of_beq_eq_true hb
      rw [e]
      exact hk
    | false => rw [hb] at h; cases h
  | .root k fi', hk, f, fi, h => by
    have h : (bif Nat.beq f k then some fi' else none) = some fi := h
    cases hb : Nat.beq f k with
    | true =>
      rw [hb, cond_true] at h
      cases h
      have e := Nat.eq_of_beq_eq_true hb
      rw [e]
      exact hk
    | false => rw [hb] at h; cases h
  | .both k fi' _, ⟨hk, _⟩, f, fi, h => by
    have h : (bif Nat.beq f k then some fi' else none) = some fi := h
    cases hb : Nat.beq f k with
    | true =>
      rw [hb, cond_true] at h
      cases h
      have e := Nat.eq_of_beq_eq_true hb
      rw [e]
      exact hk
    | false => rw [hb] at h; cases h
  | .node k l r, ⟨hl, hr⟩, f, fi, h => by
    have h : (bif Nat.blt f k then l.get f else r.get f) = some fi := h
    cases hb : Nat.blt f k with
    | true => rw [hb] at h; exact Tab.codeOk hl f fi h
    | false => rw [hb] at h; exact Tab.codeOk hr f fi h

theorem Tab.sumsOk {P : Program} : ∀ {t : Tab}, t.Ok P → ∀ f, SumOk P f (t.condOf f) (t.sumOf f)
  | .nil, _, f => fun _ _ _ _ _ h => by cases h
  | .leaf _ _, _, f => fun _ _ _ _ _ h => by cases h
  | .root _ _, _, f => fun _ _ _ _ _ h => by cases h
  | .sum k C S, hk, f => fun args H v H' h0 h => by
    obtain ⟨h1, h2⟩ := bif_some h
    have h0 : (bif Nat.beq f k then C args H else false) = true := h0
    rw [h1, cond_true] at h0
    rw [Nat.eq_of_beq_eq_true h1]
    exact hk args H v H' h0 h2
  | .both k fi S, ⟨_, hk⟩, f => fun args H v H' h0 h => by
    obtain ⟨h1, h2⟩ := bif_some h
    rw [Nat.eq_of_beq_eq_true h1]
    exact hk args H v H' rfl h2
  | .node k l r, ⟨hl, hr⟩, f => fun args H v H' h0 h => by
    have h : (bif Nat.blt f k then l.sumOf f args H else r.sumOf f args H) = some (v, H') := h
    have h0 : (bif Nat.blt f k then l.condOf f args H else r.condOf f args H) = true := h0
    cases hb : Nat.blt f k with
    | true => rw [hb] at h h0; exact Tab.sumsOk hl f args H v H' h0 h
    | false => rw [hb] at h h0; exact Tab.sumsOk hr f args H v H' h0 h

theorem Tab.envOk {P : Program} {t : Tab} (h : t.Ok P) : EnvOk P t.env where
  code := Tab.codeOk h
  sum := fun g args H v H' _ h0 hs => Tab.sumsOk h g args H v H' h0 hs

/-- What a call comes to in a table's reckoning, with whatever fuel, is a summary. -/
theorem run_sum {P : Program} {t : Tab} (h : t.Ok P) (hm : P.follows .mixedOrders = true) {g : Nat} {C : List AV → Heap → Bool} {S : List AV → Heap → Option (AV × Heap)} (hS : ∀ args H r, C args H = true → S args H = some r → ∃ k, runFn t.env k g args H = some r) : SumOk P g C S :=
  fun args H v H' h0 hs => by
    obtain ⟨k, hk⟩ := hS args H (v, H') h0 hs
    exact (runFn_sound (Tab.envOk h) hm k).rf g args H v H' rfl hk

end Go.Proofs.Dw
end

/-
  THE ABSTRACT WALK, 31: panics. Where code panics: with what value, and what heap it leaves. Beside the reckoning of what returns: it is
  asked first whether an operation can be done; if not, whether it panics.
-/
section
namespace Go.Proofs.Dw

/-- Calls that panic: 'px': of trees; 'pw': that are handed the world. -/
structure PFns where
  px : Nat → List Tree → Option Tree
  pw : Nat → List Tree → World' → Option (Tree × World')

def xPure (X : PFns) (g : Nat) (args : List AV) (rd : Rd) : Option (Tree × Delta) :=
  treesOf args rd fun xs wr => (X.px g xs).bind fun v => some (v, ⟨wr, []⟩)

def xWorld (X : PFns) (g : Nat) (args : List AV) (rd : Rd) : Option (Tree × Delta) :=
  treesOf args rd fun xs wr => withW rd fun G => (X.pw g xs G).bind fun p => some (p.1, ⟨wr ++ [(0, .wld p.2)], []⟩)

/-- With what an operation panics, and what it has done to the heap. -/
def xOp (X : PFns) (o : IOp) (ts : List AV) (rd : Rd) : Option (Tree × Delta) :=
  match o with
  | .pan x => match ev ts x with
    | .t (.ifc t v) => some (.ifc t v, .none)
    | _ => none
  | .call false g _ args => xPure X g (evs ts args) rd
  | .callv x _ args => match ev ts x with
    | .t (.fn g a b) => xPure X g (a.map .t ++ evs ts args ++ b.map .t) rd
    | .fn g a b => xPure X g (a ++ evs ts args ++ b) rd
    | _ => none
  | .callw g _ args => xWorld X g (evs ts args) rd
  | .callvw x _ args => match ev ts x with
    | .t (.fn g a b) => xWorld X g (a.map .t ++ evs ts args ++ b.map .t) rd
    | .fn g a b => xWorld X g (a ++ evs ts args ++ b) rd
    | _ => none
  | _ => none

def xOper (X : PFns) (o : IOper) (st : St) : Option (Tree × Heap) :=
  match (match o.g with
    | none => xOp X o.op st.ts (rdH st.H)
    | some (g, want) => match slot st.ts g with
      | .t (.bool b) => (match b, want with
        | true, true => xOp X o.op st.ts (rdH st.H)
        | false, false => xOp X o.op st.ts (rdH st.H)
        | _, _ => none)
      | _ => none) with
  | some (v, d) => bif belowN st.H.length d.wr then some (v, d.to st.H) else none
  | none => none

section
variable {α : Type}

def evOpsX (F : Fns) (X : PFns) : List IOper → St → (St → Option α) → (Tree → St → Option α) → Option α
  | [], st, K, _ => K st
  | o :: r, st, K, P => match evOper F o st some with
    | some st' => evOpsX F X r st' K P
    | none => match xOper X o st with
      | some (v, H) => P v ⟨st.ts, H⟩
      | none => none

/-- In a region that draws its order: the operation that panics waits for all ahead of it; those behind it wait for it, but for such as only make a variable. -/
def allBits (m : Nat) : Nat → Bool
  | 0 => true
  | k + 1 => Nat.testBit m k && allBits m k

def isNew (o : IOper) : Bool :=
  match o.g, o.op with
  | none, .new _ _ => true
  | _, _ => false

def laterOk (n : Nat) : List Nat → List IOper → Bool
  | m :: bef, o :: r => (Nat.testBit m n || isNew o) && laterOk n bef r
  | _, _ => true

/-- The slots of what is made behind. -/
def freeDsts (n : Nat) : List Nat → List IOper → List Nat
  | m :: bef, o :: r => (match Nat.testBit m n, o.dst with
    | false, some d => d :: freeDsts n bef r
    | _, _ => freeDsts n bef r)
  | _, _ => []

/-- They are not known. -/
def forgetL : List Nat → List AV → List AV
  | [], ts => ts
  | d :: r, ts => forgetL r (setN ts d .any)

/-- Nothing ahead fills them. -/
def dstOff (D : List Nat) : List IOper → Bool
  | [] => true
  | o :: r => (match o.dst with
    | some d => !memN D d
    | none => true) && dstOff D r

/-- Where a region stops. -/
def dStop (F : Fns) : List IOper → St → Nat → Option Nat
  | [], _, _ => none
  | o :: r, st, k => match evOperD F o st fun _ st' => some st' with
    | some st' => dStop F r st' (k + 1)
    | none => some k

def evDopsX (F : Fns) (X : PFns) (bef : List Nat) (ops : List IOper) (st : St) (K : St → Option α) (P : Tree → St → Option α) : Option α :=
  match evDops F bef ops [] st some with
  | some st' => K st'
  | none => match dStop F ops st 0 with
    | none => none
    | some p => match nth ops p, nth bef p with
      | some o, some m => bif allBits m p && (laterOk p (bef.drop (p + 1)) (ops.drop (p + 1)) && dstOff (freeDsts p (bef.drop (p + 1)) (ops.drop (p + 1))) (ops.take p)) then
          (match evDops F (bef.take p) (ops.take p) [] ⟨forgetL (freeDsts p (bef.drop (p + 1)) (ops.drop (p + 1))) st.ts, st.H⟩ some with
           | some st' => (match xOper X o st' with
             | some (v, H) => P v ⟨st'.ts, H⟩
             | none => none)
           | none => none)
        else none
      | _, _ => none

def evCX (F : Fns) (X : PFns) (n m : Nat) : ICode → St → (IExit → St → Option α) → (Tree → St → Option α) → Option α
  | .skip, st, K, _ => K .normal st
  | .reg ops, st, K, P => evOpsX F X ops st (fun st' => K .normal st') P
  | .dreg ops bef, st, K, P => evDopsX F X bef ops st (fun st' => K .normal st') P
  | .seq a b, st, K, P => evCX F X n m a st (fun e st' => match e with
    | .normal => evCX F X n m b st' K P
    | .exit id => K (.exit id) st'
    | .ret => K .ret st') P
  | .cond c a b, st, K, P => asB (ev st.ts c) fun t => match c with
    | .s i => bif t then evCX F X n m a ⟨setB st.ts i true, st.H⟩ K P else evCX F X n m b ⟨setB st.ts i false, st.H⟩ K P
    | _ => bif t then evCX F X n m a st K P else evCX F X n m b st K P
  | .block id b, st, K, P => evCX F X n m b st (fun e st' => match e with
    | .normal => K .normal st'
    | .exit i => bif Nat.beq i id then K .normal st' else K (.exit i) st'
    | .ret => K .ret st') P
  | .loop live b, st, K, P => norm m live st fun st' => evLoop m live (fun s K' => evCX F X n m b s K' P) n st' K
  | .exit id, st, K, _ => K (.exit id) st
  | .ret, st, K, _ => K .ret st

end

def pxOf (rx : Nat → List AV → Heap → Option (Tree × Heap)) (g : Nat) (xs : List Tree) : Option Tree :=
  (rx g (xs.map .t) []).bind fun r => some r.1

def pwOf (rx : Nat → List AV → Heap → Option (Tree × Heap)) (g : Nat) (xs : List Tree) (G : World') : Option (Tree × World') :=
  (rx g (xs.map .t) [.wld G]).bind fun r => withW (rdH r.2) fun G' => some (r.1, G')

def prOf (rx : Nat → List AV → Heap → Option (Tree × Heap)) (g : Nat) (xs : List Tree) : Option Tree :=
  bif noWs xs then (pwOf rx g xs []).bind fun r => bif noW r.1 then some r.1 else none else none

def pxE (root : Nat → Bool) (rx : Nat → List AV → Heap → Option (Tree × Heap)) (g : Nat) (xs : List Tree) : Option Tree :=
  bif root g then prOf rx g xs else pxOf rx g xs

/-- A call that panics: its value, and the heap it leaves. -/
def runX (E : Env) : Nat → Nat → List AV → Heap → Option (Tree × Heap)
  | 0, _, _, _ => none
  | k + 1, f, args, H => match E.code f with
    | none => none
    | some fi => evCX ⟨pureE E.root (runFn E k), E.rf (runFn E k), E.ok, wldOf (runFn E k)⟩ ⟨pxE E.root (runX E k), pwOf (runX E k)⟩ k H.length fi.body ⟨start fi.ntmps args, H⟩ (fun _ _ => none) fun v st => some (v, st.H)

end Go.Proofs.Dw
end
