/-
  SIMPLE, specs 17: the type of a term, the program's.
-/
import Derived.Test.YtkfcancichadgaaSaTy
import Derived.Test.YtkfcancichadgaaSaS14
import Derived.Test.YtkfcancichadgaaSaE6
import Derived.Test.YtkfcancichadgaaSaE7
set_option linter.unusedSimpArgs false
set_option linter.unusedVariables false
namespace Go.Proofs.Aw.Sa
open Go.Proofs

theorem s61r (l : List Ty) : ∀ n, 1 ≤ n → runFn E n 61 [.t (.slc (encTs l))] [] = some (.clip (encTs l), []) := by
  intro n hn
  obtain ⟨n, rfl⟩ : ∃ k, n = k + 1 := ⟨n - 1, by omega⟩
  have e : List.drop (Int.toNat 0) (List.take (Int.toNat ((encTs l).length : Nat)) (encTs l)) = encTs l := by
    rw [Int.toNat_natCast, List.take_length]; rfl
  rw [runFn_evR, r61r, e]
  refine step_t (by simp) (step_t (firstT l) rfl)

def outTy (r : Ty ⊕ List Nat) (j : Ty) : Tree :=
  match r with
  | .inl u => .tup [encT u, .slc [], .bool true]
  | .inr p => .tup [encT j, .slc (pathT p), .bool false]

def toSum (r : Option Ty) : Ty ⊕ List Nat :=
  match r with
  | some v => .inl v
  | none => .inr []

theorem tup3Ok (u : Ty) (p : List Tree) (b : Bool) : Sh.ok (Sh.tup [shT, Sh.slc, Sh.bool]) (.tup [encT u, .slc p, .bool b]) = true := by
  simp [okT_sh]

/-- How a node's type is told once its parts' types are known. -/
def fin62 (n : Nat) (ctx : List Ty) (o m : Int) (s : List UInt8) (u : List Ty) (l : List Lam) (ts : List Ty) : Option Tree :=
  Option.bind
    (evP (Tab.env tab) n 62 [Tree.slc (encTs ctx), Tree.agg [Tree.int IntKind.i64 o, Tree.int IntKind.i64 m, Tree.str s, Tree.slc (encTs u), Tree.slc (encLs l)], Tree.slc (encTs ts)])
    fun y =>
    bif Sh.ok (Sh.tup [Sh.agg [Sh.str, Sh.slc], Sh.bool]) y then
      some
        (Tree.tup
          [Tree.agg
              [Tree.str (Tree.toStr (List.headD (Tree.cs (List.headD (Tree.tupl y) (Tree.bool false))) (Tree.bool false))),
                Tree.slc (Tree.elems (List.headD (List.tail (Tree.cs (List.headD (Tree.tupl y) (Tree.bool false)))) (Tree.bool false)))],
            Tree.slc [], Tree.bool (Tree.toBool (List.headD (List.tail (Tree.tupl y)) (Tree.bool false)))])
    else none

theorem fin62_eq {n : Nat} {ctx : List Ty} {o m : Int} {s : List UInt8} {u : List Ty} {l : List Lam} {ts : List Ty} {r : Option Ty} {j : Ty}
    (h : evP E n 62 [.slc (encTs ctx), encL (.mk o m (.mk s u) l), .slc (encTs ts)] = some (outR r j)) :
    fin62 n ctx o m s u l ts = some (outTy (toSum r) j) := by
  rw [encL] at h
  unfold fin62
  cases r with
  | some v =>
    refine step_b h (step_t (by simp [outR, okT_sh]) ?_)
    simp only [outR, tupl_tup, List.headD_cons, List.tail_cons, toBool_bool]
    rw [lookT]
    rfl
  | none =>
    refine step_b h (step_t (by simp [outR, okT_sh]) ?_)
    simp only [outR, tupl_tup, List.headD_cons, List.tail_cons, toBool_bool]
    rw [lookT]
    rfl

/-- The loop over the parts gives their types, or ends at the first that has none. -/
def outTs (F : List Ty → Option Tree) (us : List Ty) (r : List Ty ⊕ List Nat) : Option Tree :=
  match r with
  | .inl vs => F (us ++ vs)
  | .inr p => some (.tup [encT tyZero, .slc (pathT p), .bool false])

theorem encTs_app (a b : List Ty) : encTs (a ++ b) = encTs a ++ encTs b := by simp [encTs_map]

mutual
theorem s40 : ∀ (t : Lam) (ctx : List Ty), shaped t = true → CtxOk ctx → ctx.length + sizeL t ≤ 1000000 → sizeL t ≤ 100000 →
    ∃ c j, Ev E c 40 [.slc (encTs ctx), encL t] (outTy (typed ctx t) j)
  | .mk o m (.mk s u) l, ctx, hs, hc, hcl, hz => by
    have q := shaped_eq hs
    rw [sizeL_mk] at hcl hz
    have hll := len_sizeLs l
    have htop : m ≤ 1000000 := by
      have := q.hi
      unfold topN at this
      split at this
      · omega
      · split at this <;> omega
    -- the last step
    have last : ∀ ts, typeds (if o = 2 then ctx ++ [.mk s u] else ctx) 0 l = .inl ts → ∃ c j, ∀ n, c ≤ n → fin62 n ctx o m s u l ts = some (outTy (toSum (ruleT ctx o m (.mk s u) ts)) j) := by
      intro ts hts
      have hc' : CtxOk (if o = 2 then ctx ++ [.mk s u] else ctx) := by
        split
        · rename_i e; exact hc.push (q.lam e)
        · exact hc
      obtain ⟨k1, k2, k3⟩ := typeds_ok l _ 0 q.parts hc' hts
      obtain ⟨c, j, h62⟩ := s62 ctx o m (.mk s u) l ts (by omega) (by rw [k3]; exact q.len) ⟨q.lo, htop⟩ (fun x hx => ⟨k1 x hx, by have := sizeTs_mem hx; omega⟩)
      exact ⟨c, j, fun n hn => fin62_eq (h62 n hn)⟩
    have tail : ∃ c j, ∀ n, c ≤ n → outTs (fin62 n ctx o m s u l) [] (typeds (if o = 2 then ctx ++ [.mk s u] else ctx) 0 l) = some (outTy (typed ctx (.mk o m (.mk s u) l)) j) := by
      unfold typed
      cases hts : typeds (if o = 2 then ctx ++ [.mk s u] else ctx) 0 l with
      | inl ts =>
        obtain ⟨c, j, h⟩ := last ts hts
        refine ⟨c, j, fun n hn => ?_⟩
        simp only [outTs, List.nil_append]
        rw [h n hn]
        cases ruleT ctx o m (.mk s u) ts <;> rfl
      | inr p => exact ⟨0, tyZero, fun n hn => rfl⟩
    obtain ⟨ct, j, tail⟩ := tail
    by_cases c2 : o = 2
    · obtain ⟨c1, h1⟩ := l40b l ctx (ctx ++ [.mk s u]) q.parts (hc.push (q.lam c2)) (by simp; omega) (by omega)
      refine ⟨c1 + ct + l.length + 5, j, Ev.mk fun n hn => ?_⟩
      have e := h1 n (by omega) n (by omega) [] [] o m s u l (by simp) (by simp; omega) rfl
      have k := tail n (by omega)
      rw [if_pos c2] at k
      have e := Eq.trans e k
      rw [encL, e40, lenL]
      refine step_t (by simp [c2]) (step_b (s61r ctx n (by omega)) (step_t rfl ?_))
      simp only [clipOf]
      refine step_t ?_ ?_
      · rw [lenT]
        have : Nat.ble ((ctx.length + List.length [Tree.agg [Tree.str s, Tree.slc (encTs u)]]) * 40) 140737488355328 = true := by rw [Nat.ble_eq]; simp; omega
        rw [this, firstT]
        rfl
      · have e2 : encTs ctx ++ [Tree.agg [Tree.str s, Tree.slc (encTs u)]] = encTs (ctx ++ [.mk s u]) := by rw [encTs_app]; simp [encTs, encT]
        rw [e2]
        exact e
    · obtain ⟨c1, h1⟩ := l40a l ctx q.parts hc (by omega) (by omega)
      refine ⟨c1 + ct + l.length + 5, j, Ev.mk fun n hn => ?_⟩
      have e := h1 n (by omega) n (by omega) [] [] o m s u l (by simp) (by simp; omega) rfl
      have k := tail n (by omega)
      rw [if_neg c2] at k
      have e := Eq.trans e k
      rw [encL, e40, lenL]
      refine step_f (by simp [c2]) ?_
      exact e
theorem l40a : ∀ (r : List Lam) (ctx : List Ty), shapeds r = true → CtxOk ctx → ctx.length + sizeLs r ≤ 1000000 → sizeLs r ≤ 100000 →
    ∃ c, ∀ n, c ≤ n → ∀ q, r.length < q → ∀ (pre : List Lam) (us : List Ty) (o m : Int) (s : List UInt8) (u : List Ty) (l : List Lam), us.length = pre.length → (pre ++ r).length ≤ 100000 → l = pre ++ r →
    (match us with
      | [] => L40_0 n q (encTs ctx) (encTs ctx) (encLs l) (l.length : Nat) (pre.length : Nat) o m s (encTs u) (encLs l) []
      | _ => L40_0b n q (encTs ctx) (encTs ctx) (encLs l) (l.length : Nat) (pre.length : Nat) o m s (encTs u) (encLs l) [] (encTs us)) = outTs (fin62 n ctx o m s u l) us (typeds ctx pre.length r)
  | [], ctx, hs, hc, hcl, hz => ⟨0, fun n hn q hq pre us o m s u l hu hb hl => by
    obtain ⟨q, rfl⟩ : ∃ k, q = k + 1 := ⟨q - 1, by omega⟩
    have hlen : l.length = pre.length := by rw [hl]; simp
    cases us with
    | nil =>
      simp only [show q + 1 = Nat.succ q from rfl]
      rw [l40_0, bif_neg (by simp [hlen])]
      rfl
    | cons a ac =>
      simp only [show q + 1 = Nat.succ q from rfl]
      rw [l40_0b, bif_neg (by simp [hlen])]
      unfold typeds
      simp only [outTs, List.append_nil]
      rfl⟩
  | x :: r, ctx, hs, hc, hcl, hz => by
    unfold shapeds at hs
    simp only [Bool.and_eq_true] at hs
    simp only [sizeLs] at hcl hz
    obtain ⟨c1, j, h1⟩ := s40 x ctx hs.1 hc (by omega) (by omega)
    obtain ⟨c2, h2⟩ := l40a r ctx hs.2 hc (by omega) (by omega)
    refine ⟨c1 + c2, fun n hn q hq pre us o m s u l hu hb hl => ?_⟩
    obtain ⟨q, rfl⟩ : ∃ k, q = k + 1 := ⟨q - 1, by omega⟩
    simp only [List.length_cons] at hq
    have hpl : pre.length < l.length := by rw [hl]; simp
    have hlb : l.length ≤ 100000 := by rw [hl]; exact hb
    have h1 := h1 n (by omega)
    have hnth : nth (encLs l) pre.length = some (encL x) := by rw [hl]; exact nthL pre x r
    have ih := h2 n (by omega) q (by omega) (pre ++ [x])
    have path : ∀ {p}, typed ctx x = .inr p → p.length ≤ sizeL x := typed_path x ctx
    cases us with
    | nil =>
      simp only [show q + 1 = Nat.succ q from rfl]
      rw [l40_0]
      refine step_t (decide_eq_true (by omega)) (step_t (decide_eq_true (by omega)) (step_b (y := encL x) (by rw [Int.toNat_natCast]; exact hnth) (step_t (okL_sh x) ?_)))
      rw [lookL]
      unfold typeds
      cases ht : typed ctx x with
      | inr p =>
        rw [ht] at h1
        have hp := path ht
        refine step_b h1 (step_t (tup3Ok _ _ _) (step_t rfl ?_))
        simp only [outTy, tupl_tup, List.headD_cons, List.tail_cons, elems_slc]
        refine step_t (pathT_first p) (step_t (by rw [pathT_len]; simp; omega) ?_)
        rfl
      | inl v =>
        rw [ht] at h1
        refine step_b h1 (step_t (tup3Ok _ _ _) (step_f rfl ?_))
        simp only [outTy, tupl_tup, List.headD_cons, List.tail_cons, elems_slc]
        rw [lookT, w64 (by omega)]
        have e := ih [v] o m s u l (by simp only [List.length_append, List.length_singleton, List.length_nil] at hu ⊢; omega) (by simpa using hb) (by simp [hl])
        simp only [encTs, List.length_append, List.length_singleton] at e
        rw [show (((pre.length : Nat) : Int) + 1) = ((pre.length + 1 : Nat) : Int) by omega, e]
        cases typeds ctx (pre.length + 1) r <;> rfl
    | cons a ac =>
      simp only [show q + 1 = Nat.succ q from rfl]
      rw [l40_0b]
      refine step_t (decide_eq_true (by omega)) (step_t (decide_eq_true (by omega)) (step_b (y := encL x) (by rw [Int.toNat_natCast]; exact hnth) (step_t (okL_sh x) ?_)))
      rw [lookL]
      unfold typeds
      cases ht : typed ctx x with
      | inr p =>
        rw [ht] at h1
        have hp := path ht
        refine step_b h1 (step_t (tup3Ok _ _ _) (step_t rfl ?_))
        simp only [outTy, tupl_tup, List.headD_cons, List.tail_cons, elems_slc]
        refine step_t (pathT_first p) (step_t (by rw [pathT_len]; simp; omega) ?_)
        rfl
      | inl v =>
        rw [ht] at h1
        refine step_b h1 (step_t (tup3Ok _ _ _) (step_f rfl ?_))
        simp only [outTy, tupl_tup, List.headD_cons, List.tail_cons, elems_slc]
        rw [lookT, w64 (by omega)]
        have e := ih (a :: ac ++ [v]) o m s u l (by simp at hu ⊢; omega) (by simpa using hb) (by simp [hl])
        have e2 : encTs (a :: ac ++ [v]) = encTs (a :: ac) ++ [encT v] := by rw [encTs_app]; rfl
        simp only [List.length_append, List.length_singleton] at e
        refine step_t ?_ ?_
        · have : Nat.ble (((encTs (a :: ac)).length + List.length [encT v]) * 40) 140737488355328 = true := by rw [Nat.ble_eq, lenT]; simp at hu ⊢; omega
          rw [this]
          rfl
        · rw [← e2, show (((pre.length : Nat) : Int) + 1) = ((pre.length + 1 : Nat) : Int) by omega]
          refine Eq.trans e ?_
          cases typeds ctx (pre.length + 1) r with
          | inl vs => simp [outTs]
          | inr p => rfl
theorem l40b : ∀ (r : List Lam) (ctx inn : List Ty), shapeds r = true → CtxOk inn → inn.length + sizeLs r ≤ 1000000 → sizeLs r ≤ 100000 →
    ∃ c, ∀ n, c ≤ n → ∀ q, r.length < q → ∀ (pre : List Lam) (us : List Ty) (o m : Int) (s : List UInt8) (u : List Ty) (l : List Lam), us.length = pre.length → (pre ++ r).length ≤ 100000 → l = pre ++ r →
    (match us with
      | [] => L40_0c n q (encTs ctx) (encLs l) (l.length : Nat) (pre.length : Nat) o m s (encTs u) (encLs l) [] (encTs inn)
      | _ => L40_0x3 n q (encTs ctx) (encLs l) (l.length : Nat) (pre.length : Nat) o m s (encTs u) (encLs l) [] (encTs inn) (encTs us)) = outTs (fin62 n ctx o m s u l) us (typeds inn pre.length r)
  | [], ctx, inn, hs, hc, hcl, hz => ⟨0, fun n hn q hq pre us o m s u l hu hb hl => by
    obtain ⟨q, rfl⟩ : ∃ k, q = k + 1 := ⟨q - 1, by omega⟩
    have hlen : l.length = pre.length := by rw [hl]; simp
    cases us with
    | nil =>
      simp only [show q + 1 = Nat.succ q from rfl]
      rw [l40_0c, bif_neg (by simp [hlen])]
      rfl
    | cons a ac =>
      simp only [show q + 1 = Nat.succ q from rfl]
      rw [l40_0x3, bif_neg (by simp [hlen])]
      unfold typeds
      simp only [outTs, List.append_nil]
      rfl⟩
  | x :: r, ctx, inn, hs, hc, hcl, hz => by
    unfold shapeds at hs
    simp only [Bool.and_eq_true] at hs
    simp only [sizeLs] at hcl hz
    obtain ⟨c1, j, h1⟩ := s40 x inn hs.1 hc (by omega) (by omega)
    obtain ⟨c2, h2⟩ := l40b r ctx inn hs.2 hc (by omega) (by omega)
    refine ⟨c1 + c2, fun n hn q hq pre us o m s u l hu hb hl => ?_⟩
    obtain ⟨q, rfl⟩ : ∃ k, q = k + 1 := ⟨q - 1, by omega⟩
    simp only [List.length_cons] at hq
    have hpl : pre.length < l.length := by rw [hl]; simp
    have hlb : l.length ≤ 100000 := by rw [hl]; exact hb
    have h1 := h1 n (by omega)
    have hnth : nth (encLs l) pre.length = some (encL x) := by rw [hl]; exact nthL pre x r
    have ih := h2 n (by omega) q (by omega) (pre ++ [x])
    have path : ∀ {p}, typed inn x = .inr p → p.length ≤ sizeL x := typed_path x inn
    cases us with
    | nil =>
      simp only [show q + 1 = Nat.succ q from rfl]
      rw [l40_0c]
      refine step_t (decide_eq_true (by omega)) (step_t (decide_eq_true (by omega)) (step_b (y := encL x) (by rw [Int.toNat_natCast]; exact hnth) (step_t (okL_sh x) ?_)))
      rw [lookL]
      unfold typeds
      cases ht : typed inn x with
      | inr p =>
        rw [ht] at h1
        have hp := path ht
        refine step_b h1 (step_t (tup3Ok _ _ _) (step_t rfl ?_))
        simp only [outTy, tupl_tup, List.headD_cons, List.tail_cons, elems_slc]
        refine step_t (pathT_first p) (step_t (by rw [pathT_len]; simp; omega) ?_)
        rfl
      | inl v =>
        rw [ht] at h1
        refine step_b h1 (step_t (tup3Ok _ _ _) (step_f rfl ?_))
        simp only [outTy, tupl_tup, List.headD_cons, List.tail_cons, elems_slc]
        rw [lookT, w64 (by omega)]
        have e := ih [v] o m s u l (by simp only [List.length_append, List.length_singleton, List.length_nil] at hu ⊢; omega) (by simpa using hb) (by simp [hl])
        simp only [encTs, List.length_append, List.length_singleton] at e
        rw [show (((pre.length : Nat) : Int) + 1) = ((pre.length + 1 : Nat) : Int) by omega, e]
        cases typeds inn (pre.length + 1) r <;> rfl
    | cons a ac =>
      simp only [show q + 1 = Nat.succ q from rfl]
      rw [l40_0x3]
      refine step_t (decide_eq_true (by omega)) (step_t (decide_eq_true (by omega)) (step_b (y := encL x) (by rw [Int.toNat_natCast]; exact hnth) (step_t (okL_sh x) ?_)))
      rw [lookL]
      unfold typeds
      cases ht : typed inn x with
      | inr p =>
        rw [ht] at h1
        have hp := path ht
        refine step_b h1 (step_t (tup3Ok _ _ _) (step_t rfl ?_))
        simp only [outTy, tupl_tup, List.headD_cons, List.tail_cons, elems_slc]
        refine step_t (pathT_first p) (step_t (by rw [pathT_len]; simp; omega) ?_)
        rfl
      | inl v =>
        rw [ht] at h1
        refine step_b h1 (step_t (tup3Ok _ _ _) (step_f rfl ?_))
        simp only [outTy, tupl_tup, List.headD_cons, List.tail_cons, elems_slc]
        rw [lookT, w64 (by omega)]
        have e := ih (a :: ac ++ [v]) o m s u l (by simp at hu ⊢; omega) (by simpa using hb) (by simp [hl])
        have e2 : encTs (a :: ac ++ [v]) = encTs (a :: ac) ++ [encT v] := by rw [encTs_app]; rfl
        simp only [List.length_append, List.length_singleton] at e
        refine step_t ?_ ?_
        · have : Nat.ble (((encTs (a :: ac)).length + List.length [encT v]) * 40) 140737488355328 = true := by rw [Nat.ble_eq, lenT]; simp at hu ⊢; omega
          rw [this]
          rfl
        · rw [← e2, show (((pre.length : Nat) : Int) + 1) = ((pre.length + 1 : Nat) : Int) by omega]
          refine Eq.trans e ?_
          cases typeds inn (pre.length + 1) r with
          | inl vs => simp [outTs]
          | inr p => rfl
end

end Go.Proofs.Aw.Sa
