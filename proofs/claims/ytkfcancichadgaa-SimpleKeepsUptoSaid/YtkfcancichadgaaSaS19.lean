/-
  SIMPLE, specs 19: Type and Where, the program's and the reference's.
-/
import Derived.Test.YtkfcancichadgaaSaS18
set_option linter.unusedSimpArgs false
set_option linter.unusedVariables false
namespace Go.Proofs.Aw.Sa
open Go.Proofs

def allT (ctx : List Ty) : Bool := ctx.all validT
/-- A context and a term are valid. -/
def givenB (ctx : List Ty) (t : Lam) : Bool := decide (ctx.length ≤ 100) && allT ctx && validL t

theorem allT_cons (x : Ty) (r : List Ty) : allT (x :: r) = (validT x && allT r) := rfl

theorem s59 (t : Ty) (ht : sizeT t ≤ 500000000000) : Ev E (2 * sizeT t + 4) 59 [encT t] (.bool (!validT t)) :=
  Ev.mk fun n hn => by
    have h := s60 t ht n (by omega)
    rw [encT_eta t] at h ⊢
    rw [e59]
    exact step_b h (step_t rfl rfl)

theorem l79 : ∀ (r pre : List Ty), (pre ++ r).length ≤ 1000000 → sizeTs r ≤ 100000000 → ∃ c k, (∀ n, c ≤ n → ∀ q, r.length < q → L79_0 n q (encTs (pre ++ r)) 59 [] [] ((pre ++ r).length : Nat) (pre.length : Nat) = some (I k)) ∧ (decide (k ≥ 0) = !allT r)
  | [], pre, hb, hs => ⟨0, -1, fun n hn q hq => by
      obtain ⟨q, rfl⟩ : ∃ k, q = k + 1 := ⟨q - 1, by omega⟩
      rw [show q + 1 = Nat.succ q from rfl, l79_0]
      exact step_f (by simp) rfl, rfl⟩
  | x :: r, pre, hb, hs => by
    simp only [sizeTs] at hs
    have hlen : (pre ++ x :: r).length = pre.length + (r.length + 1) := by simp
    have h59 := s59 x (by omega)
    by_cases hv : validT x = true
    · obtain ⟨c, k, h1, h2⟩ := l79 r (pre ++ [x]) (by simpa using hb) (by omega)
      refine ⟨c + 2 * sizeT x + 10, k, fun n hn q hq => ?_, by rw [allT_cons, hv, Bool.true_and]; exact h2⟩
      obtain ⟨q, rfl⟩ : ∃ k, q = k + 1 := ⟨q - 1, by omega⟩
      simp only [List.length_cons] at hq
      rw [show q + 1 = Nat.succ q from rfl, l79_0]
      refine step_t (decide_eq_true (by omega)) (step_t (decide_eq_true (by omega)) (step_b (y := encT x) (by rw [Int.toNat_natCast]; exact nthT pre x r) (step_t (okT_sh x) ?_)))
      rw [lookT]
      have h := h59 n (by omega)
      rw [hv] at h
      refine step_b h (step_t rfl (step_f rfl ?_))
      have e := h1 n (by omega) q (by omega)
      rw [w64 (by omega)]
      simpa using e
    · rw [Bool.not_eq_true] at hv
      refine ⟨2 * sizeT x + 10, (pre.length : Nat), fun n hn q hq => ?_, by rw [allT_cons, hv]; simp⟩
      obtain ⟨q, rfl⟩ : ∃ k, q = k + 1 := ⟨q - 1, by omega⟩
      rw [show q + 1 = Nat.succ q from rfl, l79_0]
      refine step_t (decide_eq_true (by omega)) (step_t (decide_eq_true (by omega)) (step_b (y := encT x) (by rw [Int.toNat_natCast]; exact nthT pre x r) (step_t (okT_sh x) ?_)))
      rw [lookT]
      have h := h59 n (by omega)
      rw [hv] at h
      exact step_b h (step_t rfl (step_t rfl rfl))

theorem s58 (ctx : List Ty) (hl : ctx.length ≤ 1000000) (hs : sizeTs ctx ≤ 100000000) : ∃ c, Ev E c 58 [.slc (encTs ctx), .fn 59 [] []] (.bool (!allT ctx)) := by
  obtain ⟨c, k, h1, h2⟩ := l79 ctx [] (by simpa using hl) hs
  refine ⟨c + ctx.length + 10, Ev.mk fun n hn => ?_⟩
  obtain ⟨n, rfl⟩ : ∃ k, n = k + 1 := ⟨n - 1, by omega⟩
  have e := h1 n (by omega) n (by omega)
  have h79 : evP (Tab.env tab) (n + 1) 79 [.slc (encTs ctx), .fn 59 [] []] = some (I k) := by
    refine evP_of_evQ ?_
    rw [e79, lenT]
    simpa using e
  rw [e58]
  refine step_b h79 (step_t rfl ?_)
  rw [← h2]
  rfl

theorem s39 (ctx : List Ty) (t : Lam) (hs : sizeTs ctx ≤ 100000000) (ht : wL t ≤ 500000000000) : ∃ c, Ev E c 39 [.slc (encTs ctx), encL t] (.bool (givenB ctx t)) := by
  have start : ∀ n, evQ E n 39 [.slc (encTs ctx), encL t] = evQ E n 39 [.slc (encTs ctx), .agg [I t.op, I t.num, .str t.ty.name, .slc (encTs t.ty.parts), .slc (encLs t.parts)]] := fun n => by rw [encL_eta t]
  by_cases h100 : ctx.length ≤ 100
  · obtain ⟨c, h58⟩ := s58 ctx (by omega) hs
    have h30 := s30 t ht
    refine ⟨c + 4 * wL t + 10, Ev.mk fun n hn => ?_⟩
    rw [start, e39, lenT, ← encL_eta t]
    refine step_t (decide_eq_true (by omega)) (step_b (h58 n (by omega)) (step_t rfl ?_))
    unfold givenB
    rw [decide_eq_true h100, Bool.true_and]
    cases ha : allT ctx with
    | true => exact step_t rfl (step_b (h30 n (by omega)) (step_t rfl rfl))
    | false => exact step_f rfl rfl
  · refine ⟨1, Ev.mk fun n hn => ?_⟩
    rw [start, e39, lenT]
    refine step_f (decide_eq_false (by omega)) ?_
    unfold givenB
    rw [decide_eq_false h100]
    rfl

theorem l49 : ∀ (r pre : List Ty), (pre ++ r).length ≤ 1000000 → sizeTs r ≤ 100000000 → ∃ c, ∀ n, c ≤ n → ∀ q, r.length < q → L49_0 n q (encTs (pre ++ r)) (pre.length : Nat) = some (.bool (allT r))
  | [], pre, hb, hs => ⟨0, fun n hn q hq => by
      obtain ⟨q, rfl⟩ : ∃ k, q = k + 1 := ⟨q - 1, by omega⟩
      rw [show q + 1 = Nat.succ q from rfl, l49_0, lenT]
      exact step_f (by simp) rfl⟩
  | x :: r, pre, hb, hs => by
    simp only [sizeTs] at hs
    have hlen : (pre ++ x :: r).length = pre.length + (r.length + 1) := by simp
    have h66 := s66 x (by omega)
    obtain ⟨c, h1⟩ := l49 r (pre ++ [x]) (by simpa using hb) (by omega)
    refine ⟨c + 2 * sizeT x + 10, fun n hn q hq => ?_⟩
    obtain ⟨q, rfl⟩ : ∃ k, q = k + 1 := ⟨q - 1, by omega⟩
    simp only [List.length_cons] at hq
    rw [show q + 1 = Nat.succ q from rfl, l49_0, lenT, allT_cons]
    refine step_t (decide_eq_true (by omega)) (step_t (decide_eq_true (by omega)) (step_b (y := encT x) (by rw [Int.toNat_natCast]; exact nthT pre x r) (step_t (okT_sh x) ?_)))
    rw [lookT]
    refine step_b (h66 n (by omega)) (step_t rfl ?_)
    cases hv : validT x with
    | true =>
      refine step_f rfl ?_
      have e := h1 n (by omega) q (by omega)
      rw [w64 (by omega)]
      simpa using e
    | false => exact step_t rfl rfl

theorem s49 (ctx : List Ty) (t : Lam) (hs : sizeTs ctx ≤ 100000000) (ht : wL t ≤ 500000000000) : ∃ c, Ev E c 49 [.slc (encTs ctx), encL t] (.bool (givenB ctx t)) := by
  have start : ∀ n, evQ E n 49 [.slc (encTs ctx), encL t] = evQ E n 49 [.slc (encTs ctx), .agg [I t.op, I t.num, .str t.ty.name, .slc (encTs t.ty.parts), .slc (encLs t.parts)]] := fun n => by rw [encL_eta t]
  by_cases h100 : ctx.length ≤ 100
  · obtain ⟨c, hl⟩ := l49 ctx [] (by simp; omega) hs
    have h18 := s18 t ht
    refine ⟨c + 4 * wL t + ctx.length + 10, Ev.mk fun n hn => ?_⟩
    rw [start, e49, lenT, ← encL_eta t]
    refine step_f (decide_eq_false (by omega)) (step_b (h18 n (by omega)) (step_t rfl ?_))
    unfold givenB
    rw [decide_eq_true h100, Bool.true_and]
    cases hv : validL t with
    | false => refine step_t rfl ?_; simp
    | true =>
      refine step_f rfl ?_
      rw [Bool.and_true]
      have e := hl n (by omega) n (by omega)
      simpa using e
  · refine ⟨1, Ev.mk fun n hn => ?_⟩
    rw [start, e49, lenT]
    refine step_t (decide_eq_true (by omega)) ?_
    unfold givenB
    rw [decide_eq_false h100]
    rfl

theorem given_eq {ctx : List Ty} {t : Lam} (h : givenB ctx t = true) : ctx.length ≤ 100 ∧ CtxOk ctx ∧ sizeL t ≤ 300 ∧ depthL t ≤ 60 ∧ shaped t = true := by
  unfold givenB at h
  simp only [Bool.and_eq_true, decide_eq_true_eq] at h
  obtain ⟨⟨h1, h2⟩, h3⟩ := h
  unfold validL at h3
  simp only [Bool.and_eq_true, decide_eq_true_eq] at h3
  refine ⟨h1, fun x hx => ?_, h3.1.1, h3.1.2, h3.2⟩
  have := List.all_eq_true.1 h2 x hx
  unfold validT at this
  simp only [Bool.and_eq_true, decide_eq_true_eq] at this
  exact ⟨this.2, this.1.1⟩

/-- What Type tells. -/
def typeOf (ctx : List Ty) (t : Lam) : Ty × Int :=
  if givenB ctx t = true then (match typed ctx t with
    | .inl u => (u, 0)
    | .inr _ => (tyZero, 250)) else (tyZero, 4)
/-- What Where tells. -/
def whereOf (ctx : List Ty) (t : Lam) : List Nat × Int :=
  if givenB ctx t = true then (match typed ctx t with
    | .inl _ => ([], 0)
    | .inr p => (p, 250)) else ([], 4)

theorem s15 (ctx : List Ty) (t : Lam) (hs : sizeTs ctx ≤ 100000000) (ht : wL t ≤ 500000000000) : ∃ c, Ev E c 15 [.slc (encTs ctx), encL t] (.tup [encT (typeOf ctx t).1, I (typeOf ctx t).2]) := by
  have start : ∀ n, evQ E n 15 [.slc (encTs ctx), encL t] = evQ E n 15 [.slc (encTs ctx), .agg [I t.op, I t.num, .str t.ty.name, .slc (encTs t.ty.parts), .slc (encLs t.parts)]] := fun n => by rw [encL_eta t]
  obtain ⟨c39, h39⟩ := s39 ctx t hs ht
  unfold typeOf
  cases hg : givenB ctx t with
  | false =>
    rw [hg] at h39
    refine ⟨c39 + 1, Ev.mk fun n hn => ?_⟩
    rw [start, e15, ← encL_eta t]
    exact step_b (h39 n (by omega)) (step_t rfl (step_t rfl rfl))
  | true =>
    rw [hg] at h39
    obtain ⟨g1, g2, g3, g4, g5⟩ := given_eq hg
    obtain ⟨c40, j, h40⟩ := s40 t ctx g5 g2 (by omega) (by omega)
    cases hty : typed ctx t with
    | inr p =>
      rw [hty] at h40
      refine ⟨c39 + c40 + 1, Ev.mk fun n hn => ?_⟩
      rw [start, e15, ← encL_eta t]
      exact step_b (h39 n (by omega)) (step_t rfl (step_f rfl (step_b (h40 n (by omega)) (step_t (tup3Ok _ _ _) (step_t rfl rfl)))))
    | inl u =>
      rw [hty] at h40
      have hu := (typed_ok t ctx g5 g2 hty).2
      have h41 := s41 u (by omega)
      refine ⟨c39 + c40 + 2 * sizeT u + 10, Ev.mk fun n hn => ?_⟩
      rw [start, e15, ← encL_eta t]
      refine step_b (h39 n (by omega)) (step_t rfl (step_f rfl (step_b (h40 n (by omega)) (step_t (tup3Ok _ _ _) (step_f rfl ?_)))))
      simp only [outTy, tupl_tup, List.headD_cons]
      rw [lookT]
      refine step_b (h41 n (by omega)) (step_t (okT_sh u) ?_)
      rw [lookT]
      rfl

theorem s28 (ctx : List Ty) (t : Lam) (hs : sizeTs ctx ≤ 100000000) (ht : wL t ≤ 500000000000) : ∃ c, Ev E c 28 [.slc (encTs ctx), encL t] (.tup [.slc (pathT (whereOf ctx t).1), I (whereOf ctx t).2]) := by
  have start : ∀ n, evQ E n 28 [.slc (encTs ctx), encL t] = evQ E n 28 [.slc (encTs ctx), .agg [I t.op, I t.num, .str t.ty.name, .slc (encTs t.ty.parts), .slc (encLs t.parts)]] := fun n => by rw [encL_eta t]
  obtain ⟨c39, h39⟩ := s39 ctx t hs ht
  unfold whereOf
  cases hg : givenB ctx t with
  | false =>
    rw [hg] at h39
    refine ⟨c39 + 1, Ev.mk fun n hn => ?_⟩
    rw [start, e28, ← encL_eta t]
    exact step_b (h39 n (by omega)) (step_t rfl (step_t rfl rfl))
  | true =>
    rw [hg] at h39
    obtain ⟨g1, g2, g3, g4, g5⟩ := given_eq hg
    obtain ⟨c40, j, h40⟩ := s40 t ctx g5 g2 (by omega) (by omega)
    refine ⟨c39 + c40 + 1, Ev.mk fun n hn => ?_⟩
    rw [start, e28, ← encL_eta t]
    cases hty : typed ctx t with
    | inr p =>
      rw [hty] at h40
      exact step_b (h39 n (by omega)) (step_t rfl (step_f rfl (step_b (h40 n (by omega)) (step_t (tup3Ok _ _ _) (step_t rfl rfl)))))
    | inl u =>
      rw [hty] at h40
      exact step_b (h39 n (by omega)) (step_t rfl (step_f rfl (step_b (h40 n (by omega)) (step_t (tup3Ok _ _ _) (step_f rfl rfl)))))

theorem s27 (ctx : List Ty) (t : Lam) (hs : sizeTs ctx ≤ 100000000) (ht : wL t ≤ 500000000000) : ∃ c, Ev E c 27 [.slc (encTs ctx), encL t] (.tup [encT (typeOf ctx t).1, I (typeOf ctx t).2]) := by
  have start : ∀ n, evQ E n 27 [.slc (encTs ctx), encL t] = evQ E n 27 [.slc (encTs ctx), .agg [I t.op, I t.num, .str t.ty.name, .slc (encTs t.ty.parts), .slc (encLs t.parts)]] := fun n => by rw [encL_eta t]
  obtain ⟨c39, h39⟩ := s49 ctx t hs ht
  unfold typeOf
  cases hg : givenB ctx t with
  | false =>
    rw [hg] at h39
    refine ⟨c39 + 1, Ev.mk fun n hn => ?_⟩
    rw [start, e27, ← encL_eta t]
    exact step_b (h39 n (by omega)) (step_t rfl (step_t rfl rfl))
  | true =>
    rw [hg] at h39
    obtain ⟨g1, g2, g3, g4, g5⟩ := given_eq hg
    obtain ⟨c40, h40⟩ := s50 t ctx g5 g2 (by omega) (by omega)
    have h40 := h40 [] (by simp; omega)
    refine ⟨c39 + c40 + 1, Ev.mk fun n hn => ?_⟩
    have h40 := h40 n (by omega)
    rw [start, e27, ← encL_eta t]
    cases hty : typed ctx t with
    | inr p =>
      rw [hty] at h40
      exact step_b (h39 n (by omega)) (step_t rfl (step_f rfl (step_b h40 (step_t (tup3Ok _ _ _) (step_t rfl rfl)))))
    | inl u =>
      rw [hty] at h40
      refine step_b (h39 n (by omega)) (step_t rfl (step_f rfl (step_b h40 (step_t (tup3Ok _ _ _) (step_f rfl ?_)))))
      simp only [outF, tupl_tup, List.headD_cons]
      rw [lookT]
      rfl

theorem s29 (ctx : List Ty) (t : Lam) (hs : sizeTs ctx ≤ 100000000) (ht : wL t ≤ 500000000000) : ∃ c, Ev E c 29 [.slc (encTs ctx), encL t] (.tup [.slc (pathT (whereOf ctx t).1), I (whereOf ctx t).2]) := by
  have start : ∀ n, evQ E n 29 [.slc (encTs ctx), encL t] = evQ E n 29 [.slc (encTs ctx), .agg [I t.op, I t.num, .str t.ty.name, .slc (encTs t.ty.parts), .slc (encLs t.parts)]] := fun n => by rw [encL_eta t]
  obtain ⟨c39, h39⟩ := s49 ctx t hs ht
  unfold whereOf
  cases hg : givenB ctx t with
  | false =>
    rw [hg] at h39
    refine ⟨c39 + 1, Ev.mk fun n hn => ?_⟩
    rw [start, e29, ← encL_eta t]
    exact step_b (h39 n (by omega)) (step_t rfl (step_t rfl rfl))
  | true =>
    rw [hg] at h39
    obtain ⟨g1, g2, g3, g4, g5⟩ := given_eq hg
    obtain ⟨c40, h40⟩ := s50 t ctx g5 g2 (by omega) (by omega)
    have h40 := h40 [] (by simp; omega)
    refine ⟨c39 + c40 + 1, Ev.mk fun n hn => ?_⟩
    have h40 := h40 n (by omega)
    rw [start, e29, ← encL_eta t]
    cases hty : typed ctx t with
    | inr p =>
      rw [hty] at h40
      exact step_b (h39 n (by omega)) (step_t rfl (step_f rfl (step_b h40 (step_t (tup3Ok _ _ _) (step_t rfl rfl)))))
    | inl u =>
      rw [hty] at h40
      exact step_b (h39 n (by omega)) (step_t rfl (step_f rfl (step_b h40 (step_t (tup3Ok _ _ _) (step_f rfl rfl)))))

end Go.Proofs.Aw.Sa
