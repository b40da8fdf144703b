/-
  QUOT: QuotFolds: its three loops. Printed by program (gen_folds.py).
-/
import Derived.Test.YtfkidinbolmkiaaQbFolds
set_option linter.unusedSimpArgs false
set_option linter.unusedVariables false
namespace Go.Proofs.Bw.Qb
open Go.Proofs

abbrev W (L : List Int) : List Tree := L.map (Tree.int .i32)

theorem nth_W {L p s : List Int} {x : Int} {i : Nat} (h : L = p ++ x :: s) (hi : i = p.length) : nth (W L) i = some (Tree.int .i32 x) := by
  subst h; subst hi
  rw [nth_map, nth_app]; rfl

theorem small.cons {L p s : List Int} {x : Int} (h : small L) (e : L = p ++ x :: s) : IntKind.wrap .i64 x = x ∧ p.length + s.length + 1 ≤ 20 := by
  subst e
  have h1 := h.1
  have h2 := h.2 x (by simp)
  simp only [List.length_append, List.length_cons] at h1
  exact ⟨w64 (by omega), by omega⟩

theorem small_nil : small [] := ⟨by simp, fun _ h => by cases h⟩

theorem f7_2b {n : Nat} (hn : 1200 ≤ n) {c : List Int} {x : Int} (hx : IntKind.wrap .i64 x = x) (hc : small c) : ∀ (r pre : List Int) (q : Nat), c = pre ++ r → r.length < q → L7_2b n q (W c) x pre.length (T pre) = some (.bool true)
  | [], pre, q, hcr, hq => by
    obtain ⟨q, rfl⟩ : ∃ q', q = q' + 1 := ⟨q - 1, by simp at hq; omega⟩
    have e : pre = c := by simpa using hcr.symm
    subst e
    have t := tail_spec hn hx small_nil small_nil hc
    rw [l7_2x7 n 0 [] x 0 (T []) (T []) (T pre), bif_neg (by simp)] at t
    rw [l7_2b, bif_neg (by simp)]
    exact t
  | y :: r, pre, q, hcr, hq => by
    obtain ⟨q, rfl⟩ : ∃ q', q = q' + 1 := ⟨q - 1, by simp at hq; omega⟩
    obtain ⟨wy, hle⟩ := hc.cons hcr
    have hlen : c.length = pre.length + (r.length + 1) := by rw [hcr]; simp
    have w1 : IntKind.wrap .i64 ((pre.length : Int) + 1) = ((pre ++ [y]).length : Int) := by rw [w64 (by omega)]; simp
    have ih := f7_2b hn hx hc r (pre ++ [y]) q (by rw [hcr]; simp) (by simp at hq; omega)
    rw [l7_2b, bif_pos (by simp; omega), bif_pos (by simp), nth_W hcr (by simp), Option.bind_some, ok_int, cond_true, toInt_int, wy, bif_pos (fits (by simp; omega)), w1, T_snoc]
    exact ih

theorem f7_2 {n : Nat} (hn : 1200 ≤ n) {c : List Int} {x : Int} (hx : IntKind.wrap .i64 x = x) (hc : small c) : L7_2 n n (W c) x 0 = some (.bool true) := by
  obtain ⟨q, hq⟩ : ∃ q', n = q' + 1 := ⟨n - 1, by omega⟩
  have hs := hc.1
  conv => lhs; arg 2; rw [hq]
  cases c with
  | nil =>
    have t := tail_spec hn hx small_nil small_nil hc
    rw [l7_2x7 n 0 [] x 0 (T []) (T []) (T []), bif_neg (by simp)] at t
    rw [l7_2, bif_neg (by simp)]
    exact t
  | cons y r =>
    obtain ⟨wy, hle⟩ := hc.cons (p := []) (s := r) rfl
    have w1 : IntKind.wrap .i64 ((0 : Int) + 1) = (([y] : List Int).length : Int) := by rw [w64 (by omega)]; simp
    have ih := f7_2b hn hx hc r [y] q rfl (by simp at hs; omega)
    rw [l7_2, bif_pos (by simp <;> omega), bif_pos (by simp), show nth (W (y :: r)) (Int.toNat 0) = some (Tree.int .i32 y) from rfl, Option.bind_some, ok_int, cond_true, toInt_int, wy, w1]
    exact ih

theorem f7_2x3 {n : Nat} (hn : 1200 ≤ n) {c : List Int} {x : Int} (hx : IntKind.wrap .i64 x = x) {m : List Int} (hm : small m) (hc : small c) : ∀ (r pre : List Int) (q : Nat), c = pre ++ r → r.length < q → L7_2x3 n q (W c) x pre.length (T m) (T pre) = some (.bool true)
  | [], pre, q, hcr, hq => by
    obtain ⟨q, rfl⟩ : ∃ q', q = q' + 1 := ⟨q - 1, by simp at hq; omega⟩
    have e : pre = c := by simpa using hcr.symm
    subst e
    have t := tail_spec hn hx small_nil hm hc
    rw [l7_2x7 n 0 [] x 0 (T []) (T m) (T pre), bif_neg (by simp)] at t
    rw [l7_2x3, bif_neg (by simp)]
    exact t
  | y :: r, pre, q, hcr, hq => by
    obtain ⟨q, rfl⟩ : ∃ q', q = q' + 1 := ⟨q - 1, by simp at hq; omega⟩
    obtain ⟨wy, hle⟩ := hc.cons hcr
    have hlen : c.length = pre.length + (r.length + 1) := by rw [hcr]; simp
    have w1 : IntKind.wrap .i64 ((pre.length : Int) + 1) = ((pre ++ [y]).length : Int) := by rw [w64 (by omega)]; simp
    have ih := f7_2x3 hn hx hm hc r (pre ++ [y]) q (by rw [hcr]; simp) (by simp at hq; omega)
    rw [l7_2x3, bif_pos (by simp; omega), bif_pos (by simp), nth_W hcr (by simp), Option.bind_some, ok_int, cond_true, toInt_int, wy, bif_pos (fits (by simp; omega)), w1, T_snoc]
    exact ih

theorem f7_2c {n : Nat} (hn : 1200 ≤ n) {c : List Int} {x : Int} (hx : IntKind.wrap .i64 x = x) {m : List Int} (hm : small m) (hc : small c) : L7_2c n n (W c) x 0 (T m) = some (.bool true) := by
  obtain ⟨q, hq⟩ : ∃ q', n = q' + 1 := ⟨n - 1, by omega⟩
  have hs := hc.1
  conv => lhs; arg 2; rw [hq]
  cases c with
  | nil =>
    have t := tail_spec hn hx small_nil hm hc
    rw [l7_2x7 n 0 [] x 0 (T []) (T m) (T []), bif_neg (by simp)] at t
    rw [l7_2c, bif_neg (by simp)]
    exact t
  | cons y r =>
    obtain ⟨wy, hle⟩ := hc.cons (p := []) (s := r) rfl
    have w1 : IntKind.wrap .i64 ((0 : Int) + 1) = (([y] : List Int).length : Int) := by rw [w64 (by omega)]; simp
    have ih := f7_2x3 hn hx hm hc r [y] q rfl (by simp at hs; omega)
    rw [l7_2c, bif_pos (by simp <;> omega), bif_pos (by simp), show nth (W (y :: r)) (Int.toNat 0) = some (Tree.int .i32 y) from rfl, Option.bind_some, ok_int, cond_true, toInt_int, wy, w1]
    exact ih

theorem f7_2x5 {n : Nat} (hn : 1200 ≤ n) {c : List Int} {x : Int} (hx : IntKind.wrap .i64 x = x) {l : List Int} (hl : small l) (hc : small c) : ∀ (r pre : List Int) (q : Nat), c = pre ++ r → r.length < q → L7_2x5 n q (W c) x pre.length (T l) (T pre) = some (.bool true)
  | [], pre, q, hcr, hq => by
    obtain ⟨q, rfl⟩ : ∃ q', q = q' + 1 := ⟨q - 1, by simp at hq; omega⟩
    have e : pre = c := by simpa using hcr.symm
    subst e
    have t := tail_spec hn hx hl small_nil hc
    rw [l7_2x7 n 0 [] x 0 (T l) (T []) (T pre), bif_neg (by simp)] at t
    rw [l7_2x5, bif_neg (by simp)]
    exact t
  | y :: r, pre, q, hcr, hq => by
    obtain ⟨q, rfl⟩ : ∃ q', q = q' + 1 := ⟨q - 1, by simp at hq; omega⟩
    obtain ⟨wy, hle⟩ := hc.cons hcr
    have hlen : c.length = pre.length + (r.length + 1) := by rw [hcr]; simp
    have w1 : IntKind.wrap .i64 ((pre.length : Int) + 1) = ((pre ++ [y]).length : Int) := by rw [w64 (by omega)]; simp
    have ih := f7_2x5 hn hx hl hc r (pre ++ [y]) q (by rw [hcr]; simp) (by simp at hq; omega)
    rw [l7_2x5, bif_pos (by simp; omega), bif_pos (by simp), nth_W hcr (by simp), Option.bind_some, ok_int, cond_true, toInt_int, wy, bif_pos (fits (by simp; omega)), w1, T_snoc]
    exact ih

theorem f7_2x4 {n : Nat} (hn : 1200 ≤ n) {c : List Int} {x : Int} (hx : IntKind.wrap .i64 x = x) {l : List Int} (hl : small l) (hc : small c) : L7_2x4 n n (W c) x 0 (T l) = some (.bool true) := by
  obtain ⟨q, hq⟩ : ∃ q', n = q' + 1 := ⟨n - 1, by omega⟩
  have hs := hc.1
  conv => lhs; arg 2; rw [hq]
  cases c with
  | nil =>
    have t := tail_spec hn hx hl small_nil hc
    rw [l7_2x7 n 0 [] x 0 (T l) (T []) (T []), bif_neg (by simp)] at t
    rw [l7_2x4, bif_neg (by simp)]
    exact t
  | cons y r =>
    obtain ⟨wy, hle⟩ := hc.cons (p := []) (s := r) rfl
    have w1 : IntKind.wrap .i64 ((0 : Int) + 1) = (([y] : List Int).length : Int) := by rw [w64 (by omega)]; simp
    have ih := f7_2x5 hn hx hl hc r [y] q rfl (by simp at hs; omega)
    rw [l7_2x4, bif_pos (by simp <;> omega), bif_pos (by simp), show nth (W (y :: r)) (Int.toNat 0) = some (Tree.int .i32 y) from rfl, Option.bind_some, ok_int, cond_true, toInt_int, wy, w1]
    exact ih

theorem f7_2x7 {n : Nat} (hn : 1200 ≤ n) {c : List Int} {x : Int} (hx : IntKind.wrap .i64 x = x) {l : List Int} (hl : small l) {m : List Int} (hm : small m) (hc : small c) : ∀ (r pre : List Int) (q : Nat), c = pre ++ r → r.length < q → L7_2x7 n q (W c) x pre.length (T l) (T m) (T pre) = some (.bool true)
  | [], pre, q, hcr, hq => by
    obtain ⟨q, rfl⟩ : ∃ q', q = q' + 1 := ⟨q - 1, by simp at hq; omega⟩
    have e : pre = c := by simpa using hcr.symm
    subst e
    have t := tail_spec hn hx hl hm hc
    rw [l7_2x7 n 0 [] x 0 (T l) (T m) (T pre), bif_neg (by simp)] at t
    rw [l7_2x7, bif_neg (by simp)]
    exact t
  | y :: r, pre, q, hcr, hq => by
    obtain ⟨q, rfl⟩ : ∃ q', q = q' + 1 := ⟨q - 1, by simp at hq; omega⟩
    obtain ⟨wy, hle⟩ := hc.cons hcr
    have hlen : c.length = pre.length + (r.length + 1) := by rw [hcr]; simp
    have w1 : IntKind.wrap .i64 ((pre.length : Int) + 1) = ((pre ++ [y]).length : Int) := by rw [w64 (by omega)]; simp
    have ih := f7_2x7 hn hx hl hm hc r (pre ++ [y]) q (by rw [hcr]; simp) (by simp at hq; omega)
    rw [l7_2x7, bif_pos (by simp; omega), bif_pos (by simp), nth_W hcr (by simp), Option.bind_some, ok_int, cond_true, toInt_int, wy, bif_pos (fits (by simp; omega)), w1, T_snoc]
    exact ih

theorem f7_2x6 {n : Nat} (hn : 1200 ≤ n) {c : List Int} {x : Int} (hx : IntKind.wrap .i64 x = x) {l : List Int} (hl : small l) {m : List Int} (hm : small m) (hc : small c) : L7_2x6 n n (W c) x 0 (T l) (T m) = some (.bool true) := by
  obtain ⟨q, hq⟩ : ∃ q', n = q' + 1 := ⟨n - 1, by omega⟩
  have hs := hc.1
  conv => lhs; arg 2; rw [hq]
  cases c with
  | nil =>
    have t := tail_spec hn hx hl hm hc
    rw [l7_2x7 n 0 [] x 0 (T l) (T m) (T []), bif_neg (by simp)] at t
    rw [l7_2x6, bif_neg (by simp)]
    exact t
  | cons y r =>
    obtain ⟨wy, hle⟩ := hc.cons (p := []) (s := r) rfl
    have w1 : IntKind.wrap .i64 ((0 : Int) + 1) = (([y] : List Int).length : Int) := by rw [w64 (by omega)]; simp
    have ih := f7_2x7 hn hx hl hm hc r [y] q rfl (by simp at hs; omega)
    rw [l7_2x6, bif_pos (by simp <;> omega), bif_pos (by simp), show nth (W (y :: r)) (Int.toNat 0) = some (Tree.int .i32 y) from rfl, Option.bind_some, ok_int, cond_true, toInt_int, wy, w1]
    exact ih

theorem f7_1b {n : Nat} (hn : 1200 ≤ n) {m c : List Int} {x : Int} (hx : IntKind.wrap .i64 x = x) (hm : small m) (hc : small c) : ∀ (r pre : List Int) (q : Nat), m = pre ++ r → r.length < q → L7_1b n q (W m) (W c) x pre.length (T pre) = some (.bool true)
  | [], pre, q, hcr, hq => by
    obtain ⟨q, rfl⟩ : ∃ q', q = q' + 1 := ⟨q - 1, by simp at hq; omega⟩
    have e : pre = m := by simpa using hcr.symm
    subst e
    rw [l7_1b, bif_neg (by simp)]
    exact f7_2c hn hx hm hc
  | y :: r, pre, q, hcr, hq => by
    obtain ⟨q, rfl⟩ : ∃ q', q = q' + 1 := ⟨q - 1, by simp at hq; omega⟩
    obtain ⟨wy, hle⟩ := hm.cons hcr
    have hlen : m.length = pre.length + (r.length + 1) := by rw [hcr]; simp
    have w1 : IntKind.wrap .i64 ((pre.length : Int) + 1) = ((pre ++ [y]).length : Int) := by rw [w64 (by omega)]; simp
    have ih := f7_1b hn hx hm hc r (pre ++ [y]) q (by rw [hcr]; simp) (by simp at hq; omega)
    rw [l7_1b, bif_pos (by simp; omega), bif_pos (by simp), nth_W hcr (by simp), Option.bind_some, ok_int, cond_true, toInt_int, wy, bif_pos (fits (by simp; omega)), w1, T_snoc]
    exact ih

theorem f7_1 {n : Nat} (hn : 1200 ≤ n) {m c : List Int} {x : Int} (hx : IntKind.wrap .i64 x = x) (hm : small m) (hc : small c) : L7_1 n n (W m) (W c) x 0 = some (.bool true) := by
  obtain ⟨q, hq⟩ : ∃ q', n = q' + 1 := ⟨n - 1, by omega⟩
  have hs := hm.1
  conv => lhs; arg 2; rw [hq]
  cases m with
  | nil =>
    rw [l7_1, bif_neg (by simp)]
    exact f7_2 hn hx hc
  | cons y r =>
    obtain ⟨wy, hle⟩ := hm.cons (p := []) (s := r) rfl
    have w1 : IntKind.wrap .i64 ((0 : Int) + 1) = (([y] : List Int).length : Int) := by rw [w64 (by omega)]; simp
    have ih := f7_1b hn hx hm hc r [y] q rfl (by simp at hs; omega)
    rw [l7_1, bif_pos (by simp <;> omega), bif_pos (by simp), show nth (W (y :: r)) (Int.toNat 0) = some (Tree.int .i32 y) from rfl, Option.bind_some, ok_int, cond_true, toInt_int, wy, w1]
    exact ih

theorem f7_1x3 {n : Nat} (hn : 1200 ≤ n) {m c : List Int} {x : Int} (hx : IntKind.wrap .i64 x = x) {l : List Int} (hl : small l) (hm : small m) (hc : small c) : ∀ (r pre : List Int) (q : Nat), m = pre ++ r → r.length < q → L7_1x3 n q (W m) (W c) x pre.length (T l) (T pre) = some (.bool true)
  | [], pre, q, hcr, hq => by
    obtain ⟨q, rfl⟩ : ∃ q', q = q' + 1 := ⟨q - 1, by simp at hq; omega⟩
    have e : pre = m := by simpa using hcr.symm
    subst e
    rw [l7_1x3, bif_neg (by simp)]
    exact f7_2x6 hn hx hl hm hc
  | y :: r, pre, q, hcr, hq => by
    obtain ⟨q, rfl⟩ : ∃ q', q = q' + 1 := ⟨q - 1, by simp at hq; omega⟩
    obtain ⟨wy, hle⟩ := hm.cons hcr
    have hlen : m.length = pre.length + (r.length + 1) := by rw [hcr]; simp
    have w1 : IntKind.wrap .i64 ((pre.length : Int) + 1) = ((pre ++ [y]).length : Int) := by rw [w64 (by omega)]; simp
    have ih := f7_1x3 hn hx hl hm hc r (pre ++ [y]) q (by rw [hcr]; simp) (by simp at hq; omega)
    rw [l7_1x3, bif_pos (by simp; omega), bif_pos (by simp), nth_W hcr (by simp), Option.bind_some, ok_int, cond_true, toInt_int, wy, bif_pos (fits (by simp; omega)), w1, T_snoc]
    exact ih

theorem f7_1c {n : Nat} (hn : 1200 ≤ n) {m c : List Int} {x : Int} (hx : IntKind.wrap .i64 x = x) {l : List Int} (hl : small l) (hm : small m) (hc : small c) : L7_1c n n (W m) (W c) x 0 (T l) = some (.bool true) := by
  obtain ⟨q, hq⟩ : ∃ q', n = q' + 1 := ⟨n - 1, by omega⟩
  have hs := hm.1
  conv => lhs; arg 2; rw [hq]
  cases m with
  | nil =>
    rw [l7_1c, bif_neg (by simp)]
    exact f7_2x4 hn hx hl hc
  | cons y r =>
    obtain ⟨wy, hle⟩ := hm.cons (p := []) (s := r) rfl
    have w1 : IntKind.wrap .i64 ((0 : Int) + 1) = (([y] : List Int).length : Int) := by rw [w64 (by omega)]; simp
    have ih := f7_1x3 hn hx hl hm hc r [y] q rfl (by simp at hs; omega)
    rw [l7_1c, bif_pos (by simp <;> omega), bif_pos (by simp), show nth (W (y :: r)) (Int.toNat 0) = some (Tree.int .i32 y) from rfl, Option.bind_some, ok_int, cond_true, toInt_int, wy, w1]
    exact ih

theorem f7_0b {n : Nat} (hn : 1200 ≤ n) {l m c : List Int} {x : Int} (hx : IntKind.wrap .i64 x = x) (hl : small l) (hm : small m) (hc : small c) : ∀ (r pre : List Int) (q : Nat), l = pre ++ r → r.length < q → L7_0b n q (W l) (W m) (W c) x pre.length (T pre) = some (.bool true)
  | [], pre, q, hcr, hq => by
    obtain ⟨q, rfl⟩ : ∃ q', q = q' + 1 := ⟨q - 1, by simp at hq; omega⟩
    have e : pre = l := by simpa using hcr.symm
    subst e
    rw [l7_0b, bif_neg (by simp)]
    exact f7_1c hn hx hl hm hc
  | y :: r, pre, q, hcr, hq => by
    obtain ⟨q, rfl⟩ : ∃ q', q = q' + 1 := ⟨q - 1, by simp at hq; omega⟩
    obtain ⟨wy, hle⟩ := hl.cons hcr
    have hlen : l.length = pre.length + (r.length + 1) := by rw [hcr]; simp
    have w1 : IntKind.wrap .i64 ((pre.length : Int) + 1) = ((pre ++ [y]).length : Int) := by rw [w64 (by omega)]; simp
    have ih := f7_0b hn hx hl hm hc r (pre ++ [y]) q (by rw [hcr]; simp) (by simp at hq; omega)
    rw [l7_0b, bif_pos (by simp; omega), bif_pos (by simp), nth_W hcr (by simp), Option.bind_some, ok_int, cond_true, toInt_int, wy, bif_pos (fits (by simp; omega)), w1, T_snoc]
    exact ih

theorem f7_0 {n : Nat} (hn : 1200 ≤ n) {l m c : List Int} {x : Int} (hx : IntKind.wrap .i64 x = x) (hl : small l) (hm : small m) (hc : small c) : L7_0 n n (W l) (W m) (W c) x 0 = some (.bool true) := by
  obtain ⟨q, hq⟩ : ∃ q', n = q' + 1 := ⟨n - 1, by omega⟩
  have hs := hl.1
  conv => lhs; arg 2; rw [hq]
  cases l with
  | nil =>
    rw [l7_0, bif_neg (by simp)]
    exact f7_1 hn hx hm hc
  | cons y r =>
    obtain ⟨wy, hle⟩ := hl.cons (p := []) (s := r) rfl
    have w1 : IntKind.wrap .i64 ((0 : Int) + 1) = (([y] : List Int).length : Int) := by rw [w64 (by omega)]; simp
    have ih := f7_0b hn hx hl hm hc r [y] q rfl (by simp at hs; omega)
    rw [l7_0, bif_pos (by simp <;> omega), bif_pos (by simp), show nth (W (y :: r)) (Int.toNat 0) = some (Tree.int .i32 y) from rfl, Option.bind_some, ok_int, cond_true, toInt_int, wy, w1]
    exact ih

theorem s7 (a b c : List Int) (x : Int) (ha : ∀ y ∈ a, -2147483648 ≤ y ∧ y ≤ 2147483647) (hb : ∀ y ∈ b, -2147483648 ≤ y ∧ y ≤ 2147483647) (hc : ∀ y ∈ c, -2147483648 ≤ y ∧ y ≤ 2147483647) (hx : -2147483648 ≤ x ∧ x ≤ 2147483647) :
    Ev E 1201 7 [.slc (W a), .slc (W b), .slc (W c), .int .i32 x] (.bool true) :=
  Ev.mk fun n hn => by
    rw [e7]
    by_cases h1 : a.length > 20
    · rw [bif_pos (by simp; omega)]
    · rw [bif_neg (by simp; omega)]
      by_cases h2 : b.length > 20
      · rw [bif_pos (by simp; omega)]
      · rw [bif_neg (by simp; omega)]
        by_cases h3 : c.length > 20
        · rw [bif_pos (by simp; omega)]
        · rw [bif_neg (by simp; omega)]
          exact f7_0 (by omega) (w64 (by omega)) ⟨by omega, ha⟩ ⟨by omega, hb⟩ ⟨by omega, hc⟩

end Go.Proofs.Bw.Qb
