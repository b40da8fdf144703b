/-
  QUOT: QuotMoves: its loops, and the whole.
-/
import Derived.Test.YtfkidinbolmkiaaQbMoves0
set_option linter.unusedSimpArgs false
set_option linter.unusedVariables false
namespace Go.Proofs.Bw.Qb
open Go.Proofs

theorem end_spec {n : Nat} (hn : 1200 ≤ n) {A B : List Int} (ha : small A) (hb : small B) (h : A.Perm B) (q : Nat) : L9_1b n (q + 1) 5 (T A) (T B) = some (.bool true) := by
  have oa := ok_mem (by have := ha.1; omega) ha.2
  have ob := ok_mem (by have := hb.1; omega) hb.2
  have l1 := ha.1; have l2 := hb.1
  have g1 := s41 A n (by omega)
  rw [oa, pack_ok (by rw [sortL_length]; omega)] at g1
  have g2 := s41 B n (by omega)
  rw [ob, pack_ok (by rw [sortL_length]; omega)] at g2
  have g3 := s38 (sortL A) (sortL B) (by rw [sortL_length]; omega) n (by omega)
  rw [decide_eq_true (sortL_perm_eq h)] at g3
  refine (l9_1b n q 5 (T A) (T B)).trans (bf rfl ?_)
  refine bstep g1 (bt rfl ?_)
  refine bstep g2 (bt rfl (bt rfl (bt rfl ?_)))
  refine bstep g3 (bt rfl (bt rfl ?_))
  exact bstep (s15 n (by omega)) (bt rfl rfl)

theorem fold_step {n : Nat} (hn : 1200 ≤ n) {A B : List Int} (ha : small A) (h : A.Perm B) {op : Int} (h1 : 1 ≤ op) (h4 : op ≤ 4) {q : Nat} (k : L9_1b n q (op + 1) (T A) (T B) = some (.bool true)) : L9_1b n (q + 1) op (T A) (T B) = some (.bool true) := by
  obtain ⟨v, e1, e2⟩ := foldT_perm h ha h1 h4
  have g1 := s34 A op n (by omega)
  have g2 := s34 B op n (by omega)
  rw [e1] at g1
  rw [e2] at g2
  refine (l9_1b n q op (T A) (T B)).trans (bt (decide_eq_true h4) ?_)
  refine bstep g1 (bt rfl ?_)
  refine bstep g2 (bt rfl (bf ?_ (bf rfl (bf rfl ?_))))
  · show (v != v) = false
    simp
  · rw [w64 (by omega)]; exact k

theorem folds_spec {n : Nat} (hn : 1200 ≤ n) {A B : List Int} (ha : small A) (hb : small B) (h : A.Perm B) : L9_1b n n 1 (T A) (T B) = some (.bool true) := by
  obtain ⟨q, hq⟩ : ∃ q', n = q' + 1 + 1 + 1 + 1 + 1 := ⟨n - 5, by omega⟩
  conv => lhs; arg 2; rw [hq]
  exact fold_step hn ha h (by omega) (by omega) (fold_step hn ha h (by omega) (by omega) (fold_step hn ha h (by omega) (by omega) (fold_step hn ha h (by omega) (by omega) (end_spec hn ha hb h q))))

theorem small_rev {L : List Int} (h : small L) : small L.reverse := ⟨by rw [List.length_reverse]; exact h.1, fun x hx => h.2 x (List.mem_reverse.1 hx)⟩

theorem f9_0b {n : Nat} (hn : 1200 ≤ n) {l : List Int} (hl : small l) : ∀ (r pre : List Int) (q : Nat), l = pre ++ r → r.length < q → L9_0b n q (W l) pre.length (T pre) (T pre.reverse) = some (.bool true)
  | [], pre, q, hcr, hq => by
    obtain ⟨q, rfl⟩ : ∃ q', q = q' + 1 := ⟨q - 1, by simp at hq; omega⟩
    have e : pre = l := by simpa using hcr.symm
    subst e
    rw [l9_0b, bif_neg (by simp)]
    exact folds_spec hn hl (small_rev hl) (List.reverse_perm _).symm
  | y :: r, pre, q, hcr, hq => by
    obtain ⟨q, rfl⟩ : ∃ q', q = q' + 1 := ⟨q - 1, by simp at hq; omega⟩
    obtain ⟨wy, hle⟩ := hl.cons hcr
    have hlen : l.length = pre.length + (r.length + 1) := by rw [hcr]; simp
    have w1 : IntKind.wrap .i64 ((pre.length : Int) + 1) = ((pre ++ [y]).length : Int) := by rw [w64 (by omega)]; simp
    have ih := f9_0b hn hl r (pre ++ [y]) q (by rw [hcr]; simp) (by simp at hq; omega)
    rw [show T (pre ++ [y]).reverse = Tree.int .i64 y :: T pre.reverse by simp] at ih
    rw [l9_0b, bif_pos (by simp; omega), bif_pos (by simp), nth_W hcr (by simp), Option.bind_some, ok_int, cond_true, toInt_int, wy, bif_pos (fits (by simp; omega)), bif_pos (by simp), Option.bind_some, ok_int, cond_true, toInt_int, wy, bif_pos (fits (by simp; omega)), w1, T_snoc]
    exact ih

theorem l9_nil (n : Nat) : ∀ (q : Nat) (s : Int), L9_1 n q s = L9_1b n q s [] []
  | 0, _ => rfl
  | q + 1, s => by rw [l9_1, l9_1b, l9_nil n q]

theorem f9_0 {n : Nat} (hn : 1200 ≤ n) {l : List Int} (hl : small l) : L9_0 n n (W l) 0 = some (.bool true) := by
  obtain ⟨q, hq⟩ : ∃ q', n = q' + 1 := ⟨n - 1, by omega⟩
  have hs := hl.1
  conv => lhs; arg 2; rw [hq]
  cases l with
  | nil =>
    rw [l9_0, bif_neg (by simp), l9_nil]
    exact folds_spec hn small_nil small_nil (List.Perm.refl _)
  | cons y r =>
    obtain ⟨wy, hle⟩ := hl.cons (p := []) (s := r) rfl
    have w1 : IntKind.wrap .i64 ((0 : Int) + 1) = (([y] : List Int).length : Int) := by rw [w64 (by omega)]; simp
    have ih := f9_0b hn hl r [y] q rfl (by simp at hs; omega)
    rw [l9_0, bif_pos (by simp <;> omega), bif_pos (by simp), show nth (W (y :: r)) (Int.toNat 0) = some (Tree.int .i32 y) from rfl, Option.bind_some, ok_int, cond_true, toInt_int, wy, bif_pos (by simp), Option.bind_some, ok_int, cond_true, toInt_int, wy, w1]
    exact ih

theorem s9 {a0 a1 b0 b1 m : Int} (l : List Int) (ha0 : 0 ≤ a0) (ha1 : 0 ≤ a1) (hb0 : 0 ≤ b0) (hb1 : 0 ≤ b1) (hm : 0 ≤ m) (hl : ∀ y ∈ l, -2147483648 ≤ y ∧ y ≤ 2147483647) :
    Ev E (plenty + 1201 + 1) 9 [.agg [.int .u32 a0, .int .u32 a1], .agg [.int .u32 b0, .int .u32 b1], .int .u32 m, .slc (W l)] (.bool true) :=
  Ev.mk fun n hn => by
    have G := fun a b c d => s25 a b c d n (Nat.le_trans (Nat.add_le_add_left (by decide) _) hn)
    have hpl : 1200 ≤ n := Nat.le_trans (Nat.le_trans (by decide : 1200 ≤ 1201) (Nat.le_add_left _ _)) hn
    clear hn
    rw [e9]
    obtain ⟨x0, e, x00, x01⟩ := tmodB' (m := 1000000) ha0 (by omega) (by omega); rw [e]; clear e
    obtain ⟨x1, e, x10, x11⟩ := tmodB' (m := 1000000) ha1 (by omega) (by omega); rw [e]; clear e
    obtain ⟨y0, e, y00, y01⟩ := tmodB' (m := 1000000) hb0 (by omega) (by omega); rw [e]; clear e
    obtain ⟨y1, e, y10, y11⟩ := tmodB' (m := 1000000) hb1 (by omega) (by omega); rw [e]; clear e
    obtain ⟨k, e, k0, k1⟩ := tmodB' (m := 1000) hm (by omega) (by omega); rw [e]; clear e
    clear ha0 ha1 hb0 hb1 hm
    rw [w64 (x := k + 1) (by omega)]
    obtain ⟨K, hK⟩ : ∃ K, K = k + 1 := ⟨_, rfl⟩
    rw [← hK]
    have mA : 0 ≤ x0 * K ∧ x0 * K ≤ 1000000 * 1000 := ⟨Int.mul_nonneg x00 (by omega), Int.mul_le_mul (by omega) (by omega) (by omega) (by omega)⟩
    have mB : 0 ≤ (y0 + 1) * K ∧ (y0 + 1) * K ≤ 1000000 * 1000 := ⟨Int.mul_nonneg (by omega) (by omega), Int.mul_le_mul (by omega) (by omega) (by omega) (by omega)⟩
    have mB0 : 0 < (y0 + 1) * K := Int.mul_pos (by omega) (by omega)
    have nA : -x0 * K = -(x0 * K) := Int.neg_mul _ _
    have nB : -(y0 + 1) * K = -((y0 + 1) * K) := Int.neg_mul _ _
    rw [w64 (x := x0 + K) (by omega), w64 (x := x1 + K) (by omega), w64 (x := y0 + 1) (by omega), w64 (x := 0 - x0) (by omega), w64 (x := 0 - (y0 + 1)) (by omega), Int.zero_sub, Int.zero_sub, w64 (x := -x0 * K) (by omega), w64 (x := -(y0 + 1) * K) (by omega)]
    have g1 := s14 x0 x1 (x0 + K) (x1 + K) n (by omega)
    rw [sameT, okB_iff.2 (by omega), cond_true, show (x0 - x1 == x0 + K - (x1 + K)) = true by rw [beq_iff_eq]; omega] at g1
    have g2 := s12 x0 x1 y0 y1 n (by omega)
    rw [mulT, okB_iff.2 (by omega), cond_true] at g2
    have g3 := s12 (x0 + K) (x1 + K) y0 y1 n (by omega)
    rw [mulT, okB_iff.2 (by omega), cond_true, show x0 + K - (x1 + K) = x0 - x1 by omega] at g3
    obtain ⟨u, v, w, eP⟩ := pairT_form ((x0 - x1) * (y0 - y1))
    rw [eP] at g2 g3
    have r1 : ratB x0 (y0 + 1) = true := ratB_iff.2 ⟨by unfold isM; omega, by unfold isM; omega, by omega⟩
    have r2 : ratB (-x0 * K) (-(y0 + 1) * K) = true := ratB_iff.2 ⟨by unfold isM; omega, by unfold isM; omega, by omega⟩
    have g4 := G x0 (y0 + 1) y1 7
    have g5 := G (-x0 * K) (-(y0 + 1) * K) y1 7
    rw [addR_scale (by omega) (by omega) r1 r2] at g5
    obtain ⟨u', v', w', eR⟩ := addR_out x0 (y0 + 1) y1 7
    rw [eR] at g4 g5
    refine bstep g1 (bt rfl ?_)
    refine bstep g2 (bt rfl ?_)
    refine bstep g3 (bt rfl (bf rfl (bf rfl (bf ?_ (bf ?_ ?_)))))
    · show (!(u == u && (v == v && true))) = false
      simp
    · show (w != w) = false
      simp
    refine bstep g4 (bt rfl ?_)
    refine bstep g5 (bt rfl (bf ?_ (bf ?_ ?_)))
    · show (!(u' == u' && (v' == v' && true))) = false
      simp
    · show (w' != w') = false
      simp
    by_cases h : l.length > 20
    · refine bt (by simp; omega) (bstep (s15 n (by omega)) (bt rfl rfl))
    · refine bf (by simp; omega) (f9_0 hpl ⟨by omega, hl⟩)

end Go.Proofs.Bw.Qb
