/-
  SPECS 5: numbers of up to 128 bits: compared, added, divided.
-/
import Derived.Test.YtfkidinbolmkiaaQbS4
set_option linter.unusedSimpArgs false
set_option linter.unusedVariables false
namespace Go.Proofs.Bw.Qb
open Go.Proofs

def Hi (m : Nat) : Int := ((m / 18446744073709551616 : Nat) : Int)
def Lo (m : Nat) : Int := ((m % 18446744073709551616 : Nat) : Int)

theorem wideP_eq (neg : Bool) (m : Nat) : wideP neg m = .agg [.bool neg, .int .u64 (Hi m), .int .u64 (Lo m)] := rfl
theorem Hi_U {m : Nat} (h : m < 340282366920938463463374607431768211456) : isU (Hi m) := isU_hi h
theorem Lo_U (m : Nat) : isU (Lo m) := isU_lo

def cmpN (a b : Nat) : Int := if a < b then -1 else if b < a then 1 else 0

theorem s104 (a b : Nat) : Ev E 2 104 [U a, U b] (I (cmpN a b)) :=
  Ev.mk fun n hn => by
    have h110 : ∀ x : Int, evP E n 110 [.int .u64 x] = some (.bool false) := fun x => by
      have : Ev E 1 110 [.int .u64 x] (.bool false) := Ev.mk fun k _ => by rw [e110]; simp
      exact this n hn
    rw [e104, h110, h110]
    simp only [Option.bind_some, ok_bool, cond_true, toBool_bool, cond_false]
    unfold cmpN
    by_cases h : a < b
    · rw [bif_pos (decide_eq_true (by omega)), if_pos h]
    · rw [bif_neg (decide_eq_false (by omega)), if_neg h]
      by_cases h2 : b < a
      · rw [bif_pos (decide_eq_true (by omega)), if_pos h2]
      · rw [bif_neg (decide_eq_false (by omega)), if_neg h2]

theorem s103 (x y : Int) : Ev E 4 103 [.slc [I x, I y]] (I (if x = 0 then y else x)) :=
  Ev.mk fun n hn => by
    obtain ⟨n, rfl⟩ : ∃ k, n = k + 3 := ⟨n - 3, by omega⟩
    rw [e103]
    show L103_0 (n + 3) (Nat.succ (Nat.succ (Nat.succ n))) 0 [I x, I y] 2 0 = _
    rw [l103_0]
    simp only [show decide ((0 : Int) < 2) = true from rfl, show decide ((0 : Int) ≤ 0) = true from rfl, cond_true, show Int.toNat 0 = 0 from rfl, nth, Option.bind_some, ok_int, toInt_int]
    by_cases hx : x = 0
    · subst hx
      rw [if_pos rfl, bif_neg (by simp), show IntKind.wrap .i64 (0 + 1) = 1 from rfl, l103_0]
      simp only [show decide ((1 : Int) < 2) = true from rfl, show decide ((0 : Int) ≤ 1) = true from rfl, cond_true, show Int.toNat 1 = 1 from rfl, nth, Option.bind_some, ok_int, toInt_int]
      by_cases hy : y = 0
      · subst hy
        rw [bif_neg (by simp), show IntKind.wrap .i64 (1 + 1) = 2 from rfl, l103_0]
        rfl
      · rw [bif_pos (by simp [hy])]
    · rw [if_neg hx, bif_pos (by simp [hx])]

theorem s90 (na nb : Bool) (a b : Nat) : Ev E 5 90 [wideP na a, wideP nb b] (I (cmpN a b)) :=
  Ev.mk fun n hn => by
    rw [wideP_eq, wideP_eq, e90]
    have h1 := s104 (a / 18446744073709551616) (b / 18446744073709551616) n (by omega)
    have h2 := s104 (a % 18446744073709551616) (b % 18446744073709551616) n (by omega)
    have h3 := s103 (cmpN (a / 18446744073709551616) (b / 18446744073709551616)) (cmpN (a % 18446744073709551616) (b % 18446744073709551616)) n (by omega)
    unfold Hi Lo
    rw [h1, h2]
    simp only [Option.bind_some, ok_int, cond_true, toInt_int]
    rw [h3]
    simp only [Option.bind_some, ok_int, cond_true, toInt_int]
    congr 2
    unfold cmpN
    by_cases c1 : a / 18446744073709551616 < b / 18446744073709551616
    · rw [if_pos c1, if_pos (show a < b by omega)]; rfl
    · rw [if_neg c1]
      by_cases c2 : b / 18446744073709551616 < a / 18446744073709551616
      · rw [if_pos c2, if_neg (show ¬ a < b by omega), if_pos (show b < a by omega)]; rfl
      · rw [if_neg c2, if_pos rfl]
        by_cases c3 : a % 18446744073709551616 < b % 18446744073709551616
        · rw [if_pos c3, if_pos (by omega)]
        · rw [if_neg c3, if_neg (show ¬ a < b by omega)]
          by_cases c4 : b % 18446744073709551616 < a % 18446744073709551616
          · rw [if_pos c4, if_pos (by omega)]
          · rw [if_neg c4, if_neg (by omega)]

/-- A sum, as 'plus' tells it. -/
def plusT (na nb : Bool) (a b : Nat) : Tree :=
  if na = nb then wideP na (a + b)
  else if a < b then wideP (nb && decide (b - a ≠ 0)) (b - a) else wideP (na && decide (a - b ≠ 0)) (a - b)

theorem add_words {a b : Nat} (h : a + b < 340282366920938463463374607431768211456) :
    ((((Int.toNat (Hi a) + Int.toNat (Hi b) + Int.toNat (((Int.toNat (Lo a) + Int.toNat (Lo b) + Int.toNat 0) / 18446744073709551616 : Nat) : Int)) % 18446744073709551616 : Nat)) : Int) = Hi (a + b) ∧
    (((Int.toNat (Lo a) + Int.toNat (Lo b) + Int.toNat 0) % 18446744073709551616 : Nat) : Int) = Lo (a + b) ∧
    (decide ((((Int.toNat (Lo a) + Int.toNat (Lo b) + Int.toNat 0) / 18446744073709551616 : Nat) : Int) = 0) || decide ((((Int.toNat (Lo a) + Int.toNat (Lo b) + Int.toNat 0) / 18446744073709551616 : Nat) : Int) = 1)) = true := by
  simp only [Hi, Lo, Int.toNat_natCast, show Int.toNat 0 = 0 from rfl, Bool.or_eq_true, decide_eq_true_eq]
  omega

/-- The borrow of the low words. -/
def borrow (a b : Nat) : Int := if a % 18446744073709551616 < b % 18446744073709551616 then 1 else 0

theorem sub_words {a b : Nat} (hb : b ≤ a) (h : a < 340282366920938463463374607431768211456) :
    (((Int.toNat (Hi a) + 18446744073709551616 - Int.toNat (Hi b) - Int.toNat (borrow a b)) % 18446744073709551616 : Nat) : Int) = Hi (a - b) ∧
    (((Int.toNat (Lo a) + 18446744073709551616 - Int.toNat (Lo b) - Int.toNat 0) % 18446744073709551616 : Nat) : Int) = Lo (a - b) ∧
    (decide (borrow a b = 0) || decide (borrow a b = 1)) = true := by
  simp only [Hi, Lo, Int.toNat_natCast, show Int.toNat 0 = 0 from rfl, Bool.or_eq_true, decide_eq_true_eq, borrow]
  split
  · refine ⟨congrArg Int.ofNat ?_, congrArg Int.ofNat ?_, .inr rfl⟩
    · show (a / 18446744073709551616 + 18446744073709551616 - b / 18446744073709551616 - 1) % 18446744073709551616 = _
      omega
    · omega
  · refine ⟨congrArg Int.ofNat ?_, congrArg Int.ofNat ?_, .inl rfl⟩
    · show (a / 18446744073709551616 + 18446744073709551616 - b / 18446744073709551616 - 0) % 18446744073709551616 = _
      omega
    · omega

theorem ne_words {m : Nat} (h : m < 340282366920938463463374607431768211456) : (IntKind.wrap .u64 ((BitVec.ofInt 64 (Hi m) ||| BitVec.ofInt 64 (Lo m)).toNat) != 0) = decide (m ≠ 0) := by
  rw [or_zero (Hi_U h) (Lo_U m)]; exact parts_ne

theorem s62 {na nb : Bool} {a b : Nat} (h : a + b < 340282366920938463463374607431768211456) : Ev E 6 62 [wideP na a, wideP nb b] (plusT na nb a b) :=
  Ev.mk fun n hn => by
    rw [wideP_eq, wideP_eq, e62]
    simp only [gate_eq]
    unfold plusT
    by_cases hn' : na = nb
    · obtain ⟨w1, w2, w3⟩ := add_words h
      rw [if_pos hn', bif_pos (by rw [hn']; exact beq_self_eq_true _), bif_pos w3, w1, w2]
      rfl
    · rw [if_neg hn', bif_neg (by simpa using hn')]
      have hc := s90 na nb a b n (by omega)
      rw [wideP_eq, wideP_eq] at hc
      rw [hc]
      simp only [Option.bind_some, ok_int, cond_true, toInt_int]
      have bor (x y : Nat) : borrow x y = bif decide (Int.toNat (Lo x) < Int.toNat (Lo y) + Int.toNat 0) then 1 else 0 := by
        unfold borrow
        simp only [Lo, Int.toNat_natCast, show Int.toNat 0 = 0 from rfl, Nat.add_zero]
        by_cases hh : x % 18446744073709551616 < y % 18446744073709551616
        · rw [if_pos hh, decide_eq_true hh]; rfl
        · rw [if_neg hh, decide_eq_false hh]; rfl
      by_cases hab : a < b
      · obtain ⟨w1, w2, w3⟩ := sub_words (Nat.le_of_lt hab) (by omega)
        have m0 := ne_words (m := b - a) (by omega)
        rw [if_pos hab, bif_pos (by unfold cmpN; rw [if_pos hab]; rfl)]
        rw [bor b a] at w1 w3
        cases hd : decide (Int.toNat (Lo b) < Int.toNat (Lo a) + Int.toNat 0) with
        | true =>
          rw [hd] at w1 w3
          simp only [cond_true] at w1 w3 ⊢
          rw [bif_pos w3, w1, w2, m0]
          cases nb <;> rfl
        | false =>
          rw [hd] at w1 w3
          simp only [cond_false] at w1 w3 ⊢
          rw [bif_pos w3, w1, w2, m0]
          cases nb <;> rfl
      · obtain ⟨w1, w2, w3⟩ := sub_words (Nat.le_of_not_lt hab) (by omega)
        have m0 := ne_words (m := a - b) (by omega)
        rw [if_neg hab, bif_neg (by unfold cmpN; rw [if_neg hab]; split <;> rfl)]
        rw [bor a b] at w1 w3
        cases hd : decide (Int.toNat (Lo a) < Int.toNat (Lo b) + Int.toNat 0) with
        | true =>
          rw [hd] at w1 w3
          simp only [cond_true] at w1 w3 ⊢
          rw [bif_pos w3, w1, w2, m0]
          cases na <;> rfl
        | false =>
          rw [hd] at w1 w3
          simp only [cond_false] at w1 w3 ⊢
          rw [bif_pos w3, w1, w2, m0]
          cases na <;> rfl

end Go.Proofs.Bw.Qb
