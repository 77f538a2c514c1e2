/-
  Layer 28: the numbers of a window and one more, as bits.
-/
import Derived.Test.YtjmkoelmiehdjaaWinI
namespace Go.Proofs.Ytjmkoelmiehdjaa.W
open Go.RowKit L
set_option linter.unusedVariables false
set_option linter.unusedSimpArgs false

def hits (s t : Int) (i : Nat) (n : Int) : Bool := decide (0 ≤ t - n) && (decide (t - n < s) && decide ((t - n).toNat = i))

theorem madeStep_bit (s t : Int) (acc : Nat) (n : Int) (i : Nat) : (madeStep s t acc n).testBit i = (acc.testBit i || hits s t i n) := by
  unfold madeStep hits
  by_cases h1 : 0 ≤ t - n
  · by_cases h2 : t - n < s
    · rw [if_pos ⟨h1, h2⟩, Nat.testBit_or, Nat.testBit_two_pow]
      simp only [h1, h2, decide_true, Bool.true_and]
    · rw [if_neg fun h => h2 h.2]; simp [h2]
  · rw [if_neg fun h => h1 h.1, decide_eq_false h1]; simp

theorem foldl_made_bit (s t : Int) (i : Nat) : ∀ (l : List Int) (acc : Nat), (l.foldl (madeStep s t) acc).testBit i = (acc.testBit i || l.any (hits s t i))
  | [], acc => by simp
  | n :: l, acc => by
    rw [List.foldl_cons, foldl_made_bit s t i l, madeStep_bit, List.any_cons, Bool.or_assoc]

theorem madeN_bit (s t : Int) (l : List Int) (i : Nat) : (madeN s t l).testBit i = l.any (hits s t i) := by
  unfold madeN
  rw [foldl_made_bit]; simp

theorem mem_seen (t : Int) (b : Nat) (n : Int) : n ∈ seenTo t b 64 ↔ ∃ j : Nat, j < 64 ∧ b.testBit j = true ∧ n = t - (j : Int) := by
  unfold seenTo
  simp only [List.mem_map, List.mem_filter, List.mem_range]
  constructor
  · rintro ⟨q, ⟨hq, hb⟩, rfl⟩
    exact ⟨63 - q, by omega, hb, rfl⟩
  · rintro ⟨j, hj, hb, rfl⟩
    exact ⟨63 - j, ⟨by omega, by rw [show 63 - (63 - j) = j by omega]; exact hb⟩, by rw [show 63 - (63 - j) = j by omega]⟩

theorem accGt_bit (s : Int) (b k i : Nat) : (accGt s b k).testBit i = ((decide (k ≤ i) && b.testBit (i - k) && decide (i < 64) && decide ((i : Int) < s)) || decide (i = 0)) := by
  unfold accGt
  rw [Nat.testBit_or, Nat.testBit_and, maskN_bit, Nat.testBit_mod_two_pow, Nat.testBit_mul_two_pow, show (1 : Nat) = 2 ^ 0 from rfl, Nat.testBit_two_pow]
  have e : decide (0 = i) = decide (i = 0) := by rw [decide_eq_decide]; omega
  rw [e]
  by_cases h1 : i < 64 <;> by_cases h2 : (i : Int) < s <;> simp [h1, h2]

theorem made_acc (s t : Int) (b : Nat) (n : Int) (hb64 : b < 2 ^ 64) (h : checkE s t b false n = 0) (hv : validB s t b false = true) : madeN s (accT t n) (seenTo t b 64 ++ [n]) = accB s t b n := by
  obtain ⟨⟨g1, g2, g3, g4⟩, g5, g6, -, g7⟩ := checkE_zero h
  have hok : ∀ i, i < 64 → b.testBit i = true → (i : Int) < s ∧ (i : Int) ≤ t := by
    simp only [validB, Bool.and_eq_true, Bool.false_eq_true, if_false] at hv
    exact (okBits_iff s t b).1 hv.2.1
  apply Nat.eq_of_testBit_eq
  intro i
  rw [madeN_bit, List.any_append]
  have hany : ∀ T : Int, (seenTo t b 64).any (hits s T i) = true ↔ ∃ j : Nat, j < 64 ∧ b.testBit j = true ∧ 0 ≤ T - (t - (j : Int)) ∧ T - (t - (j : Int)) < s ∧ (T - (t - (j : Int))).toNat = i := by
    intro T
    rw [List.any_eq_true]
    constructor
    · rintro ⟨x, hx, hh⟩
      obtain ⟨j, hj, hb, rfl⟩ := (mem_seen t b x).1 hx
      simp only [hits, Bool.and_eq_true, decide_eq_true_eq] at hh
      exact ⟨j, hj, hb, hh.1, hh.2.1, hh.2.2⟩
    · rintro ⟨j, hj, hb, h1, h2, h3⟩
      exact ⟨_, (mem_seen t b _).2 ⟨j, hj, hb, rfl⟩, by simp only [hits, Bool.and_eq_true, decide_eq_true_eq]; exact ⟨h1, h2, h3⟩⟩
  unfold accT accB
  by_cases hgt : t < n
  · simp only [if_pos hgt]
    rw [accGt_bit, Bool.eq_iff_iff]
    simp only [Bool.or_eq_true, hany, List.any_cons, List.any_nil, Bool.or_false, Bool.and_eq_true, decide_eq_true_eq]
    constructor
    · rintro (⟨j, hj, hb, h1, h2, h3⟩ | hh)
      · left
        refine ⟨⟨⟨by omega, ?_⟩, by omega⟩, by omega⟩
        rw [show i - (n - t).toNat = j by omega]; exact hb
      · right
        simp only [hits, Bool.and_eq_true, decide_eq_true_eq] at hh
        omega
    · rintro (⟨⟨⟨h1, h2⟩, h3⟩, h4⟩ | h0)
      · left
        exact ⟨i - (n - t).toNat, by omega, h2, by omega, by omega, by omega⟩
      · right
        simp only [hits, Bool.and_eq_true, decide_eq_true_eq]
        omega
  · simp only [if_neg hgt]
    unfold accLe
    rw [Nat.testBit_or, Nat.testBit_two_pow, Bool.eq_iff_iff]
    simp only [Bool.or_eq_true, hany, List.any_cons, List.any_nil, Bool.or_false, Bool.and_eq_true, decide_eq_true_eq]
    constructor
    · rintro (⟨j, hj, hb, h1, h2, h3⟩ | hh)
      · left
        rw [show i = j by omega]; exact hb
      · right
        simp only [hits, Bool.and_eq_true, decide_eq_true_eq] at hh
        exact hh.2.2
    · rintro (h1 | h1)
      · left
        have hi : i < 64 := by
          rcases Nat.lt_or_ge i 64 with h | h
          · exact h
          · rw [Nat.testBit_lt_two_pow (Nat.lt_of_lt_of_le hb64 (Nat.pow_le_pow_right (by decide) h))] at h1; cases h1
        have := hok i hi h1
        exact ⟨i, hi, h1, by omega, by omega, by omega⟩
      · right
        simp only [hits, Bool.and_eq_true, decide_eq_true_eq]
        omega
end Go.Proofs.Ytjmkoelmiehdjaa.W
