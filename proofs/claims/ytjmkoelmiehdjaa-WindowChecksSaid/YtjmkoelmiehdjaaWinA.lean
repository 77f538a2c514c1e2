/-
  Layer 28: numbers and bits of a window, in plain Lean.
-/
import Derived.Test.YtjmkoelmiehdjaaLib
namespace Go.Proofs.Ytjmkoelmiehdjaa.W
open Go.RowKit
set_option linter.unusedVariables false

def maskN (n : Int) : Nat := if 64 ≤ n then 2 ^ 64 - 1 else 2 ^ n.toNat - 1

theorem maskN_lt (n : Int) : maskN n < 2 ^ 64 := by
  unfold maskN
  split
  · decide
  · have : (2:Nat) ^ n.toNat ≤ 2 ^ 64 := Nat.pow_le_pow_right (by decide) (by omega)
    have h0 : 0 < (2:Nat) ^ n.toNat := Nat.pow_pos (by decide)
    omega

theorem maskN_bit (n : Int) (i : Nat) : (maskN n).testBit i = (decide ((i : Int) < n) && decide (i < 64)) := by
  unfold maskN
  split
  · rw [Nat.testBit_two_pow_sub_one]
    by_cases h : i < 64 <;> simp [h]; omega
  · rw [Nat.testBit_two_pow_sub_one]
    by_cases h : i < n.toNat
    · have h1 : (i : Int) < n := by omega
      have h2 : i < 64 := by omega
      simp [h, h1, h2]
    · have h1 : ¬ (i : Int) < n := by omega
      simp [h, h1]

def okBits (s t : Int) (b : Nat) : Bool := (List.range 64).all fun i => !b.testBit i || (decide ((i : Int) < s) && decide ((i : Int) ≤ t))
theorem okBits_iff (s t : Int) (b : Nat) : okBits s t b = true ↔ ∀ i, i < 64 → b.testBit i = true → (i : Int) < s ∧ (i : Int) ≤ t := by
  unfold okBits
  simp only [List.all_eq_true, List.mem_range, Bool.or_eq_true, Bool.not_eq_true', Bool.and_eq_true, decide_eq_true_eq]
  constructor
  · intro h i hi hb; have := h i hi; simp [hb] at this; exact this
  · intro h i hi
    by_cases hb : b.testBit i = true
    · exact .inr (h i hi hb)
    · simp at hb; exact .inl hb

def validB (s t : Int) (b : Nat) (l : Bool) : Bool :=
  decide (1 ≤ s ∧ s ≤ 64 ∧ -1 ≤ t ∧ t ≤ 1099511627775) &&
    (if l then decide (b = 0) && decide (t = -1)
     else okBits s t b && (decide (t = -1) || b.testBit 0))

theorem clear_iff (b : Nat) (m : Int) (hb : b < 2 ^ 64) : b &&& (2 ^ 64 - 1 - maskN m) = 0 ↔ ∀ i, i < 64 → b.testBit i = true → (i : Int) < m := by
  have e : 2 ^ 64 - 1 - maskN m = 2 ^ 64 - (maskN m + 1) := by omega
  rw [e]
  constructor
  · intro h i hi hbi
    have := congrArg (fun x => x.testBit i) h
    simp only [Nat.testBit_and, Nat.testBit_two_pow_sub_succ (maskN_lt m), Nat.zero_testBit, maskN_bit, hbi, hi] at this
    simpa using this
  · intro h
    apply Nat.eq_of_testBit_eq
    intro i
    simp only [Nat.testBit_and, Nat.testBit_two_pow_sub_succ (maskN_lt m), Nat.zero_testBit, maskN_bit]
    by_cases hi : i < 64
    · by_cases hbi : b.testBit i = true
      · have := h i hi hbi; simp [hi, this]
      · simp [hbi]
    · simp [hi]

theorem bit0 (b : Nat) : b.testBit 0 = decide (b % 2 = 1) := by simp [Nat.testBit_zero]

theorem validB_mk (s t : Int) (b : Nat) (hb : b < 2 ^ 64) (h1 : 1 ≤ s) (h2 : s ≤ 64) (h3 : -1 ≤ t) (h4 : t ≤ 1099511627775) :
    validB s t b false = (decide (b &&& (2 ^ 64 - 1 - maskN (min s (t + 1))) = 0) && (decide (t = -1) || decide (b % 2 = 1))) := by
  unfold validB
  rw [← bit0]
  have : okBits s t b = decide (b &&& (2 ^ 64 - 1 - maskN (min s (t + 1))) = 0) := by
    rw [Bool.eq_iff_iff, okBits_iff, decide_eq_true_iff, clear_iff b _ hb]
    constructor
    · intro h i hi hbi; have := h i hi hbi; omega
    · intro h i hi hbi; have := h i hi hbi; omega
  rw [this]
  simp [h1, h2, h3, h4]

end Go.Proofs.Ytjmkoelmiehdjaa.W
