/-
  Layer 28: what the functions of package window return, continued.
-/
import Derived.Test.YtjmkoelmiehdjaaWinB
namespace Go.Proofs.Ytjmkoelmiehdjaa.W
open Go.RowKit L
set_option linter.unusedVariables false
set_option linter.unusedSimpArgs false

def rightB (s t : Int) (b : Nat) (l : Bool) (n : Int) : Bool := validB s t b l && (decide (0 ≤ n) && decide (n ≤ 1099511627775))

theorem validB_bd {s t : Int} {b : Nat} {l : Bool} (h : validB s t b l = true) : 1 ≤ s ∧ s ≤ 64 ∧ -1 ≤ t ∧ t ≤ 1099511627775 := by
  simp only [validB, Bool.and_eq_true, decide_eq_true_eq] at h
  exact h.1

theorem rightB_bd {s t : Int} {b : Nat} {l : Bool} {n : Int} (h : rightB s t b l n = true) : (1 ≤ s ∧ s ≤ 64 ∧ -1 ≤ t ∧ t ≤ 1099511627775) ∧ 0 ≤ n ∧ n ≤ 1099511627775 := by
  simp only [rightB, Bool.and_eq_true, decide_eq_true_eq] at h
  exact ⟨validB_bd h.1, h.2⟩

set_option maxHeartbeats 400000 in
theorem right_any (s t : Int) (b : Nat) (l : Bool) (n : Int) (w : World) (hs : i64In s) (ht : i64In t) (hb : b < 2 ^ 64) (hn : i64In n) :
    Calls Try.prog 27 #[winV s t b l, .int .i64 n] w fun e w' => e = .returned (.bool (rightB s t b l n)) ∧ Ext w w' := by
  obtain ⟨hn, hn'⟩ := hn
  have hv := fun w => valid_any s t b l w hs ht hb
  unfold rightB
  generalize validB s t b l = v at *
  have H := Lib.hid hv
  clear hv
  cases v
  all_goals
    go_enter Try.func27, Try.ntmps27
    go_wp2_with fail
    refine (H.out _).mono ?_
    rintro e w' ⟨rfl, hE⟩
    go_wp2
    all_goals (go_ret; refine ⟨?_, ((Mods.refl _ _).alloc _).trans hE⟩)
    all_goals first | rfl | (simp; done) | (simp; omega)

/-- Why a number is not accepted. -/
def checkE (s t : Int) (b : Nat) (l : Bool) (n : Int) : Int :=
  if rightB s t b l n = false then 1 else if l then 34 else if n ≤ t - s ∨ (n ≤ t ∧ b.testBit (t - n).toNat = true) then 33 else 0

theorem shr_bit (b k : Nat) (hb : b < 2 ^ 64) : (bits .and .u64 ((b : Int) / 2 ^ k) 1 == 1) = b.testBit k := by
  have e : ((b : Int) / 2 ^ k) = ((b / 2 ^ k : Nat) : Int) := by simp
  have h : b / 2 ^ k < 2 ^ 64 := Nat.lt_of_le_of_lt (Nat.div_le_self _ _) hb
  rw [e, bits_and1 _ h, Nat.testBit_eq_decide_div_mod_eq]
  exact cast_beq _ 1

set_option maxHeartbeats 400000 in
theorem check_any (s t : Int) (b : Nat) (l : Bool) (n : Int) (w : World) (hs : i64In s) (ht : i64In t) (hb : b < 2 ^ 64) (hn : i64In n) :
    Calls Try.prog 16 #[winV s t b l, .int .i64 n] w fun e w' => e = .returned (.int .i64 (checkE s t b l n)) ∧ Ext w w' := by
  have hq := fun w => right_any s t b l n w hs ht hb hn
  by_cases hr : rightB s t b l n = true
  · obtain ⟨⟨g1, g2, g3, g4⟩, g5, g6⟩ := rightB_bd hr
    rw [hr] at hq
    have H := Lib.hid hq
    clear hq
    cases l
    · have hsh := fun k => shr_bit b k hb
      have V := Lib.hid (show checkE s t b false n = if n ≤ t - s ∨ (n ≤ t ∧ b.testBit (t - n).toNat = true) then 33 else 0 by simp [checkE, hr])
      clear hr hn hs ht
      rw [V.out]
      clear V
      by_cases c1 : n ≤ t - s
      · go_enter Try.func16, Try.ntmps16
        go_wp2_with fail
        refine (H.out _).mono ?_
        rintro e w' ⟨rfl, hE⟩
        obtain ⟨hc1, hc2, hc3⟩ := hE.cells
        go_wp2
        all_goals (go_ret; refine ⟨?_, ((Mods.refl _ _).alloc _).trans hE⟩; simp [c1])
      · by_cases c2 : n ≤ t
        · generalize hx : b.testBit (t - n).toNat = xb
          have hz := (hsh (t - n).toNat).trans hx
          clear hsh
          have HX := Lib.hid hx
          clear hx
          cases xb
          all_goals
            go_enter Try.func16, Try.ntmps16
            go_wp2_with fail
            refine (H.out _).mono ?_
            rintro e w' ⟨rfl, hE⟩
            obtain ⟨hc1, hc2, hc3⟩ := hE.cells
            go_wp2
            all_goals (go_ret; refine ⟨?_, ((Mods.refl _ _).alloc _).trans hE⟩; simp [c1, c2])
        · clear hsh
          go_enter Try.func16, Try.ntmps16
          go_wp2_with fail
          refine (H.out _).mono ?_
          rintro e w' ⟨rfl, hE⟩
          obtain ⟨hc1, hc2, hc3⟩ := hE.cells
          go_wp2
          all_goals (go_ret; refine ⟨?_, ((Mods.refl _ _).alloc _).trans hE⟩; simp [c1, c2])
    · have V := Lib.hid (show checkE s t b true n = 34 by simp [checkE, hr])
      clear hr
      rw [V.out]
      go_enter Try.func16, Try.ntmps16
      go_wp2_with fail
      refine (H.out _).mono ?_
      rintro e w' ⟨rfl, hE⟩
      obtain ⟨hc1, hc2, hc3⟩ := hE.cells
      go_wp2
      go_ret
      exact ⟨rfl, ((Mods.refl _ _).alloc _).trans hE⟩
  · have hr' : rightB s t b l n = false := by simpa using hr
    rw [hr'] at hq
    have H := Lib.hid hq
    have V := Lib.hid (show checkE s t b l n = 1 by simp [checkE, hr'])
    clear hq hr hr'
    rw [V.out]
    go_enter Try.func16, Try.ntmps16
    go_wp2_with fail
    refine (H.out _).mono ?_
    rintro e w' ⟨rfl, hE⟩
    go_wp2
    go_ret
    exact ⟨rfl, ((Mods.refl _ _).alloc _).trans hE⟩

theorem new_any (n : Int) (w : World) : Calls Try.prog 15 #[.int .i64 n] w fun e w' =>
    e = .returned (.tuple #[if 1 ≤ n ∧ n ≤ 64 then winV n (-1) 0 false else winV 0 0 0 false, .int .i64 (if 1 ≤ n ∧ n ≤ 64 then 0 else 1)]) ∧ Ext w w' := by
  by_cases h1 : 1 ≤ n
  · by_cases h2 : n ≤ 64
    · rw [if_pos ⟨h1, h2⟩, if_pos ⟨h1, h2⟩]
      go_enter Try.func15, Try.ntmps15
      go_wp2
      all_goals (go_returns; refine ⟨rfl, ?_⟩)
      all_goals (repeat (first | exact Mods.refl _ _ | refine Mods.alloc ?_ _ | refine Mods.setCell ?_ (by simp) _))
    · rw [if_neg (fun h => h2 h.2), if_neg (fun h => h2 h.2)]
      go_enter Try.func15, Try.ntmps15
      go_wp2
      all_goals (go_returns; refine ⟨rfl, ?_⟩)
      all_goals (repeat (first | exact Mods.refl _ _ | refine Mods.alloc ?_ _ | refine Mods.setCell ?_ (by simp) _))
  · rw [if_neg (fun h => h1 h.1), if_neg (fun h => h1 h.1)]
    go_enter Try.func15, Try.ntmps15
    go_wp2
    all_goals (go_returns; refine ⟨rfl, ?_⟩)
    all_goals (repeat (first | exact Mods.refl _ _ | refine Mods.alloc ?_ _ | refine Mods.setCell ?_ (by simp) _))
end Go.Proofs.Ytjmkoelmiehdjaa.W
