/-
  Layer 28: what the functions of package window return.
-/
import Derived.Test.YtjmkoelmiehdjaaWinA
import Derived.Test.YtjmkoelmiehdjaaFlow
namespace Go.Proofs.Ytjmkoelmiehdjaa.W
open Go.RowKit L
set_option linter.unusedVariables false
set_option linter.unusedSimpArgs false

abbrev winV (s t : Int) (b : Nat) (l : Bool) : Value := .agg #[.int .i64 s, .int .i64 t, .int .u64 (b : Int), .bool l]
def i64In (n : Int) : Prop := -9223372036854775808 ≤ n ∧ n ≤ 9223372036854775807

theorem mask_end1 (n : Int) (h : 0 ≤ n) (h2 : n < 64) : IntKind.u64.wrap (IntKind.u64.wrap (2 ^ n.toNat) - 1) = ((maskN n : Nat) : Int) := by
  have h1 : (2:Nat) ^ n.toNat < 2 ^ 64 := Nat.pow_lt_pow_right (by decide) (by omega)
  have h0 : 0 < (2:Nat) ^ n.toNat := Nat.pow_pos (by decide)
  have e : ((2:Int) ^ n.toNat) = (((2:Nat) ^ n.toNat : Nat) : Int) := by simp
  unfold maskN
  rw [if_neg (by omega), e]
  simp only [IntKind.wrap_u64]
  omega

theorem mask_any (n : Int) (w : World) (h : i64In n) :
    Calls Try.prog 28 #[.int .i64 n] w fun e w' => e = .returned (.int .u64 ((maskN n : Nat) : Int)) ∧ w = w' := by
  obtain ⟨h1, h2⟩ := h
  by_cases h3 : 64 ≤ n
  · go_enter Try.func28, Try.ntmps28
    go_wp2
    go_ret
    exact ⟨by simp [maskN, h3], rfl⟩
  · have h3' : n < 64 := by omega
    clear h3
    by_cases h4 : 0 < n
    · have H := Lib.hid (mask_end1 n (by omega) h3')
      go_enter Try.func28, Try.ntmps28
      go_wp2
      all_goals go_ret
      all_goals first | exact ⟨by rw [H.out]; rfl, rfl⟩ | (exfalso; omega)
    · have H := Lib.hid (show (0 : Int) = ((maskN n : Nat) : Int) by
        have : n.toNat = 0 := by omega
        unfold maskN; rw [if_neg (show ¬ 64 ≤ n by omega), this]; rfl)
      go_enter Try.func28, Try.ntmps28
      go_wp2
      all_goals go_ret
      all_goals refine ⟨?_, rfl⟩
      all_goals first | (rw [← H.out]; rfl) | (exfalso; omega)

theorem lose_any (s t : Int) (b : Nat) (l : Bool) (w : World) :
    Calls Try.prog 12 #[winV s t b l] w fun e w' => e = .returned (winV s (-1) 0 true) ∧ Ext w w' := by
  go_enter Try.func12, Try.ntmps12
  go_wp2
  go_returns
  exact ⟨rfl, by repeat (first | exact Mods.refl _ _ | refine Mods.alloc ?_ _ | refine Mods.drew ?_ | refine Mods.setCell ?_ (by simp) _)⟩

theorem bits_andNot (b : Nat) (m : Int) (hb : b < 2 ^ 64) : bits .andNot .u64 (b : Int) ((maskN m : Nat) : Int) = ((b &&& (2 ^ 64 - 1 - maskN m) : Nat) : Int) := by
  rw [u64_andNot_nat _ _ hb (maskN_lt m)]
theorem bits_and1 (b : Nat) (hb : b < 2 ^ 64) : bits .and .u64 (b : Int) 1 = ((b % 2 : Nat) : Int) := by
  rw [show (1 : Int) = ((1 : Nat) : Int) from rfl, u64_and_nat _ _ hb (by decide), Nat.and_one_is_mod]

theorem cast_beq (a b : Nat) : (((a : Nat) : Int) == ((b : Nat) : Int)) = decide (a = b) := by
  by_cases h : a = b
  · simp [h]
  · have : ¬ ((a : Int) = (b : Int)) := by omega
    simp [h, this]

set_option maxHeartbeats 400000 in
theorem valid_mid (s t : Int) (b : Nat) (c1 c2 c3 : Bool) (w : World) (hb : b < 2 ^ 64) (g1 : 1 ≤ s) (g2 : s ≤ 64) (g3 : -1 ≤ t) (g4 : t ≤ 1099511627775)
    (hm : i64In (if t + 1 < s then t + 1 else s)) (z1 : (bits .andNot .u64 (b : Int) ((maskN (if t + 1 < s then t + 1 else s) : Nat) : Int) == 0) = c1) (z2 : (t == -1) = c2) (z3 : (bits .and .u64 (b : Int) 1 == 1) = c3) :
    Calls Try.prog 18 #[winV s t b false] w fun e w' => e = .returned (.bool (c1 && (c2 || c3))) ∧ Ext w w' := by
  have hw1 : IntKind.i64.wrap (t + 1) = t + 1 := IntWalk.i64_in _ (by omega)
  have h8 : (c1 = false) ∨ (c1 = true ∧ c2 = true) ∨ (c1 = true ∧ c2 = false) := by cases c1 <;> cases c2 <;> simp
  rcases h8 with rfl | ⟨rfl, rfl⟩ | ⟨rfl, rfl⟩
  all_goals
    go_enter Try.func18, Try.ntmps18
    go_wp2
    refine wp_region_x 22 (by kernel_rfl) (by kernel_rfl) (by kernel_rfl) ?_
    simp only [List.take_succ_cons, List.take_zero, List.drop_succ_cons, List.drop_zero]
    refine FlowX.seg [_, _, _, _, _, _, _, _] _ (by kernel_rfl) ?_
    repeat (go_big_quiet_step (fail))
    refine wpQuiet_nil ?_
    refine FlowX.call rfl Try.func28 (by kernel_rfl) (by kernel_rfl) (by kernel_rfl) (by kernel_rfl) (fun x => ext_same (mask_any (if t + 1 < s then t + 1 else s) _ hm)) (by kernel_rfl) ?_
    simp only [Act.put, List.setIfInBounds_toArray, List.set_cons_succ, List.set_cons_zero]
    refine FlowX.seg [_, _, _, _, _, _, _, _, _, _, _, _, _] _ (by kernel_rfl) ?_
    repeat (go_big_quiet_step (fail))
    refine wpQuiet_nil ?_
    refine FlowX.fin (fun x fv hfv => ?_)
    simp only [List.map_nil, List.map_cons, putAll]
    go_wp2
    all_goals (go_ret; exact ⟨by simp [z3], ((Mods.refl _ _).alloc _).drew.trans x.h⟩)

theorem validB_eq (s t : Int) (b : Nat) (hb : b < 2 ^ 64) (g1 : 1 ≤ s) (g2 : s ≤ 64) (g3 : -1 ≤ t) (g4 : t ≤ 1099511627775) :
    validB s t b false = ((bits .andNot .u64 (b : Int) ((maskN (if t + 1 < s then t + 1 else s) : Nat) : Int) == 0) && ((t == -1) || (bits .and .u64 (b : Int) 1 == 1))) := by
  rw [validB_mk s t b hb g1 g2 g3 g4, bits_andNot b _ hb, bits_and1 b hb]
  have e : min s (t + 1) = if t + 1 < s then t + 1 else s := by split <;> omega
  rw [e]
  congr 1
  · exact (cast_beq _ 0).symm
  · congr 1
    exact (cast_beq _ 1).symm

set_option maxHeartbeats 400000 in
theorem valid_any (s t : Int) (b : Nat) (l : Bool) (w : World) (hs : i64In s) (ht : i64In t) (hb : b < 2 ^ 64) :
    Calls Try.prog 18 #[winV s t b l] w fun e w' => e = .returned (.bool (validB s t b l)) ∧ Ext w w' := by
  obtain ⟨hs, hs'⟩ := hs
  obtain ⟨ht, ht'⟩ := ht
  by_cases hg : 1 ≤ s ∧ s ≤ 64 ∧ -1 ≤ t ∧ t ≤ 1099511627775
  · obtain ⟨g1, g2, g3, g4⟩ := hg
    cases l
    · rw [validB_eq s t b hb g1 g2 g3 g4]
      exact valid_mid s t b _ _ _ w hb g1 g2 g3 g4 (by unfold i64In; split <;> omega) rfl rfl rfl
    · have V := Lib.hid (show validB s t b true = (decide (b = 0) && (t == -1)) by simp only [validB, g1, g2, g3, g4]; rw [show (t == -1) = decide (t = -1) from by rw [Bool.eq_iff_iff]; simp]; simp)
      rw [V.out]
      by_cases h0 : b = 0
      · subst h0
        go_enter Try.func18, Try.ntmps18
        go_wp2
        all_goals (go_ret; refine ⟨?_, (Mods.refl _ _).alloc _⟩; simp; try omega)
      · have h0' : ((b : Int) == 0) = false := by simp [h0]
        go_enter Try.func18, Try.ntmps18
        go_wp2
        all_goals (go_ret; refine ⟨?_, (Mods.refl _ _).alloc _⟩; simp [h0]; try omega)
  · have V := Lib.hid (show validB s t b l = false by simp only [validB, hg]; simp)
    rw [V.out]
    clear V
    by_cases g1 : s < 1
    · go_enter Try.func18, Try.ntmps18
      go_wp2
      all_goals (go_ret; exact ⟨rfl, (Mods.refl _ _).alloc _⟩)
    · by_cases g2 : 64 < s
      · go_enter Try.func18, Try.ntmps18
        go_wp2
        all_goals (go_ret; exact ⟨rfl, (Mods.refl _ _).alloc _⟩)
      · by_cases g3 : t < -1
        · go_enter Try.func18, Try.ntmps18
          go_wp2
          all_goals (go_ret; exact ⟨rfl, (Mods.refl _ _).alloc _⟩)
        · have g4 : 1099511627775 < t := by omega
          clear hg
          go_enter Try.func18, Try.ntmps18
          go_wp2
          all_goals (go_ret; exact ⟨rfl, (Mods.refl _ _).alloc _⟩)
end Go.Proofs.Ytjmkoelmiehdjaa.W
