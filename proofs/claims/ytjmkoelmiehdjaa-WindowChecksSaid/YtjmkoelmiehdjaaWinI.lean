/-
  Layer 28: the reference's Check, Accept, Recover.
-/
import Derived.Test.YtjmkoelmiehdjaaWinH
namespace Go.Proofs.Ytjmkoelmiehdjaa.W
open Go.RowKit L
set_option linter.unusedVariables false
set_option linter.unusedSimpArgs false

set_option maxHeartbeats 800000 in
theorem rcheck_any (s t : Int) (b : Nat) (l : Bool) (n : Int) (w : World) (hs : i64In s) (ht : i64In t) (hb : b < 2 ^ 64) (hn : i64In n) :
    Calls Try.prog 20 #[winV s t b l, .int .i64 n] w fun e w' => e = .returned (.int .i64 (checkE s t b l n)) ∧ Ext w w' := by
  obtain ⟨hn1, hn2⟩ := hn
  have hv := fun w => rvalid_any s t b l w hs ht hb
  by_cases hr : rightB s t b l n = true
  · obtain ⟨⟨g1, g2, g3, g4⟩, g5, g6⟩ := rightB_bd hr
    have hvv : validB s t b l = true := by simp only [rightB, Bool.and_eq_true] at hr; exact hr.1
    rw [hvv] at hv
    have H := Lib.hid hv
    clear hv hvv
    cases l
    · have V := Lib.hid (show checkE s t b false n = if n ≤ t - s ∨ (n ≤ t ∧ b.testBit (t - n).toNat = true) then 33 else 0 by simp [checkE, hr])
      clear hr hs ht
      rw [V.out]
      clear V
      by_cases c1 : n ≤ t - s
      · go_enter Try.func20, Try.ntmps20
        go_wp2_with fail
        refine (H.out _).mono ?_
        rintro e w' ⟨rfl, hE⟩
        obtain ⟨hc1, hc2, hc3⟩ := hE.cells
        go_wp2
        all_goals (go_ret; refine ⟨by simp [c1], ?_⟩)
        repeat (first | (with_reducible exact Mods.refl _ _) | (with_reducible refine Mods.alloc ?_ _) | (with_reducible refine Mods.drew ?_) | (with_reducible refine Mods.setCell ?_ (fun hlt => (by first | (simp at hlt; done) | (simp at hlt; omega) | (show _ ≤ _; omega) | (show _ < _; omega))) _) | (with_reducible refine Mods.trans ?_ hE))
      · by_cases c2 : n ≤ t
        · have hbit := fun w => rbit_any s t b false (t - n) w hb
          have hq : bitB b (t - n) = b.testBit (t - n).toNat := by
            have h1 : 0 ≤ t - n := by omega
            have h2 : t - n < 64 := by omega
            simp [bitB, h1, h2, c2]
          rw [hq] at hbit
          have HB := Lib.hid hbit
          clear hbit hq
          generalize hx : b.testBit (t - n).toNat = x at *
          have HX := Lib.hid hx
          clear hx
          cases x
          all_goals
            go_enter Try.func20, Try.ntmps20
            go_wp2_with fail
            refine (H.out _).mono ?_
            rintro e w' ⟨rfl, hE⟩
            obtain ⟨hc1, hc2, hc3⟩ := hE.cells
            go_wp2_with fail
            refine (HB.out _).mono ?_
            rintro e w2 ⟨rfl, hE2⟩
            go_wp2
            all_goals (go_ret; refine ⟨by simp [c1, c2], ?_⟩)
            repeat (first | (with_reducible exact Mods.refl _ _) | (with_reducible refine Mods.alloc ?_ _) | (with_reducible refine Mods.drew ?_) | (with_reducible refine Mods.setCell ?_ (fun hlt => (by first | (simp at hlt; done) | (simp at hlt; omega) | (show _ ≤ _; omega) | (show _ < _; omega))) _) | (with_reducible refine Mods.trans ?_ hE2) | (with_reducible refine Mods.trans ?_ hE))
        · go_enter Try.func20, Try.ntmps20
          go_wp2_with fail
          refine (H.out _).mono ?_
          rintro e w' ⟨rfl, hE⟩
          obtain ⟨hc1, hc2, hc3⟩ := hE.cells
          go_wp2
          all_goals (go_ret; refine ⟨by simp [c1, c2], ?_⟩)
          repeat (first | (with_reducible exact Mods.refl _ _) | (with_reducible refine Mods.alloc ?_ _) | (with_reducible refine Mods.drew ?_) | (with_reducible refine Mods.setCell ?_ (fun hlt => (by first | (simp at hlt; done) | (simp at hlt; omega) | (show _ ≤ _; omega) | (show _ < _; omega))) _) | (with_reducible refine Mods.trans ?_ hE))
    · have V := Lib.hid (show checkE s t b true n = 34 by simp [checkE, hr])
      clear hr
      rw [V.out]
      go_enter Try.func20, Try.ntmps20
      go_wp2_with fail
      refine (H.out _).mono ?_
      rintro e w' ⟨rfl, hE⟩
      obtain ⟨hc1, hc2, hc3⟩ := hE.cells
      go_wp2
      go_ret
      refine ⟨rfl, ?_⟩
      repeat (first | (with_reducible exact Mods.refl _ _) | (with_reducible refine Mods.alloc ?_ _) | (with_reducible refine Mods.drew ?_) | (with_reducible refine Mods.setCell ?_ (fun hlt => (by first | (simp at hlt; done) | (simp at hlt; omega) | (show _ ≤ _; omega) | (show _ < _; omega))) _) | (with_reducible refine Mods.trans ?_ hE))
  · have hr' : rightB s t b l n = false := by simpa using hr
    have V := Lib.hid (show checkE s t b l n = 1 by simp [checkE, hr'])
    rw [V.out]
    have hr2 := hr'
    unfold rightB at hr2
    generalize validB s t b l = v at *
    have H := Lib.hid hv
    clear hv hr hr'
    cases v
    · clear hr2
      go_enter Try.func20, Try.ntmps20
      go_wp2_with fail
      refine (H.out _).mono ?_
      rintro e w' ⟨rfl, hE⟩
      go_wp2
      go_ret
      refine ⟨rfl, ?_⟩
      repeat (first | (with_reducible exact Mods.refl _ _) | (with_reducible refine Mods.alloc ?_ _) | (with_reducible refine Mods.drew ?_) | (with_reducible refine Mods.setCell ?_ (fun hlt => (by first | (simp at hlt; done) | (simp at hlt; omega) | (show _ ≤ _; omega) | (show _ < _; omega))) _) | (with_reducible refine Mods.trans ?_ hE))
    · have hnn : n < 0 ∨ 1099511627775 < n := by simp at hr2; omega
      clear hr2
      by_cases h0 : n < 0
      · clear hnn
        go_enter Try.func20, Try.ntmps20
        go_wp2_with fail
        refine (H.out _).mono ?_
        rintro e w' ⟨rfl, hE⟩
        go_wp2
        go_ret
        refine ⟨rfl, ?_⟩
        repeat (first | (with_reducible exact Mods.refl _ _) | (with_reducible refine Mods.alloc ?_ _) | (with_reducible refine Mods.drew ?_) | (with_reducible refine Mods.setCell ?_ (fun hlt => (by first | (simp at hlt; done) | (simp at hlt; omega) | (show _ ≤ _; omega) | (show _ < _; omega))) _) | (with_reducible refine Mods.trans ?_ hE))
      · have h1 : 1099511627775 < n := by omega
        clear hnn
        go_enter Try.func20, Try.ntmps20
        go_wp2_with fail
        refine (H.out _).mono ?_
        rintro e w' ⟨rfl, hE⟩
        go_wp2
        go_ret
        refine ⟨rfl, ?_⟩
        repeat (first | (with_reducible exact Mods.refl _ _) | (with_reducible refine Mods.alloc ?_ _) | (with_reducible refine Mods.drew ?_) | (with_reducible refine Mods.setCell ?_ (fun hlt => (by first | (simp at hlt; done) | (simp at hlt; omega) | (show _ ≤ _; omega) | (show _ < _; omega))) _) | (with_reducible refine Mods.trans ?_ hE))
end Go.Proofs.Ytjmkoelmiehdjaa.W
