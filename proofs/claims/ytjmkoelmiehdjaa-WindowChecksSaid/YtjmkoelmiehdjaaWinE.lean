/-
  Layer 28: window.Accept whole, window.Recover.
-/
import Derived.Test.YtjmkoelmiehdjaaWinD
namespace Go.Proofs.Ytjmkoelmiehdjaa.W
open Go.RowKit L
set_option linter.unusedVariables false
set_option linter.unusedSimpArgs false

/-- The window after a number. -/
def accT (t n : Int) : Int := if t < n then n else t
def accB (s t : Int) (b : Nat) (n : Int) : Nat := if t < n then accGt s b (n - t).toNat else accLe b (t - n).toNat

def accV (s t : Int) (b : Nat) (l : Bool) (n : Int) : Value :=
  if checkE s t b l n = 0 then .tuple #[winV s (accT t n) (accB s t b n) false, .int .i64 0] else .tuple #[winV 0 0 0 false, .int .i64 (checkE s t b l n)]

theorem accept_any (s t : Int) (b : Nat) (l : Bool) (n : Int) (w : World) (hs : i64In s) (ht : i64In t) (hb : b < 2 ^ 64) (hn : i64In n) :
    Calls Try.prog 17 #[winV s t b l, .int .i64 n] w fun e w' => e = .returned (accV s t b l n) ∧ Ext w w' := by
  unfold accV
  by_cases h0 : checkE s t b l n = 0
  · obtain ⟨-, -, -, rfl, -⟩ := checkE_zero h0
    rw [if_pos h0]
    unfold accT accB
    by_cases hgt : t < n
    · rw [if_pos hgt, if_pos hgt]
      by_cases hk : n - t < 64
      · exact accept_gt1 s t b n w hs ht hb hn h0 hgt hk
      · exact accept_gt2 s t b n w hs ht hb hn h0 hgt (by omega)
    · rw [if_neg hgt, if_neg hgt]
      exact accept_le s t b n w hs ht hb hn h0 (by omega)
  · rw [if_neg h0]
    exact accept_no s t b l n w hs ht hb hn h0

def recE (s t : Int) (b : Nat) (l : Bool) (n : Int) : Int := if rightB s t b l n = false then 1 else if l = false then 15 else 0
def recV (s t : Int) (b : Nat) (l : Bool) (n : Int) : Value :=
  if recE s t b l n = 0 then .tuple #[winV s n (maskN (if s < n + 1 then s else n + 1)) false, .int .i64 0] else .tuple #[winV 0 0 0 false, .int .i64 (recE s t b l n)]

set_option maxHeartbeats 800000 in
theorem recover_any (s t : Int) (b : Nat) (l : Bool) (n : Int) (w : World) (hs : i64In s) (ht : i64In t) (hb : b < 2 ^ 64) (hn : i64In n) :
    Calls Try.prog 10 #[winV s t b l, .int .i64 n] w fun e w' => e = .returned (recV s t b l n) ∧ Ext w w' := by
  have hq := fun w => right_any s t b l n w hs ht hb hn
  by_cases hr : rightB s t b l n = true
  · obtain ⟨⟨g1, g2, g3, g4⟩, g5, g6⟩ := rightB_bd hr
    rw [hr] at hq
    have H := Lib.hid hq
    cases l
    · have V := Lib.hid (show recV s t b false n = .tuple #[winV 0 0 0 false, .int .i64 15] by simp [recV, recE, hr])
      clear hr hq hs ht hn
      rw [V.out]
      go_enter Try.func10, Try.ntmps10
      go_wp2_with fail
      refine (H.out _).mono ?_
      rintro e w' ⟨rfl, hE⟩
      obtain ⟨hc1, hc2, hc3⟩ := hE.cells
      have hz : w.heap.size + 1 < w'.heap.size := by simp at hc3; omega
      have hz0 : w.heap.size < w'.heap.size := by omega
      have k0 : World.cell? w' ⟨w.heap.size, 0, none⟩ = some (.int .i64 s) := by simp [go_sem, hc1, hc2, hz0]
      have k1 : World.cell? w' ⟨w.heap.size, 1, none⟩ = some (.int .i64 t) := by simp [go_sem, hc1, hc2, hz0]
      have k2 : World.cell? w' ⟨w.heap.size, 2, none⟩ = some (.int .u64 (b : Int)) := by simp [go_sem, hc1, hc2, hz0]
      have k3 : World.cell? w' ⟨w.heap.size, 3, none⟩ = some (.bool false) := by simp [go_sem, hc1, hc2, hz0]
      have kf : ∀ o, World.frozen? w' ⟨w.heap.size, o, none⟩ = false := fun o => by simp [go_sem, hc1, hc2, hz0]
      have r0 : World.cell? w' ⟨w.heap.size + 1, 0, none⟩ = some (.int .i64 0) := by simp [go_sem, hc1, hc2, hz]
      have r1 : World.cell? w' ⟨w.heap.size + 1, 1, none⟩ = some (.int .i64 0) := by simp [go_sem, hc1, hc2, hz]
      have r2 : World.cell? w' ⟨w.heap.size + 1, 2, none⟩ = some (.int .u64 0) := by simp [go_sem, hc1, hc2, hz]
      have r3 : World.cell? w' ⟨w.heap.size + 1, 3, none⟩ = some (.bool false) := by simp [go_sem, hc1, hc2, hz]
      have rf : ∀ o, World.frozen? w' ⟨w.heap.size + 1, o, none⟩ = false := fun o => by simp [go_sem, hc1, hc2, hz]
      clear hc1 hc2 hc3
      go_wp2
      refine bodyPost_ret (v := .tuple #[winV 0 0 0 false, .int .i64 15]) (by simp [results, Try.results10, go_sem, r0, r1, r2, r3]) rfl ?_
      refine ⟨rfl, ?_⟩
      repeat (first | (with_reducible exact Mods.refl _ _) | (with_reducible refine Mods.alloc ?_ _) | (with_reducible refine Mods.drew ?_) | (with_reducible refine Mods.setCell ?_ (fun hlt => (by first | (simp at hlt; done) | (simp at hlt; omega) | (show _ ≤ _; omega) | (show _ < _; omega))) _) | (with_reducible refine Mods.trans ?_ hE))
    · have hw1 : IntKind.i64.wrap (n + 1) = n + 1 := IntWalk.i64_in _ (by omega)
      by_cases hlt : s < n + 1
      · have V := Lib.hid (show recV s t b true n = .tuple #[winV s n (maskN s) false, .int .i64 0] by simp [recV, recE, hr, hlt])
        have hm : i64In s := by unfold i64In; omega
        clear hr hq hs ht hn
        rw [V.out]
        go_enter Try.func10, Try.ntmps10
        go_wp2_with fail
        refine (H.out _).mono ?_
        rintro e w' ⟨rfl, hE⟩
        obtain ⟨hc1, hc2, hc3⟩ := hE.cells
        have hz : w.heap.size + 1 < w'.heap.size := by simp at hc3; omega
        have hz0 : w.heap.size < w'.heap.size := by omega
        have k0 : World.cell? w' ⟨w.heap.size, 0, none⟩ = some (.int .i64 s) := by simp [go_sem, hc1, hc2, hz0]
        have k1 : World.cell? w' ⟨w.heap.size, 1, none⟩ = some (.int .i64 t) := by simp [go_sem, hc1, hc2, hz0]
        have k2 : World.cell? w' ⟨w.heap.size, 2, none⟩ = some (.int .u64 (b : Int)) := by simp [go_sem, hc1, hc2, hz0]
        have k3 : World.cell? w' ⟨w.heap.size, 3, none⟩ = some (.bool true) := by simp [go_sem, hc1, hc2, hz0]
        have kf : ∀ o, World.frozen? w' ⟨w.heap.size, o, none⟩ = false := fun o => by simp [go_sem, hc1, hc2, hz0]
        have r0 : World.cell? w' ⟨w.heap.size + 1, 0, none⟩ = some (.int .i64 0) := by simp [go_sem, hc1, hc2, hz]
        have r1 : World.cell? w' ⟨w.heap.size + 1, 1, none⟩ = some (.int .i64 0) := by simp [go_sem, hc1, hc2, hz]
        have r2 : World.cell? w' ⟨w.heap.size + 1, 2, none⟩ = some (.int .u64 0) := by simp [go_sem, hc1, hc2, hz]
        have r3 : World.cell? w' ⟨w.heap.size + 1, 3, none⟩ = some (.bool false) := by simp [go_sem, hc1, hc2, hz]
        have rf : ∀ o, World.frozen? w' ⟨w.heap.size + 1, o, none⟩ = false := fun o => by simp [go_sem, hc1, hc2, hz]
        clear hc1 hc2 hc3
        go_wp2
        refine wp_region_x 10 (by kernel_rfl) (by kernel_rfl) (by kernel_rfl) ?_
        simp only [List.take_succ_cons, List.take_zero, List.drop_succ_cons, List.drop_zero]
        refine FlowX.seg [_, _, _, _, _, _, _, _] _ (by kernel_rfl) ?_
        repeat (go_big_quiet_step (fail))
        refine wpQuiet_nil ?_
        refine FlowX.call rfl Try.func28 (by kernel_rfl) (by kernel_rfl) (by kernel_rfl) (by kernel_rfl) (fun x => ext_same (mask_any s _ hm)) (by kernel_rfl) ?_
        simp only [Act.put, List.setIfInBounds_toArray, List.set_cons_succ, List.set_cons_zero]
        refine FlowX.seg [_] _ (by kernel_rfl) ?_
        repeat (go_big_quiet_step (fail))
        refine wpQuiet_nil ?_
        refine FlowX.fin (fun x fv hfv => ?_)
        simp only [List.map_nil, List.map_cons, putAll]
        have k'0 : World.cell? x.w ⟨w.heap.size, 0, none⟩ = some (.int .i64 s) := by simp [go_sem, k0, k1, k2, k3, kf, hz0]
        have k'1 : World.cell? x.w ⟨w.heap.size, 1, none⟩ = some (.int .i64 t) := by simp [go_sem, k0, k1, k2, k3, kf, hz0]
        have k'2 : World.cell? x.w ⟨w.heap.size, 2, none⟩ = some (.int .u64 (b : Int)) := by simp [go_sem, k0, k1, k2, k3, kf, hz0]
        have k'3 : World.cell? x.w ⟨w.heap.size, 3, none⟩ = some (.bool true) := by simp [go_sem, k0, k1, k2, k3, kf, hz0]
        have k'f : ∀ o, World.frozen? x.w ⟨w.heap.size, o, none⟩ = false := fun o => by simp [go_sem, k0, k1, k2, k3, kf, hz0]
        have r'0 : World.cell? x.w ⟨w.heap.size + 1, 0, none⟩ = some (.int .i64 0) := by simp [go_sem, r0, r1, r2, r3, rf, hz]
        have r'1 : World.cell? x.w ⟨w.heap.size + 1, 1, none⟩ = some (.int .i64 0) := by simp [go_sem, r0, r1, r2, r3, rf, hz]
        have r'2 : World.cell? x.w ⟨w.heap.size + 1, 2, none⟩ = some (.int .u64 0) := by simp [go_sem, r0, r1, r2, r3, rf, hz]
        have r'3 : World.cell? x.w ⟨w.heap.size + 1, 3, none⟩ = some (.bool false) := by simp [go_sem, r0, r1, r2, r3, rf, hz]
        have r'f : ∀ o, World.frozen? x.w ⟨w.heap.size + 1, o, none⟩ = false := fun o => by simp [go_sem, r0, r1, r2, r3, rf, hz]
        clear k0 k1 k2 k3 kf r0 r1 r2 r3 rf
        go_wp2
        refine bodyPost_ret (v := .tuple #[winV s n (maskN s) false, .int .i64 0]) (by simp [results, Try.results10, go_sem, r'0, r'1, r'2, r'3]) rfl ?_
        refine ⟨rfl, ?_⟩
        repeat (first | (with_reducible exact Mods.refl _ _) | (with_reducible refine Mods.alloc ?_ _) | (with_reducible refine Mods.drew ?_) | (with_reducible refine Mods.setCell ?_ (fun hlt => (by first | (simp at hlt; done) | (simp at hlt; omega) | (show _ ≤ _; omega) | (show _ < _; omega))) _) | (with_reducible refine Mods.trans ?_ x.h) | (with_reducible refine Mods.trans ?_ hE))
      · have hge : n + 1 ≤ s := by omega
        have V := Lib.hid (show recV s t b true n = .tuple #[winV s n (maskN (n + 1)) false, .int .i64 0] by simp [recV, recE, hr, hlt])
        have hm : i64In (n + 1) := by unfold i64In; omega
        clear hlt hr hq hs ht hn
        rw [V.out]
        go_enter Try.func10, Try.ntmps10
        go_wp2_with fail
        refine (H.out _).mono ?_
        rintro e w' ⟨rfl, hE⟩
        obtain ⟨hc1, hc2, hc3⟩ := hE.cells
        have hz : w.heap.size + 1 < w'.heap.size := by simp at hc3; omega
        have hz0 : w.heap.size < w'.heap.size := by omega
        have k0 : World.cell? w' ⟨w.heap.size, 0, none⟩ = some (.int .i64 s) := by simp [go_sem, hc1, hc2, hz0]
        have k1 : World.cell? w' ⟨w.heap.size, 1, none⟩ = some (.int .i64 t) := by simp [go_sem, hc1, hc2, hz0]
        have k2 : World.cell? w' ⟨w.heap.size, 2, none⟩ = some (.int .u64 (b : Int)) := by simp [go_sem, hc1, hc2, hz0]
        have k3 : World.cell? w' ⟨w.heap.size, 3, none⟩ = some (.bool true) := by simp [go_sem, hc1, hc2, hz0]
        have kf : ∀ o, World.frozen? w' ⟨w.heap.size, o, none⟩ = false := fun o => by simp [go_sem, hc1, hc2, hz0]
        have r0 : World.cell? w' ⟨w.heap.size + 1, 0, none⟩ = some (.int .i64 0) := by simp [go_sem, hc1, hc2, hz]
        have r1 : World.cell? w' ⟨w.heap.size + 1, 1, none⟩ = some (.int .i64 0) := by simp [go_sem, hc1, hc2, hz]
        have r2 : World.cell? w' ⟨w.heap.size + 1, 2, none⟩ = some (.int .u64 0) := by simp [go_sem, hc1, hc2, hz]
        have r3 : World.cell? w' ⟨w.heap.size + 1, 3, none⟩ = some (.bool false) := by simp [go_sem, hc1, hc2, hz]
        have rf : ∀ o, World.frozen? w' ⟨w.heap.size + 1, o, none⟩ = false := fun o => by simp [go_sem, hc1, hc2, hz]
        clear hc1 hc2 hc3
        go_wp2
        refine wp_region_x 10 (by kernel_rfl) (by kernel_rfl) (by kernel_rfl) ?_
        simp only [List.take_succ_cons, List.take_zero, List.drop_succ_cons, List.drop_zero]
        refine FlowX.seg [_, _, _, _, _, _, _, _] _ (by kernel_rfl) ?_
        repeat (go_big_quiet_step (fail))
        refine wpQuiet_nil ?_
        refine FlowX.call rfl Try.func28 (by kernel_rfl) (by kernel_rfl) (by kernel_rfl) (by kernel_rfl) (fun x => ext_same (mask_any (n + 1) _ hm)) (by kernel_rfl) ?_
        simp only [Act.put, List.setIfInBounds_toArray, List.set_cons_succ, List.set_cons_zero]
        refine FlowX.seg [_] _ (by kernel_rfl) ?_
        repeat (go_big_quiet_step (fail))
        refine wpQuiet_nil ?_
        refine FlowX.fin (fun x fv hfv => ?_)
        simp only [List.map_nil, List.map_cons, putAll]
        have k'0 : World.cell? x.w ⟨w.heap.size, 0, none⟩ = some (.int .i64 s) := by simp [go_sem, k0, k1, k2, k3, kf, hz0]
        have k'1 : World.cell? x.w ⟨w.heap.size, 1, none⟩ = some (.int .i64 t) := by simp [go_sem, k0, k1, k2, k3, kf, hz0]
        have k'2 : World.cell? x.w ⟨w.heap.size, 2, none⟩ = some (.int .u64 (b : Int)) := by simp [go_sem, k0, k1, k2, k3, kf, hz0]
        have k'3 : World.cell? x.w ⟨w.heap.size, 3, none⟩ = some (.bool true) := by simp [go_sem, k0, k1, k2, k3, kf, hz0]
        have k'f : ∀ o, World.frozen? x.w ⟨w.heap.size, o, none⟩ = false := fun o => by simp [go_sem, k0, k1, k2, k3, kf, hz0]
        have r'0 : World.cell? x.w ⟨w.heap.size + 1, 0, none⟩ = some (.int .i64 0) := by simp [go_sem, r0, r1, r2, r3, rf, hz]
        have r'1 : World.cell? x.w ⟨w.heap.size + 1, 1, none⟩ = some (.int .i64 0) := by simp [go_sem, r0, r1, r2, r3, rf, hz]
        have r'2 : World.cell? x.w ⟨w.heap.size + 1, 2, none⟩ = some (.int .u64 0) := by simp [go_sem, r0, r1, r2, r3, rf, hz]
        have r'3 : World.cell? x.w ⟨w.heap.size + 1, 3, none⟩ = some (.bool false) := by simp [go_sem, r0, r1, r2, r3, rf, hz]
        have r'f : ∀ o, World.frozen? x.w ⟨w.heap.size + 1, o, none⟩ = false := fun o => by simp [go_sem, r0, r1, r2, r3, rf, hz]
        clear k0 k1 k2 k3 kf r0 r1 r2 r3 rf
        go_wp2
        refine bodyPost_ret (v := .tuple #[winV s n (maskN (n + 1)) false, .int .i64 0]) (by simp [results, Try.results10, go_sem, r'0, r'1, r'2, r'3]) rfl ?_
        refine ⟨rfl, ?_⟩
        repeat (first | (with_reducible exact Mods.refl _ _) | (with_reducible refine Mods.alloc ?_ _) | (with_reducible refine Mods.drew ?_) | (with_reducible refine Mods.setCell ?_ (fun hlt => (by first | (simp at hlt; done) | (simp at hlt; omega) | (show _ ≤ _; omega) | (show _ < _; omega))) _) | (with_reducible refine Mods.trans ?_ x.h) | (with_reducible refine Mods.trans ?_ hE))
  · have hr' : rightB s t b l n = false := by simpa using hr
    rw [hr'] at hq
    have H := Lib.hid hq
    have V := Lib.hid (show recV s t b l n = .tuple #[winV 0 0 0 false, .int .i64 1] by simp [recV, recE, hr'])
    clear hq hr hr'
    rw [V.out]
    go_enter Try.func10, Try.ntmps10
    go_wp2_with fail
    refine (H.out _).mono ?_
    rintro e w' ⟨rfl, hE⟩
    obtain ⟨hc1, hc2, hc3⟩ := hE.cells
    have hz : w.heap.size + 1 < w'.heap.size := by simp at hc3; omega
    have r0 : World.cell? w' ⟨w.heap.size + 1, 0, none⟩ = some (.int .i64 0) := by simp [go_sem, hc1, hc2, hz]
    have r1 : World.cell? w' ⟨w.heap.size + 1, 1, none⟩ = some (.int .i64 0) := by simp [go_sem, hc1, hc2, hz]
    have r2 : World.cell? w' ⟨w.heap.size + 1, 2, none⟩ = some (.int .u64 0) := by simp [go_sem, hc1, hc2, hz]
    have r3 : World.cell? w' ⟨w.heap.size + 1, 3, none⟩ = some (.bool false) := by simp [go_sem, hc1, hc2, hz]
    have rf : ∀ o, World.frozen? w' ⟨w.heap.size + 1, o, none⟩ = false := fun o => by simp [go_sem, hc1, hc2, hz]
    clear hc1 hc2 hc3
    go_wp2
    refine bodyPost_ret (v := .tuple #[winV 0 0 0 false, .int .i64 1]) (by simp [results, Try.results10, go_sem, r0, r1, r2, r3]) rfl ?_
    refine ⟨rfl, ?_⟩
    repeat (first | (with_reducible exact Mods.refl _ _) | (with_reducible refine Mods.alloc ?_ _) | (with_reducible refine Mods.drew ?_) | (with_reducible refine Mods.setCell ?_ (fun hlt => (by first | (simp at hlt; done) | (simp at hlt; omega) | (show _ ≤ _; omega) | (show _ < _; omega))) _) | (with_reducible refine Mods.trans ?_ hE))
end Go.Proofs.Ytjmkoelmiehdjaa.W
