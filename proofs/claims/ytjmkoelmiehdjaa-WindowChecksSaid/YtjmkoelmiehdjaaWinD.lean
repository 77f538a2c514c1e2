/-
  Layer 28: window.Accept and window.Recover.
-/
import Derived.Test.YtjmkoelmiehdjaaWinC
namespace Go.Proofs.Ytjmkoelmiehdjaa.W
open Go.RowKit L
set_option linter.unusedVariables false
set_option linter.unusedSimpArgs false

theorem checkE_zero {s t : Int} {b : Nat} {l : Bool} {n : Int} (h : checkE s t b l n = 0) :
    (1 ≤ s ∧ s ≤ 64 ∧ -1 ≤ t ∧ t ≤ 1099511627775) ∧ 0 ≤ n ∧ n ≤ 1099511627775 ∧ l = false ∧ ¬ n ≤ t - s := by
  unfold checkE at h
  split at h
  · cases h
  · rename_i hr
    have hr' : rightB s t b l n = true := by simpa using hr
    obtain ⟨h1, h2, h3⟩ := rightB_bd hr'
    split at h
    · cases h
    · rename_i hl
      split at h
      · cases h
      · rename_i hh
        exact ⟨h1, h2, h3, by simpa using hl, fun e => hh (.inl e)⟩

set_option maxHeartbeats 400000 in
theorem accept_no (s t : Int) (b : Nat) (l : Bool) (n : Int) (w : World) (hs : i64In s) (ht : i64In t) (hb : b < 2 ^ 64) (hn : i64In n) (h0 : checkE s t b l n ≠ 0) :
    Calls Try.prog 17 #[winV s t b l, .int .i64 n] w fun e w' => e = .returned (.tuple #[winV 0 0 0 false, .int .i64 (checkE s t b l n)]) ∧ Ext w w' := by
  have hq := fun w => check_any s t b l n w hs ht hb hn
  generalize checkE s t b l n = c at *
  have H := Lib.hid hq
  have hc0 : (c == 0) = false := by simpa using h0
  clear hq h0
  go_enter Try.func17, Try.ntmps17
  go_wp2_with fail
  refine (H.out _).mono ?_
  rintro e w' ⟨rfl, hE⟩
  obtain ⟨hc1, hc2, hc3⟩ := hE.cells
  have hz : w.heap.size + 1 < w'.heap.size := by simp at hc3; omega
  have hz0 : w.heap.size < w'.heap.size := by omega
  go_wp2
  refine bodyPost_ret (v := .tuple #[winV 0 0 0 false, .int .i64 c]) (by simp [results, Try.results17, go_sem, hc1, hz]) rfl ?_
  refine ⟨rfl, ?_⟩
  repeat (first | (with_reducible exact Mods.refl _ _) | (with_reducible refine Mods.alloc ?_ _) | (with_reducible refine Mods.drew ?_) | (with_reducible refine Mods.setCell ?_ (fun hlt => (by first | (simp at hlt; done) | (simp at hlt; omega) | (show _ ≤ _; omega) | (show _ < _; omega))) _) | (with_reducible refine Mods.trans ?_ hE))

def accGt (s : Int) (b k : Nat) : Nat := ((b * 2 ^ k % 2 ^ 64) &&& maskN s) ||| 1
def accLe (b k : Nat) : Nat := b ||| 2 ^ k

theorem accGt_cast (s : Int) (b k : Nat) : bits .or .u64 (bits .and .u64 (IntKind.u64.wrap ((b : Int) * 2 ^ k)) ((maskN s : Nat) : Int)) 1 = ((accGt s b k : Nat) : Int) := by
  have e : IntKind.u64.wrap ((b : Int) * 2 ^ k) = ((b * 2 ^ k % 2 ^ 64 : Nat) : Int) := by
    rw [IntKind.wrap_u64]; simp
  have h : b * 2 ^ k % 2 ^ 64 < 2 ^ 64 := Nat.mod_lt _ (by decide)
  rw [e, u64_and_nat _ _ h (maskN_lt s), show (1 : Int) = ((1 : Nat) : Int) from rfl, u64_or_nat _ _ (Nat.lt_of_le_of_lt Nat.and_le_left h) (by decide)]
  rfl

theorem accGt_big (s : Int) (b k : Nat) (hk : 64 ≤ k) : accGt s b k = 1 := by
  unfold accGt
  have : b * 2 ^ k % 2 ^ 64 = 0 := by
    obtain ⟨j, rfl⟩ := Nat.exists_eq_add_of_le hk
    rw [Nat.pow_add, ← Nat.mul_assoc, Nat.mul_comm b, Nat.mul_assoc]
    exact Nat.mul_mod_right _ _
  rw [this]; simp

theorem accLe_cast (b k : Nat) (hb : b < 2 ^ 64) (hk : k < 64) : bits .or .u64 (b : Int) (IntKind.u64.wrap (2 ^ k)) = ((accLe b k : Nat) : Int) := by
  have h : (2 : Nat) ^ k < 2 ^ 64 := Nat.pow_lt_pow_right (by decide) hk
  have e : IntKind.u64.wrap (2 ^ k) = ((2 ^ k : Nat) : Int) := by
    rw [IntKind.wrap_u64]
    have : ((2 : Int) ^ k) = ((2 ^ k : Nat) : Int) := by simp
    rw [this]; exact Int.emod_eq_of_lt (Int.natCast_nonneg _) (by have := Int.ofNat_lt.2 h; exact this)
  rw [e, u64_or_nat _ _ hb h]; rfl

theorem and_zero (m : Nat) (hm : m < 2 ^ 64) : bits .and .u64 0 (m : Int) = 0 := by
  have := u64_and_nat 0 m (by decide) hm
  simpa using this
theorem or_zero : bits .or .u64 0 1 = 1 := by
  have := u64_or_nat 0 1 (by decide) (by decide)
  simpa using this

set_option maxHeartbeats 800000 in
theorem accept_gt1 (s t : Int) (b : Nat) (n : Int) (w : World) (hs : i64In s) (ht : i64In t) (hb : b < 2 ^ 64) (hn : i64In n) (h0 : checkE s t b false n = 0) (hgt : t < n) (hk : n - t < 64) :
    Calls Try.prog 17 #[winV s t b false, .int .i64 n] w fun e w' => e = .returned (.tuple #[winV s n (accGt s b (n - t).toNat) false, .int .i64 0]) ∧ Ext w w' := by
  obtain ⟨⟨g1, g2, g3, g4⟩, g5, g6, -, g7⟩ := checkE_zero h0
  have hq := fun w => check_any s t b false n w hs ht hb hn
  rw [h0] at hq
  have H := Lib.hid hq
  have hss := hs
  clear hq h0 hs ht hn
  have e1 : IntKind.i64.wrap (n - t) = n - t := IntWalk.i64_in _ (by omega)
  have A := Lib.hid (accGt_cast s b (n - t).toNat)
  go_enter Try.func17, Try.ntmps17
  go_wp2_with fail
  refine (H.out _).mono ?_
  rintro e w' ⟨rfl, hE⟩
  obtain ⟨hc1, hc2, hc3⟩ := hE.cells
  have hz : w.heap.size + 1 < w'.heap.size := by simp at hc3; omega
  have hz0 : w.heap.size < w'.heap.size := by omega
  go_wp2
  refine wp_region_x 12 (by kernel_rfl) (by kernel_rfl) (by kernel_rfl) ?_
  simp only [List.take_succ_cons, List.take_zero, List.drop_succ_cons, List.drop_zero]
  refine FlowX.seg [_, _, _, _, _, _, _, _, _, _] _ (by kernel_rfl) ?_
  repeat (go_big_quiet_step (fail))
  refine wpQuiet_nil ?_
  refine FlowX.call rfl Try.func28 (by kernel_rfl) (by kernel_rfl) (by kernel_rfl) (by kernel_rfl) (fun x => ext_same (mask_any s _ hss)) (by kernel_rfl) ?_
  simp only [Act.put, List.setIfInBounds_toArray, List.set_cons_succ, List.set_cons_zero]
  refine FlowX.seg [_] _ (by kernel_rfl) ?_
  repeat (go_big_quiet_step (fail))
  refine wpQuiet_nil ?_
  refine FlowX.fin (fun x fv hfv => ?_)
  simp only [List.map_nil, List.map_cons, putAll]
  have k0 : World.cell? x.w ⟨w.heap.size, 0, none⟩ = some (.int .i64 s) := by simp [go_sem, hc1, hc2, hz0]
  have k1 : World.cell? x.w ⟨w.heap.size, 1, none⟩ = some (.int .i64 t) := by simp [go_sem, hc1, hc2, hz0]
  have k2 : World.cell? x.w ⟨w.heap.size, 2, none⟩ = some (.int .u64 (b : Int)) := by simp [go_sem, hc1, hc2, hz0]
  have k3 : World.cell? x.w ⟨w.heap.size, 3, none⟩ = some (.bool false) := by simp [go_sem, hc1, hc2, hz0]
  have kf : ∀ o, World.frozen? x.w ⟨w.heap.size, o, none⟩ = false := fun o => by simp [go_sem, hc1, hc2, hz0]
  have r0 : World.cell? x.w ⟨w.heap.size + 1, 0, none⟩ = some (.int .i64 0) := by simp [go_sem, hc1, hc2, hz]
  have r1 : World.cell? x.w ⟨w.heap.size + 1, 1, none⟩ = some (.int .i64 0) := by simp [go_sem, hc1, hc2, hz]
  have r2 : World.cell? x.w ⟨w.heap.size + 1, 2, none⟩ = some (.int .u64 0) := by simp [go_sem, hc1, hc2, hz]
  have r3 : World.cell? x.w ⟨w.heap.size + 1, 3, none⟩ = some (.bool false) := by simp [go_sem, hc1, hc2, hz]
  have rf : ∀ o, World.frozen? x.w ⟨w.heap.size + 1, o, none⟩ = false := fun o => by simp [go_sem, hc1, hc2, hz]
  clear hc1 hc2 hc3
  go_wp2
  rw [A.out]
  refine bodyPost_ret (v := .tuple #[winV s n (accGt s b (n - t).toNat) false, .int .i64 0]) (by simp [results, Try.results17, go_sem, r0, r1, r2, r3]) rfl ?_
  refine ⟨rfl, ?_⟩
  repeat (first | (with_reducible exact Mods.refl _ _) | (with_reducible refine Mods.alloc ?_ _) | (with_reducible refine Mods.drew ?_) | (with_reducible refine Mods.setCell ?_ (fun hlt => (by first | (simp at hlt; done) | (simp at hlt; omega) | (show _ ≤ _; omega) | (show _ < _; omega))) _) | (with_reducible refine Mods.trans ?_ x.h) | (with_reducible refine Mods.trans ?_ hE))

set_option maxHeartbeats 800000 in
theorem accept_gt2 (s t : Int) (b : Nat) (n : Int) (w : World) (hs : i64In s) (ht : i64In t) (hb : b < 2 ^ 64) (hn : i64In n) (h0 : checkE s t b false n = 0) (hgt : t < n) (hk : 64 ≤ n - t) :
    Calls Try.prog 17 #[winV s t b false, .int .i64 n] w fun e w' => e = .returned (.tuple #[winV s n (accGt s b (n - t).toNat) false, .int .i64 0]) ∧ Ext w w' := by
  obtain ⟨⟨g1, g2, g3, g4⟩, g5, g6, -, g7⟩ := checkE_zero h0
  have hq := fun w => check_any s t b false n w hs ht hb hn
  rw [h0] at hq
  have H := Lib.hid hq
  have hss := hs
  clear hq h0 hs ht hn
  have e1 : IntKind.i64.wrap (n - t) = n - t := IntWalk.i64_in _ (by omega)
  have A := Lib.hid (accGt_big s b (n - t).toNat (by omega))
  have M := Lib.hid (and_zero (maskN s) (maskN_lt s))
  have O := Lib.hid or_zero
  have hsb := shl_big_u64 (b : Int) (n - t) .u64 hk
  rw [A.out]
  go_enter Try.func17, Try.ntmps17
  go_wp2_with fail
  refine (H.out _).mono ?_
  rintro e w' ⟨rfl, hE⟩
  obtain ⟨hc1, hc2, hc3⟩ := hE.cells
  have hz : w.heap.size + 1 < w'.heap.size := by simp at hc3; omega
  have hz0 : w.heap.size < w'.heap.size := by omega
  go_wp2
  refine wp_region_x 12 (by kernel_rfl) (by kernel_rfl) (by kernel_rfl) ?_
  simp only [List.take_succ_cons, List.take_zero, List.drop_succ_cons, List.drop_zero]
  refine FlowX.seg [_, _, _, _, _, _, _, _, _, _] _ (by kernel_rfl) ?_
  repeat (go_big_quiet_step (fail))
  refine wpQuiet_nil ?_
  refine FlowX.call rfl Try.func28 (by kernel_rfl) (by kernel_rfl) (by kernel_rfl) (by kernel_rfl) (fun x => ext_same (mask_any s _ hss)) (by kernel_rfl) ?_
  simp only [Act.put, List.setIfInBounds_toArray, List.set_cons_succ, List.set_cons_zero]
  refine FlowX.seg [_] _ (by kernel_rfl) ?_
  repeat (go_big_quiet_step (fail))
  refine wpQuiet_nil ?_
  refine FlowX.fin (fun x fv hfv => ?_)
  simp only [List.map_nil, List.map_cons, putAll]
  have k0 : World.cell? x.w ⟨w.heap.size, 0, none⟩ = some (.int .i64 s) := by simp [go_sem, hc1, hc2, hz0]
  have k1 : World.cell? x.w ⟨w.heap.size, 1, none⟩ = some (.int .i64 t) := by simp [go_sem, hc1, hc2, hz0]
  have k2 : World.cell? x.w ⟨w.heap.size, 2, none⟩ = some (.int .u64 (b : Int)) := by simp [go_sem, hc1, hc2, hz0]
  have k3 : World.cell? x.w ⟨w.heap.size, 3, none⟩ = some (.bool false) := by simp [go_sem, hc1, hc2, hz0]
  have kf : ∀ o, World.frozen? x.w ⟨w.heap.size, o, none⟩ = false := fun o => by simp [go_sem, hc1, hc2, hz0]
  have r0 : World.cell? x.w ⟨w.heap.size + 1, 0, none⟩ = some (.int .i64 0) := by simp [go_sem, hc1, hc2, hz]
  have r1 : World.cell? x.w ⟨w.heap.size + 1, 1, none⟩ = some (.int .i64 0) := by simp [go_sem, hc1, hc2, hz]
  have r2 : World.cell? x.w ⟨w.heap.size + 1, 2, none⟩ = some (.int .u64 0) := by simp [go_sem, hc1, hc2, hz]
  have r3 : World.cell? x.w ⟨w.heap.size + 1, 3, none⟩ = some (.bool false) := by simp [go_sem, hc1, hc2, hz]
  have rf : ∀ o, World.frozen? x.w ⟨w.heap.size + 1, o, none⟩ = false := fun o => by simp [go_sem, hc1, hc2, hz]
  clear hc1 hc2 hc3
  go_wp2
  rw [M.out, O.out]
  refine bodyPost_ret (v := .tuple #[winV s n 1 false, .int .i64 0]) (by simp [results, Try.results17, go_sem, r0, r1, r2, r3]) rfl ?_
  refine ⟨rfl, ?_⟩
  repeat (first | (with_reducible exact Mods.refl _ _) | (with_reducible refine Mods.alloc ?_ _) | (with_reducible refine Mods.drew ?_) | (with_reducible refine Mods.setCell ?_ (fun hlt => (by first | (simp at hlt; done) | (simp at hlt; omega) | (show _ ≤ _; omega) | (show _ < _; omega))) _) | (with_reducible refine Mods.trans ?_ x.h) | (with_reducible refine Mods.trans ?_ hE))
set_option maxHeartbeats 800000 in
theorem accept_le (s t : Int) (b : Nat) (n : Int) (w : World) (hs : i64In s) (ht : i64In t) (hb : b < 2 ^ 64) (hn : i64In n) (h0 : checkE s t b false n = 0) (hle : n ≤ t) :
    Calls Try.prog 17 #[winV s t b false, .int .i64 n] w fun e w' => e = .returned (.tuple #[winV s t (accLe b (t - n).toNat) false, .int .i64 0]) ∧ Ext w w' := by
  obtain ⟨⟨g1, g2, g3, g4⟩, g5, g6, -, g7⟩ := checkE_zero h0
  have hq := fun w => check_any s t b false n w hs ht hb hn
  rw [h0] at hq
  have H := Lib.hid hq
  clear hq h0 hs ht hn
  have A := Lib.hid (accLe_cast b (t - n).toNat hb (by omega))
  go_enter Try.func17, Try.ntmps17
  go_wp2_with fail
  refine (H.out _).mono ?_
  rintro e w' ⟨rfl, hE⟩
  obtain ⟨hc1, hc2, hc3⟩ := hE.cells
  have hz : w.heap.size + 1 < w'.heap.size := by simp at hc3; omega
  have hz0 : w.heap.size < w'.heap.size := by omega
  have k0 : World.cell? w' ⟨w.heap.size, 0, none⟩ = some (.int .i64 s) := by simp [go_sem, hc1, hc2, hz0]
  have k1 : World.cell? w' ⟨w.heap.size, 1, none⟩ = some (.int .i64 t) := by simp [go_sem, hc1, hc2, hz0]
  have k2 : World.cell? w' ⟨w.heap.size, 2, none⟩ = some (.int .u64 (b : Int)) := by simp [go_sem, hc1, hc2, hz0]
  have k3 : World.cell? w' ⟨w.heap.size, 3, none⟩ = some (.bool false) := by simp [go_sem, hc1, hc2, hz0]
  have kf : ∀ o, World.frozen? w' ⟨w.heap.size, o, none⟩ = false := fun o => by simp [go_sem, hc1, hc2, hz0]
  have r0 : World.cell? w' ⟨w.heap.size + 1, 0, none⟩ = some (.int .i64 0) := by simp [go_sem, hc1, hc2, hz]
  have r1 : World.cell? w' ⟨w.heap.size + 1, 1, none⟩ = some (.int .i64 0) := by simp [go_sem, hc1, hc2, hz]
  have r2 : World.cell? w' ⟨w.heap.size + 1, 2, none⟩ = some (.int .u64 0) := by simp [go_sem, hc1, hc2, hz]
  have r3 : World.cell? w' ⟨w.heap.size + 1, 3, none⟩ = some (.bool false) := by simp [go_sem, hc1, hc2, hz]
  have rf : ∀ o, World.frozen? w' ⟨w.heap.size + 1, o, none⟩ = false := fun o => by simp [go_sem, hc1, hc2, hz]
  clear hc1 hc2 hc3
  go_wp2
  rw [A.out]
  refine bodyPost_ret (v := .tuple #[winV s t (accLe b (t - n).toNat) false, .int .i64 0]) (by simp [results, Try.results17, go_sem, r0, r1, r2, r3]) rfl ?_
  refine ⟨rfl, ?_⟩
  repeat (first | (with_reducible exact Mods.refl _ _) | (with_reducible refine Mods.alloc ?_ _) | (with_reducible refine Mods.drew ?_) | (with_reducible refine Mods.setCell ?_ (fun hlt => (by first | (simp at hlt; done) | (simp at hlt; omega) | (show _ ≤ _; omega) | (show _ < _; omega))) _) | (with_reducible refine Mods.trans ?_ hE))
end Go.Proofs.Ytjmkoelmiehdjaa.W
