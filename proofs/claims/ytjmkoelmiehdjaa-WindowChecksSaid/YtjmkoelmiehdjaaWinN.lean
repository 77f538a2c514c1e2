/-
  Layer 28: the reference's Recover whole.
-/
import Derived.Test.YtjmkoelmiehdjaaWinM
namespace Go.Proofs.Ytjmkoelmiehdjaa.W
open Go.RowKit L
set_option linter.unusedVariables false
set_option linter.unusedSimpArgs false

set_option maxHeartbeats 800000 in
theorem rrecover_any (s t : Int) (b : Nat) (l : Bool) (n : Int) (w : World) (hs : i64In s) (ht : i64In t) (hb : b < 2 ^ 64) (hn : i64In n) :
    Calls Try.prog 11 #[winV s t b l, .int .i64 n] w fun e w' => e = .returned (recV s t b l n) ∧ Ext w w' := by
  have hv := fun w => rvalid_any s t b l w hs ht hb
  by_cases hr : rightB s t b l n = true
  · cases l
    · have V := Lib.hid (show recV s t b false n = .tuple #[winV 0 0 0 false, .int .i64 15] by simp [recV, recE, hr])
      obtain ⟨g, g5, g6⟩ := rightB_bd hr
      have hvv : validB s t b false = true := by simp only [rightB, Bool.and_eq_true] at hr; exact hr.1
      rw [hvv] at hv
      have H := Lib.hid hv
      clear hr hv hvv hs ht hn g
      rw [V.out]
      go_enter Try.func11, Try.ntmps11
      go_wp2_with fail
      refine (H.out _).mono ?_
      rintro e w' ⟨rfl, hE⟩
      obtain ⟨hc1, hc2, hc3⟩ := hE.cells
      have hz : w.heap.size + 1 < w'.heap.size := by simp at hc3; omega
      have hz0 : w.heap.size < w'.heap.size := by omega
      have k0 : World.cell? w' ⟨w.heap.size, 0, none⟩ = some (.int .i64 s) := by simp [go_sem, hc1, hc2, hz0]
      have k1 : World.cell? w' ⟨w.heap.size, 1, none⟩ = some (.int .i64 t) := by simp [go_sem, hc1, hc2, hz0]
      have k2 : World.cell? w' ⟨w.heap.size, 2, none⟩ = some (.int .u64 (b : Int)) := by simp [go_sem, hc1, hc2, hz0]
      have k3 : World.cell? w' ⟨w.heap.size, 3, none⟩ = some (.bool false) := by simp [go_sem, hc1, hc2, hz0]
      have kf : ∀ o, World.frozen? w' ⟨w.heap.size, o, none⟩ = false := fun o => by simp [go_sem, hc1, hc2, hz0]
      have r0 : World.cell? w' ⟨w.heap.size + 1, 0, none⟩ = some (.int .i64 0) := by simp [go_sem, hc1, hc2, hz]
      have r1 : World.cell? w' ⟨w.heap.size + 1, 1, none⟩ = some (.int .i64 0) := by simp [go_sem, hc1, hc2, hz]
      have r2 : World.cell? w' ⟨w.heap.size + 1, 2, none⟩ = some (.int .u64 0) := by simp [go_sem, hc1, hc2, hz]
      have r3 : World.cell? w' ⟨w.heap.size + 1, 3, none⟩ = some (.bool false) := by simp [go_sem, hc1, hc2, hz]
      have rf : ∀ o, World.frozen? w' ⟨w.heap.size + 1, o, none⟩ = false := fun o => by simp [go_sem, hc1, hc2, hz]
      clear hc1 hc2 hc3
      go_wp2
      refine bodyPost_ret (v := .tuple #[winV 0 0 0 false, .int .i64 15]) (by simp [results, Try.results11, go_sem, r0, r1, r2, r3]) rfl ?_
      refine ⟨rfl, ?_⟩
      repeat (first | (with_reducible exact Mods.refl _ _) | (with_reducible refine Mods.alloc ?_ _) | (with_reducible refine Mods.drew ?_) | (with_reducible refine Mods.setCell ?_ (fun hlt => (by first | (simp at hlt; done) | (simp at hlt; omega) | (show _ ≤ _; omega) | (show _ < _; omega))) _) | (with_reducible refine Mods.trans ?_ hE) | (with_reducible refine Mods.undrew ?_))
    · have V := Lib.hid (show recV s t b true n = .tuple #[winV s n (maskN (if s < n + 1 then s else n + 1)) false, .int .i64 0] by simp [recV, recE, hr])
      rw [V.out]
      exact rrecover_ok s t b n w hs ht hb hn hr
  · have V := Lib.hid (show recV s t b l n = .tuple #[winV 0 0 0 false, .int .i64 1] by simp [recV, recE, hr])
    rw [V.out]
    generalize hvv : validB s t b l = v at *
    have H := Lib.hid hv
    clear hv
    have hcase : v = false ∨ (v = true ∧ n < 0) ∨ (v = true ∧ 0 ≤ n ∧ 1099511627775 < n) := by
      cases v
      · exact .inl rfl
      · simp only [rightB, hvv, Bool.true_and, Bool.and_eq_true, decide_eq_true_eq] at hr
        rcases Int.lt_or_le n 0 with h | h
        · exact .inr (.inl ⟨rfl, h⟩)
        · exact .inr (.inr ⟨rfl, h, by omega⟩)
    clear hr hvv
    rcases hcase with rfl | ⟨rfl, h1⟩ | ⟨rfl, h1, h2⟩
    all_goals
      go_enter Try.func11, Try.ntmps11
      go_wp2_with fail
      refine (H.out _).mono ?_
      rintro e w' ⟨rfl, hE⟩
      obtain ⟨hc1, hc2, hc3⟩ := hE.cells
      have hz : w.heap.size + 1 < w'.heap.size := by simp at hc3; omega
      have r0 : World.cell? w' ⟨w.heap.size + 1, 0, none⟩ = some (.int .i64 0) := by simp [go_sem, hc1, hc2, hz]
      have r1 : World.cell? w' ⟨w.heap.size + 1, 1, none⟩ = some (.int .i64 0) := by simp [go_sem, hc1, hc2, hz]
      have r2 : World.cell? w' ⟨w.heap.size + 1, 2, none⟩ = some (.int .u64 0) := by simp [go_sem, hc1, hc2, hz]
      have r3 : World.cell? w' ⟨w.heap.size + 1, 3, none⟩ = some (.bool false) := by simp [go_sem, hc1, hc2, hz]
      have rf : ∀ o, World.frozen? w' ⟨w.heap.size + 1, o, none⟩ = false := fun o => by simp [go_sem, hc1, hc2, hz]
      clear hc1 hc2 hc3
      go_wp2
      refine bodyPost_ret (v := .tuple #[winV 0 0 0 false, .int .i64 1]) (by simp [results, Try.results11, go_sem, r0, r1, r2, r3]) rfl ?_
      refine ⟨rfl, ?_⟩
      repeat (first | (with_reducible exact Mods.refl _ _) | (with_reducible refine Mods.alloc ?_ _) | (with_reducible refine Mods.drew ?_) | (with_reducible refine Mods.setCell ?_ (fun hlt => (by first | (simp at hlt; done) | (simp at hlt; omega) | (show _ ≤ _; omega) | (show _ < _; omega))) _) | (with_reducible refine Mods.trans ?_ hE) | (with_reducible refine Mods.undrew ?_))
end Go.Proofs.Ytjmkoelmiehdjaa.W
