/-
  Layer 28: the reference's Accept, whole.
-/
import Derived.Test.YtjmkoelmiehdjaaWinK
namespace Go.Proofs.Ytjmkoelmiehdjaa.W
open Go.RowKit L
set_option linter.unusedVariables false
set_option linter.unusedSimpArgs false

set_option maxHeartbeats 1000000 in
theorem raccept_gt (s t : Int) (b : Nat) (n : Int) (w : World) (hs : i64In s) (ht : i64In t) (hb : b < 2 ^ 64) (hn : i64In n) (h0 : checkE s t b false n = 0) (hgt : t < n) :
    Calls Try.prog 19 #[winV s t b false, .int .i64 n] w fun e w' => e = .returned (.tuple #[winV s n (madeN s n (seenTo t b 64 ++ [n])) false, .int .i64 0]) ∧ Ext w w' := by
  obtain ⟨⟨g1, g2, g3, g4⟩, g5, g6, -, g7⟩ := checkE_zero h0
  have hval : validB s t b false = true := by
    unfold checkE at h0
    split at h0
    · cases h0
    · rename_i hr
      simp only [rightB] at hr
      cases hv : validB s t b false with
      | true => rfl
      | false => rw [hv] at hr; exact absurd rfl hr
  have hseen := fun w => rseen_any s t b false w hs ht hb
  rw [show seenL s t b false = seenTo t b 64 from by simp [seenL, hval]] at hseen
  have HSEEN := Lib.hid hseen
  have hq := fun w => rcheck_any s t b false n w hs ht hb hn
  rw [h0] at hq
  have H := Lib.hid hq
  have hsl := seenTo_len t b 64
  have hbd := seen_bd (b := b) g3 g4
  have HBD := Lib.hid hbd
  obtain ⟨i0, hi, hz0, hz1, hz2⟩ := info_parts info3
  clear hq h0 hs ht hn hseen hval hbd
  go_enter Try.func19, Try.ntmps19
  go_wp2_with fail
  refine (H.out _).mono ?_
  rintro e w' ⟨rfl, hE⟩
  obtain ⟨hc1, hc2, hc3⟩ := hE.cells
  have hz : w.heap.size + 1 < w'.heap.size := by simp at hc3; omega
  have hzz : w.heap.size < w'.heap.size := by omega
  have k0 : World.cell? w' ⟨w.heap.size, 0, none⟩ = some (.int .i64 s) := by simp [go_sem, hc1, hc2, hzz]
  have k1 : World.cell? w' ⟨w.heap.size, 1, none⟩ = some (.int .i64 t) := by simp [go_sem, hc1, hc2, hzz]
  have k2 : World.cell? w' ⟨w.heap.size, 2, none⟩ = some (.int .u64 (b : Int)) := by simp [go_sem, hc1, hc2, hzz]
  have k3 : World.cell? w' ⟨w.heap.size, 3, none⟩ = some (.bool false) := by simp [go_sem, hc1, hc2, hzz]
  have kf : ∀ o, World.frozen? w' ⟨w.heap.size, o, none⟩ = false := fun o => by simp [go_sem, hc1, hc2, hzz]
  have r0 : World.cell? w' ⟨w.heap.size + 1, 0, none⟩ = some (.int .i64 0) := by simp [go_sem, hc1, hc2, hz]
  have r1 : World.cell? w' ⟨w.heap.size + 1, 1, none⟩ = some (.int .i64 0) := by simp [go_sem, hc1, hc2, hz]
  have r2 : World.cell? w' ⟨w.heap.size + 1, 2, none⟩ = some (.int .u64 0) := by simp [go_sem, hc1, hc2, hz]
  have r3 : World.cell? w' ⟨w.heap.size + 1, 3, none⟩ = some (.bool false) := by simp [go_sem, hc1, hc2, hz]
  have rf : ∀ o, World.frozen? w' ⟨w.heap.size + 1, o, none⟩ = false := fun o => by simp [go_sem, hc1, hc2, hz]
  clear hc1 hc2 hc3
  go_wp2
  refine wp_region_g (fun i => Nat.ble 9 i) (by kernel_rfl) ?_
  refine G.take [0,1,2,3,5] #[true, true, true, true, false, true, false, false, false, false, false] 6 (by kernel_rfl) (by kernel_rfl) (by kernel_rfl) (by kernel_rfl) (by kernel_rfl) (by kernel_rfl) (by kernel_rfl) (Mods.refl _ _) ?_
  simp only [pickL, List.getElem?_cons_zero, List.getElem?_cons_succ]
  repeat (go_big_quiet_step (fail))
  refine wpQuiet_nil ?_
  refine G.two 4 6 (by kernel_rfl) ?_ ?_
  · refine G.wpCall 4 rfl rfl Try.func24 (by kernel_rfl) (by kernel_rfl) (by kernel_rfl) (by kernel_rfl) (Calls.mono (HSEEN.out _) ?_)
    rintro e w2 ⟨v, rfl, hown, hE2⟩
    refine ⟨v, rfl, fun _ => hE2, ?_⟩
    refine G.cast #[true, true, true, true, true, true, false, false, false, false, false] (by kernel_rfl) ?_
    simp only [Act.put, List.setIfInBounds_toArray, List.set_cons_succ, List.set_cons_zero]
    refine G.one 6 #[true, true, true, true, true, true, true, false, false, false, false] rfl (by kernel_rfl) (by kernel_rfl) (by kernel_rfl) ?_
    refine G.hide (fun K hK => ?_)
    go_simp
    refine hK _ _ ⟨fun _ => ?_, ?_⟩
    all_goals clear hK K
    · repeat (first | (with_reducible exact Mods.refl _ _) | (with_reducible refine Mods.alloc ?_ _) | (with_reducible refine Mods.drew ?_) | (with_reducible refine Mods.setCell ?_ (fun hlt => (by first | (simp at hlt; done) | (simp at hlt; omega) | (show _ ≤ _; omega) | (show _ < _; omega))) _) | (with_reducible refine Mods.trans ?_ hE2) | (with_reducible refine Mods.undrew ?_))
    refine G.one 7 #[true, true, true, true, true, true, true, true, false, false, false] rfl (by kernel_rfl) (by kernel_rfl) (by kernel_rfl) ?_
    have hown2 := hown.alloc (.cells #[.int .i64 n] 3)
    refine wp_append_own _ (.tmp 25) (.tmp 27) 25 rfl w'.heap.size 3 i0 (.int .i64 0) 1 8 Try.underlying25 hi hz0 hz1 hz2 rfl (by decide) _ _ _ rfl hown2 ⟨w2.heap.size, 0, none⟩ 1 1 [.int .i64 n] rfl rfl (cell_one_new _ _ _) (by simp [Value.oneCell']) (by unfold maxLen; omega) (by omega) (by have := hE2.size; simp at this ⊢; omega) ?_
    intro v' w3 hown3 hgrow hnn
    have hlt := hown2.lt
    have hE3 : Ext w'.drew w3 := by
      refine Mods.grown ?_ hgrow (fun k hk hlt' => ?_)
      · repeat (first | (with_reducible exact Mods.refl _ _) | (with_reducible refine Mods.alloc ?_ _) | (with_reducible refine Mods.drew ?_) | (with_reducible refine Mods.setCell ?_ (fun hlt => (by first | (simp at hlt; done) | (simp at hlt; omega) | (show _ ≤ _; omega) | (show _ < _; omega))) _) | (with_reducible refine Mods.trans ?_ hE2) | (with_reducible refine Mods.undrew ?_))
      · have h1 := (hlt k hk).1
        simp only [World.size_drew] at h1 hlt'
        omega
    refine ⟨fun _ => hE3, ?_⟩
    simp only [Act.put, List.setIfInBounds_toArray, List.set_cons_succ, List.set_cons_zero]
    refine G.call 8 #[true, true, true, true, true, true, true, true, true, false, false] rfl rfl Try.func29 (by kernel_rfl) (by kernel_rfl) (by kernel_rfl) (by kernel_rfl) (by kernel_rfl) (by kernel_rfl) (Calls.mono (made_any s n v' (seenTo t b 64 ++ [n]) _ w3 ⟨by omega, g2⟩ ⟨by omega, g6⟩ (fun x hx => (List.mem_append.1 hx).elim (HBD.out x) (fun h => by rw [List.mem_singleton.1 h]; omega)) (owns_app hown3) (by simp; omega)) ?_)
    rintro e w4 ⟨rfl, hE4⟩
    refine ⟨_, rfl, fun _ => hE3.trans hE4, ?_⟩
    simp only [Act.put, List.setIfInBounds_toArray, List.set_cons_succ, List.set_cons_zero]
    have hE34 : Ext w' w4 := ((Mods.refl _ _).drew.trans hE3).trans hE4
    have hs34 := hE34.size
    obtain ⟨hd1, hd2, hd3⟩ := Ext.cells hE34
    have q0 : World.cell? w4 ⟨w.heap.size + 1, 0, none⟩ = some (.int .i64 0) := by simp [go_sem, hd1, hd2, hz, r0, r1, r2, r3, rf]
    have q1 : World.cell? w4 ⟨w.heap.size + 1, 1, none⟩ = some (.int .i64 0) := by simp [go_sem, hd1, hd2, hz, r0, r1, r2, r3, rf]
    have q2 : World.cell? w4 ⟨w.heap.size + 1, 2, none⟩ = some (.int .u64 0) := by simp [go_sem, hd1, hd2, hz, r0, r1, r2, r3, rf]
    have q3 : World.cell? w4 ⟨w.heap.size + 1, 3, none⟩ = some (.bool false) := by simp [go_sem, hd1, hd2, hz, r0, r1, r2, r3, rf]
    have qf : ∀ o, World.frozen? w4 ⟨w.heap.size + 1, o, none⟩ = false := fun o => by simp [go_sem, hd1, hd2, hz, r0, r1, r2, r3, rf]
    clear hd1 hd2 hd3
    refine G.list [9, 10] _ _ _ _ (by kernel_rfl) (by kernel_rfl) (by kernel_rfl) ?_
    simp only [pickL, List.getElem?_cons_zero, List.getElem?_cons_succ]
    go_wp2
    simp only [normQ_normal]
    go_wp2
    refine bodyPost_ret (v := .tuple #[winV s n (madeN s n (seenTo t b 64 ++ [n])) false, .int .i64 0]) (by simp [results, Try.results19, go_sem, q0, q1, q2, q3]) rfl ?_
    refine ⟨rfl, ?_⟩
    repeat (first | (with_reducible exact Mods.refl _ _) | (with_reducible refine Mods.alloc ?_ _) | (with_reducible refine Mods.drew ?_) | (with_reducible refine Mods.setCell ?_ (fun hlt => (by first | (simp at hlt; done) | (simp at hlt; omega) | (show _ ≤ _; omega) | (show _ < _; omega))) _) | (with_reducible refine Mods.trans ?_ hE34) | (with_reducible refine Mods.trans ?_ hE) | (with_reducible refine Mods.undrew ?_))
  · skip
    refine G.wp 6 rfl (by kernel_rfl) ?_
    refine G.hide (fun K hK => ?_)
    go_simp
    refine hK _ _ ⟨fun _ => ?_, ?_⟩
    all_goals clear hK K
    · repeat (first | (with_reducible exact Mods.refl _ _) | (with_reducible refine Mods.alloc ?_ _) | (with_reducible refine Mods.drew ?_) | (with_reducible refine Mods.setCell ?_ (fun hlt => (by first | (simp at hlt; done) | (simp at hlt; omega) | (show _ ≤ _; omega) | (show _ < _; omega))) _)  | (with_reducible refine Mods.undrew ?_))
    refine G.cast #[true, true, true, true, false, true, true, false, false, false, false] (by kernel_rfl) ?_
    refine G.call 4 #[true, true, true, true, true, true, true, false, false, false, false] rfl rfl Try.func24 (by kernel_rfl) (by kernel_rfl) (by kernel_rfl) (by kernel_rfl) (by kernel_rfl) (by kernel_rfl) (Calls.mono (HSEEN.out _) ?_)
    rintro e w2 ⟨v, rfl, hown, hE2⟩
    have hE2' : Ext w' w2 := ((Mods.refl _ _).alloc _).drew.trans hE2
    refine ⟨v, rfl, fun _ => hE2'.undrew, ?_⟩
    simp only [Act.put, List.setIfInBounds_toArray, List.set_cons_succ, List.set_cons_zero]
    refine G.one 7 #[true, true, true, true, true, true, true, true, false, false, false] rfl (by kernel_rfl) (by kernel_rfl) (by kernel_rfl) ?_
    have hsz2 := hE2.size
    refine wp_append_own _ (.tmp 25) (.tmp 27) 25 rfl (w'.heap.size + 1) 3 i0 (.int .i64 0) 1 8 Try.underlying25 hi hz0 hz1 hz2 rfl (by decide) _ _ _ rfl (ownsRow_mono hown (by simp)) ⟨w'.heap.size, 0, none⟩ 1 1 [.int .i64 n] rfl rfl ?_ (by simp [Value.oneCell']) (by unfold maxLen; omega) (by omega) (by simp at hsz2; omega) ?_
    · intro j u hj
      match j, hj with
      | 0, hj =>
        simp at hj
        subst hj
        have := hE2.cell (p := ⟨w'.heap.size, 0, none⟩) (by simp) (fun h => h)
        simpa [Addr.add] using this
    intro v' w3 hown3 hgrow hnn
    have hlt := (ownsRow_mono (base' := w'.heap.size + 1) hown (by simp)).lt
    have hE3 : Ext w'.drew w3 := by
      refine Mods.grown ?_ hgrow (fun k hk hlt' => ?_)
      · exact hE2'.undrew
      · have h1 := (hlt k hk).1
        simp only [World.size_drew] at hlt'
        omega
    refine ⟨fun _ => hE3, ?_⟩
    simp only [Act.put, List.setIfInBounds_toArray, List.set_cons_succ, List.set_cons_zero]
    refine G.call 8 #[true, true, true, true, true, true, true, true, true, false, false] rfl rfl Try.func29 (by kernel_rfl) (by kernel_rfl) (by kernel_rfl) (by kernel_rfl) (by kernel_rfl) (by kernel_rfl) (Calls.mono (made_any s n v' (seenTo t b 64 ++ [n]) _ w3 ⟨by omega, g2⟩ ⟨by omega, g6⟩ (fun x hx => (List.mem_append.1 hx).elim (HBD.out x) (fun h => by rw [List.mem_singleton.1 h]; omega)) (owns_app hown3) (by simp; omega)) ?_)
    rintro e w4 ⟨rfl, hE4⟩
    refine ⟨_, rfl, fun _ => hE3.trans hE4, ?_⟩
    simp only [Act.put, List.setIfInBounds_toArray, List.set_cons_succ, List.set_cons_zero]
    have hE34 : Ext w' w4 := ((Mods.refl _ _).drew.trans hE3).trans hE4
    have hs34 := hE34.size
    obtain ⟨hd1, hd2, hd3⟩ := Ext.cells hE34
    have q0 : World.cell? w4 ⟨w.heap.size + 1, 0, none⟩ = some (.int .i64 0) := by simp [go_sem, hd1, hd2, hz, r0, r1, r2, r3, rf]
    have q1 : World.cell? w4 ⟨w.heap.size + 1, 1, none⟩ = some (.int .i64 0) := by simp [go_sem, hd1, hd2, hz, r0, r1, r2, r3, rf]
    have q2 : World.cell? w4 ⟨w.heap.size + 1, 2, none⟩ = some (.int .u64 0) := by simp [go_sem, hd1, hd2, hz, r0, r1, r2, r3, rf]
    have q3 : World.cell? w4 ⟨w.heap.size + 1, 3, none⟩ = some (.bool false) := by simp [go_sem, hd1, hd2, hz, r0, r1, r2, r3, rf]
    have qf : ∀ o, World.frozen? w4 ⟨w.heap.size + 1, o, none⟩ = false := fun o => by simp [go_sem, hd1, hd2, hz, r0, r1, r2, r3, rf]
    clear hd1 hd2 hd3
    refine G.list [9, 10] _ _ _ _ (by kernel_rfl) (by kernel_rfl) (by kernel_rfl) ?_
    simp only [pickL, List.getElem?_cons_zero, List.getElem?_cons_succ]
    go_wp2
    simp only [normQ_normal]
    go_wp2
    refine bodyPost_ret (v := .tuple #[winV s n (madeN s n (seenTo t b 64 ++ [n])) false, .int .i64 0]) (by simp [results, Try.results19, go_sem, q0, q1, q2, q3]) rfl ?_
    refine ⟨rfl, ?_⟩
    repeat (first | (with_reducible exact Mods.refl _ _) | (with_reducible refine Mods.alloc ?_ _) | (with_reducible refine Mods.drew ?_) | (with_reducible refine Mods.setCell ?_ (fun hlt => (by first | (simp at hlt; done) | (simp at hlt; omega) | (show _ ≤ _; omega) | (show _ < _; omega))) _) | (with_reducible refine Mods.trans ?_ hE34) | (with_reducible refine Mods.trans ?_ hE) | (with_reducible refine Mods.undrew ?_))


theorem checkE_valid {s t : Int} {b : Nat} {l : Bool} {n : Int} (h0 : checkE s t b l n = 0) : validB s t b l = true := by
  unfold checkE at h0
  split at h0
  · cases h0
  · rename_i hr
    simp only [rightB] at hr
    cases hv : validB s t b l with
    | true => rfl
    | false => rw [hv] at hr; exact absurd rfl hr

theorem raccept_any (s t : Int) (b : Nat) (l : Bool) (n : Int) (w : World) (hs : i64In s) (ht : i64In t) (hb : b < 2 ^ 64) (hn : i64In n) :
    Calls Try.prog 19 #[winV s t b l, .int .i64 n] w fun e w' => e = .returned (accV s t b l n) ∧ Ext w w' := by
  unfold accV
  by_cases h0 : checkE s t b l n = 0
  · obtain ⟨-, -, -, rfl, -⟩ := checkE_zero h0
    rw [if_pos h0, ← made_acc s t b n hb h0 (checkE_valid h0)]
    unfold accT
    by_cases hgt : t < n
    · rw [if_pos hgt]; exact raccept_gt s t b n w hs ht hb hn h0 hgt
    · rw [if_neg hgt]; exact raccept_le s t b n w hs ht hb hn h0 hgt
  · rw [if_neg h0]
    exact raccept_no s t b l n w hs ht hb hn h0
end Go.Proofs.Ytjmkoelmiehdjaa.W
