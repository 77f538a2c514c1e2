/-
  Layer 28: the reference's Recover.
-/
import Derived.Test.YtjmkoelmiehdjaaWinL
namespace Go.Proofs.Ytjmkoelmiehdjaa.W
open Go.RowKit L
set_option linter.unusedVariables false
set_option linter.unusedSimpArgs false

def downL (n : Int) (k : Nat) : List Int := (List.range k).map fun (i : Nat) => n - (i : Int)
theorem downL_succ (n : Int) (k : Nat) : downL n (k + 1) = downL n k ++ [n - (k : Int)] := by simp [downL, List.range_succ]
theorem downL_len (n : Int) (k : Nat) : (downL n k).length = k := by simp [downL]

theorem made_down (s n : Int) (c : Nat) (h1 : 1 ≤ s) (h2 : s ≤ 64) (h0 : 0 ≤ n) (hc : (c : Int) = if s < n + 1 then s else n + 1) : madeN s n (downL n c) = maskN (if s < n + 1 then s else n + 1) := by
  rw [← hc]
  have hcs : (c : Int) ≤ s := by rw [hc]; split <;> omega
  have hcn : (c : Int) ≤ n + 1 := by rw [hc]; split <;> omega
  clear hc
  apply Nat.eq_of_testBit_eq
  intro i
  rw [madeN_bit, maskN_bit, Bool.eq_iff_iff, List.any_eq_true]
  simp only [Bool.and_eq_true, decide_eq_true_eq, hits, downL, List.mem_map, List.mem_range]
  constructor
  · rintro ⟨x, ⟨j, hj, rfl⟩, h3, h4, h5⟩
    omega
  · rintro ⟨h3, h4⟩
    exact ⟨_, ⟨i, by omega, rfl⟩, by omega, by omega, by omega⟩

def RRel (W0 : World) (base : Nat) (n : Int) (c : Nat) (l i : Value) (wr : World) : Prop :=
  ∃ k : Nat, k ≤ c ∧ i = .int .i64 k ∧ wr.ownsRow base 3 1 l k ((downL n k).map (.int .i64)) ∧ Ext W0 wr

set_option maxHeartbeats 1000000 in
theorem rrecover_ok (s t : Int) (b : Nat) (n : Int) (w : World) (hs : i64In s) (ht : i64In t) (hb : b < 2 ^ 64) (hn : i64In n) (hr : rightB s t b true n = true) :
    Calls Try.prog 11 #[winV s t b true, .int .i64 n] w fun e w' => e = .returned (.tuple #[winV s n (maskN (if s < n + 1 then s else n + 1)) false, .int .i64 0]) ∧ Ext w w' := by
  obtain ⟨⟨g1, g2, g3, g4⟩, g5, g6⟩ := rightB_bd hr
  have hv := fun w => rvalid_any s t b true w hs ht hb
  have hvv : validB s t b true = true := by simp only [rightB, Bool.and_eq_true] at hr; exact hr.1
  rw [hvv] at hv
  have H := Lib.hid hv
  obtain ⟨c, hc⟩ : ∃ c : Nat, (c : Int) = if s < n + 1 then s else n + 1 := ⟨(if s < n + 1 then s else n + 1).toNat, by split <;> omega⟩
  have hcs : (c : Int) ≤ s := by rw [hc]; split <;> omega
  have hcn : (c : Int) ≤ n + 1 := by rw [hc]; split <;> omega
  have hcm : s ≤ c ∨ n + 1 ≤ c := by rw [hc]; split <;> omega
  have hmd := made_down s n c g1 g2 g5 hc
  rw [← hmd]
  obtain ⟨i0, hi, hz0, hz1, hz2⟩ := info_parts info3
  clear hv hvv hr hs ht hn hc hmd
  go_enter Try.func11, Try.ntmps11
  go_wp2_with fail
  refine (H.out _).mono ?_
  rintro e w' ⟨rfl, hE⟩
  obtain ⟨hc1, hc2, hc3⟩ := hE.cells
  have hz : w.heap.size + 1 < w'.heap.size := by simp at hc3; omega
  have hzz : w.heap.size < w'.heap.size := by omega
  have k0 : World.cell? w' ⟨w.heap.size, 0, none⟩ = some (.int .i64 s) := by simp [go_sem, hc1, hc2, hzz]
  have k1 : World.cell? w' ⟨w.heap.size, 1, none⟩ = some (.int .i64 t) := by simp [go_sem, hc1, hc2, hzz]
  have k2 : World.cell? w' ⟨w.heap.size, 2, none⟩ = some (.int .u64 (b : Int)) := by simp [go_sem, hc1, hc2, hzz]
  have k3 : World.cell? w' ⟨w.heap.size, 3, none⟩ = some (.bool true) := by simp [go_sem, hc1, hc2, hzz]
  have kf : ∀ o, World.frozen? w' ⟨w.heap.size, o, none⟩ = false := fun o => by simp [go_sem, hc1, hc2, hzz]
  have r0 : World.cell? w' ⟨w.heap.size + 1, 0, none⟩ = some (.int .i64 0) := by simp [go_sem, hc1, hc2, hz]
  have r1 : World.cell? w' ⟨w.heap.size + 1, 1, none⟩ = some (.int .i64 0) := by simp [go_sem, hc1, hc2, hz]
  have r2 : World.cell? w' ⟨w.heap.size + 1, 2, none⟩ = some (.int .u64 0) := by simp [go_sem, hc1, hc2, hz]
  have r3 : World.cell? w' ⟨w.heap.size + 1, 3, none⟩ = some (.bool false) := by simp [go_sem, hc1, hc2, hz]
  have rf : ∀ o, World.frozen? w' ⟨w.heap.size + 1, o, none⟩ = false := fun o => by simp [go_sem, hc1, hc2, hz]
  clear hc1 hc2 hc3
  go_wp2
  go_loopw [6, 7] (fun l i wr => RRel w' w'.heap.size n c l i wr) (fun _ i _ => (c - intOf i).toNat)
  case atStart => exact ⟨0, by omega, rfl, by simpa [downL] using World.ownsRow_nil .., Mods.refl _ _⟩
  case round =>
    obtain ⟨m, hm, rfl, hown, hE2⟩ := hrel
    obtain ⟨hc1, hc2, hc3⟩ := hE2.cells
    have k'0 : World.cell? wr ⟨w.heap.size, 0, none⟩ = some (.int .i64 s) := by simp [go_sem, hc1, hc2, hzz, k0, k1, k2, k3, kf]
    have k'1 : World.cell? wr ⟨w.heap.size, 1, none⟩ = some (.int .i64 t) := by simp [go_sem, hc1, hc2, hzz, k0, k1, k2, k3, kf]
    have k'2 : World.cell? wr ⟨w.heap.size, 2, none⟩ = some (.int .u64 (b : Int)) := by simp [go_sem, hc1, hc2, hzz, k0, k1, k2, k3, kf]
    have k'3 : World.cell? wr ⟨w.heap.size, 3, none⟩ = some (.bool true) := by simp [go_sem, hc1, hc2, hzz, k0, k1, k2, k3, kf]
    have k'f : ∀ o, World.frozen? wr ⟨w.heap.size, o, none⟩ = false := fun o => by simp [go_sem, hc1, hc2, hzz, k0, k1, k2, k3, kf]
    have r'0 : World.cell? wr ⟨w.heap.size + 1, 0, none⟩ = some (.int .i64 0) := by simp [go_sem, hc1, hc2, hz, r0, r1, r2, r3, rf]
    have r'1 : World.cell? wr ⟨w.heap.size + 1, 1, none⟩ = some (.int .i64 0) := by simp [go_sem, hc1, hc2, hz, r0, r1, r2, r3, rf]
    have r'2 : World.cell? wr ⟨w.heap.size + 1, 2, none⟩ = some (.int .u64 0) := by simp [go_sem, hc1, hc2, hz, r0, r1, r2, r3, rf]
    have r'3 : World.cell? wr ⟨w.heap.size + 1, 3, none⟩ = some (.bool false) := by simp [go_sem, hc1, hc2, hz, r0, r1, r2, r3, rf]
    have r'f : ∀ o, World.frozen? wr ⟨w.heap.size + 1, o, none⟩ = false := fun o => by simp [go_sem, hc1, hc2, hz, r0, r1, r2, r3, rf]
    clear hc1 hc2
    by_cases hlt : m < c
    · have hmn : (m : Int) ≤ n := by omega
      have hms : (m : Int) < s := by omega
      have HSU := Lib.hid (downL_succ n m)
      go_wp2_with (at_builtin; refine wpList_append_own _ rfl (.tmp 35) (.tmp 39) 25 rfl w'.heap.size 3 i0 (.int .i64 0) 1 8 Try.underlying25 hi hz0 hz1 hz2 rfl (by decide) _ _ _ rfl (hown.alloc _) ⟨wr.heap.size, 0, none⟩ 1 1 [.int .i64 (n - (m : Int))] rfl rfl ?c1 ?c2 ?c3 ?c4 ?c5 ?_)
      case c1 => exact cell_one_new _ _ _
      case c2 => simp [Value.oneCell']
      case c3 => unfold maxLen; omega
      case c4 => omega
      case c5 => simp; omega
      intro v' w3 hown3 hgrow hnn
      clear hnn
      have HLT := Lib.hid hown.lt
      have HG := Lib.hid hgrow
      have HO := Lib.hid hown3
      clear hgrow hown3
      go_wp2
      go_roundw
      case rel =>
        refine ⟨m + 1, by omega, by go_num, ?_, ?_⟩
        · rw [HSU.out]
          have := HO.out
          simpa using this
        · refine Mods.grown ?_ HG.out (fun k hk hlt => ?_)
          · repeat (first | (with_reducible exact Mods.refl _ _) | (with_reducible refine Mods.alloc ?_ _) | (with_reducible refine Mods.drew ?_) | (with_reducible refine Mods.setCell ?_ (fun hlt => (by first | (simp at hlt; done) | (simp at hlt; omega) | (show _ ≤ _; omega) | (show _ < _; omega))) _) | (with_reducible refine Mods.trans ?_ hE2) | (with_reducible refine Mods.undrew ?_))
          · have := (HLT.out k hk).1
            omega
      case measure => simp [intOf]; omega
    · obtain rfl : m = c := by omega
      have hrd := reads_of_owns hown
      have hlen := downL_len n m
      have HRD := Lib.hid (show reads (fun b => w'.heap.size ≤ b) wr u6 (downL n m).length ((downL n m).map (.int .i64)) by rw [hlen]; exact hrd)
      have HLE := Lib.hid hlen
      have HBD := Lib.hid (show ∀ x ∈ downL n m, -1099511627776 ≤ x ∧ x ≤ 1099511627776 from fun x hx => by
        obtain ⟨j, hj, rfl⟩ := List.mem_map.1 hx
        have := List.mem_range.1 hj
        omega)
      clear hrd hlen
      have hno : ¬ ((m : Int) ≤ n ∧ (m : Int) < s) := by omega
      by_cases hmn : (m : Int) ≤ n
      all_goals
        go_wp2_with fail
        refine (made_any s n u6 (downL n m) _ _ ⟨by omega, g2⟩ ⟨by omega, g6⟩ HBD.out HRD.out (by rw [HLE.out]; omega)).mono ?_
        rintro e w4 ⟨rfl, hE4⟩
        obtain ⟨hd1, hd2, hd3⟩ := hE4.cells
        have hzr : w.heap.size + 1 < wr.heap.size := by omega
        have q0 : World.cell? w4 ⟨w.heap.size + 1, 0, none⟩ = some (.int .i64 0) := by simp [go_sem, hd1, hd2, hzr, r'0, r'1, r'2, r'3, r'f]
        have q1 : World.cell? w4 ⟨w.heap.size + 1, 1, none⟩ = some (.int .i64 0) := by simp [go_sem, hd1, hd2, hzr, r'0, r'1, r'2, r'3, r'f]
        have q2 : World.cell? w4 ⟨w.heap.size + 1, 2, none⟩ = some (.int .u64 0) := by simp [go_sem, hd1, hd2, hzr, r'0, r'1, r'2, r'3, r'f]
        have q3 : World.cell? w4 ⟨w.heap.size + 1, 3, none⟩ = some (.bool false) := by simp [go_sem, hd1, hd2, hzr, r'0, r'1, r'2, r'3, r'f]
        have qf : ∀ o, World.frozen? w4 ⟨w.heap.size + 1, o, none⟩ = false := fun o => by simp [go_sem, hd1, hd2, hzr, r'0, r'1, r'2, r'3, r'f]
        clear hd1 hd2 hd3
        go_wp2
        refine bodyPost_ret (v := .tuple #[winV s n (madeN s n (downL n m)) false, .int .i64 0]) (by simp [results, Try.results11, go_sem, q0, q1, q2, q3]) rfl ?_
        refine ⟨rfl, ?_⟩
        repeat (first | (with_reducible exact Mods.refl _ _) | (with_reducible refine Mods.alloc ?_ _) | (with_reducible refine Mods.drew ?_) | (with_reducible refine Mods.setCell ?_ (fun hlt => (by first | (simp at hlt; done) | (simp at hlt; omega) | (show _ ≤ _; omega) | (show _ < _; omega))) _) | (with_reducible refine Mods.trans ?_ hE4) | (with_reducible refine Mods.trans ?_ hE2) | (with_reducible refine Mods.trans ?_ hE) | (with_reducible refine Mods.undrew ?_))
end Go.Proofs.Ytjmkoelmiehdjaa.W
