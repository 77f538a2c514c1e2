/-
  Layer 28: the reference's bit, Valid, Check, Lose, New.
-/
import Derived.Test.YtjmkoelmiehdjaaWinE
namespace Go.Proofs.Ytjmkoelmiehdjaa.W
open Go.RowKit L
set_option linter.unusedVariables false
set_option linter.unusedSimpArgs false

def bitB (b : Nat) (i : Int) : Bool := decide (0 ≤ i) && (decide (i < 64) && b.testBit i.toNat)

set_option maxHeartbeats 400000 in
theorem rbit_any (s t : Int) (b : Nat) (l : Bool) (i : Int) (w : World) (hb : b < 2 ^ 64) :
    Calls Try.prog 30 #[winV s t b l, .int .i64 i] w fun e w' => e = .returned (.bool (bitB b i)) ∧ Ext w w' := by
  by_cases h1 : 0 ≤ i
  · by_cases h2 : i < 64
    · have V := Lib.hid (show bitB b i = (bits .and .u64 ((b : Int) / 2 ^ i.toNat) 1 == 1) by rw [shr_bit b _ hb]; simp [bitB, h1, h2])
      rw [V.out]
      go_enter Try.func30, Try.ntmps30
      go_wp2
      all_goals (go_ret; refine ⟨rfl, ?_⟩)
      repeat (first | (with_reducible exact Mods.refl _ _) | (with_reducible refine Mods.alloc ?_ _) | (with_reducible refine Mods.drew ?_) | (with_reducible refine Mods.setCell ?_ (fun hlt => (by first | (simp at hlt; done) | (simp at hlt; omega) | (show _ ≤ _; omega) | (show _ < _; omega))) _) )
    · have V := Lib.hid (show bitB b i = false by simp [bitB, h2])
      rw [V.out]
      go_enter Try.func30, Try.ntmps30
      go_wp2
      all_goals (go_ret; refine ⟨rfl, ?_⟩)
      repeat (first | (with_reducible exact Mods.refl _ _) | (with_reducible refine Mods.alloc ?_ _) | (with_reducible refine Mods.drew ?_) | (with_reducible refine Mods.setCell ?_ (fun hlt => (by first | (simp at hlt; done) | (simp at hlt; omega) | (show _ ≤ _; omega) | (show _ < _; omega))) _) )
  · have V := Lib.hid (show bitB b i = false by simp [bitB, h1])
    rw [V.out]
    go_enter Try.func30, Try.ntmps30
    go_wp2
    all_goals (go_ret; refine ⟨rfl, ?_⟩)
    repeat (first | (with_reducible exact Mods.refl _ _) | (with_reducible refine Mods.alloc ?_ _) | (with_reducible refine Mods.drew ?_) | (with_reducible refine Mods.setCell ?_ (fun hlt => (by first | (simp at hlt; done) | (simp at hlt; omega) | (show _ ≤ _; omega) | (show _ < _; omega))) _) )

def okTo (s t : Int) (b k : Nat) : Bool := (List.range k).all fun i => !b.testBit i || (decide ((i : Int) < s) && decide ((i : Int) ≤ t))
theorem okTo_succ (s t : Int) (b k : Nat) : okTo s t b (k + 1) = (okTo s t b k && (!b.testBit k || (decide ((k : Int) < s) && decide ((k : Int) ≤ t)))) := by
  simp [okTo, List.range_succ]
theorem okBits_not {s t : Int} {b k : Nat} (hk : k < 64) (h : (!b.testBit k || (decide ((k : Int) < s) && decide ((k : Int) ≤ t))) = false) : okBits s t b = false := by
  unfold okBits
  rw [List.all_eq_false]
  exact ⟨k, List.mem_range.2 hk, by rw [h]; simp⟩

theorem bitB_nat (b k : Nat) (hk : k < 64) : bitB b (k : Int) = b.testBit k := by
  have h : (k : Int) < 64 := by omega
  simp [bitB, h]

set_option maxHeartbeats 1000000 in
theorem rvalid_mid (s t : Int) (b : Nat) (w : World) (hb : b < 2 ^ 64) (g1 : 1 ≤ s) (g2 : s ≤ 64) (g3 : -1 ≤ t) (g4 : t ≤ 1099511627775) :
    Calls Try.prog 21 #[winV s t b false] w fun e w' => e = .returned (.bool (okBits s t b && (decide (t = -1) || b.testBit 0))) ∧ Ext w w' := by
  have hbit := fun i w => rbit_any s t b false i w hb
  have H := Lib.hid hbit
  clear hbit
  go_enter Try.func21, Try.ntmps21
  go_wp2
  go_loopw [3] (fun i wr => ∃ k : Nat, k ≤ 64 ∧ i = .int .i64 k ∧ okTo s t b k = true ∧ Ext (w.alloc (.cells #[.int .i64 s, .int .i64 t, .int .u64 (b : Int), .bool false] 24)) wr) (fun i _ => (64 - intOf i).toNat)
  case atStart => exact ⟨0, by omega, rfl, rfl, Mods.refl _ _⟩
  case round =>
    obtain ⟨k, hk, rfl, hok, hE⟩ := hrel
    have HOK := Lib.hid hok
    clear hok
    obtain ⟨hc1, hc2, hc3⟩ := hE.cells
    have hz : w.heap.size < wr.heap.size := by simp at hc3; omega
    have c0 : World.cell? wr ⟨w.heap.size, 0, none⟩ = some (.int .i64 s) := by simp [go_sem, hc1, hc2]
    have c1 : World.cell? wr ⟨w.heap.size, 1, none⟩ = some (.int .i64 t) := by simp [go_sem, hc1, hc2]
    have c2 : World.cell? wr ⟨w.heap.size, 2, none⟩ = some (.int .u64 (b : Int)) := by simp [go_sem, hc1, hc2]
    have c3 : World.cell? wr ⟨w.heap.size, 3, none⟩ = some (.bool false) := by simp [go_sem, hc1, hc2]
    have cf : ∀ o, World.frozen? wr ⟨w.heap.size, o, none⟩ = false := fun o => by simp [go_sem, hc1, hc2]
    clear hc1 hc2 hc3
    by_cases hlt : k < 64
    · have hkz : (k : Int) < 64 := by omega
      have HB := Lib.hid (bitB_nat b k hlt)
      have hsucc := okTo_succ s t b k
      have hbad := fun h => okBits_not (s := s) (t := t) (b := b) hlt h
      rw [HOK.out] at hsucc
      generalize hx : b.testBit k = x at *
      have HX := Lib.hid hx
      clear hx
      cases x
      · have HS := Lib.hid (show okTo s t b (k + 1) = true by rw [hsucc]; rfl)
        clear hsucc hbad
        go_wp2_with fail
        refine (H.out _ _).mono ?_
        rintro e w' ⟨rfl, hE2⟩
        rw [HB.out]
        obtain ⟨hc1, hc2, hc3⟩ := hE2.cells
        go_wp2
        go_roundw
        case rel => exact ⟨k + 1, by omega, by go_num, HS.out, hE.trans hE2⟩
        case measure => simp [intOf]; omega
      · by_cases h1 : (k : Int) < s
        · by_cases h2 : (k : Int) ≤ t
          · have HS := Lib.hid (show okTo s t b (k + 1) = true by rw [hsucc]; simp [h1, h2])
            clear hsucc hbad
            go_wp2_with fail
            refine (H.out _ _).mono ?_
            rintro e w' ⟨rfl, hE2⟩
            rw [HB.out]
            obtain ⟨hc1, hc2, hc3⟩ := hE2.cells
            go_wp2
            go_roundw
            case rel => exact ⟨k + 1, by omega, by go_num, HS.out, hE.trans hE2⟩
            case measure => simp [intOf]; omega
          · have HS := Lib.hid (hbad (by simp [h2]))
            clear hsucc hbad
            go_wp2_with fail
            refine (H.out _ _).mono ?_
            rintro e w' ⟨rfl, hE2⟩
            rw [HB.out]
            obtain ⟨hc1, hc2, hc3⟩ := hE2.cells
            go_wp2
            go_ret
            refine ⟨by rw [HS.out]; rfl, ?_⟩
            repeat (first | (with_reducible exact Mods.refl _ _) | (with_reducible refine Mods.alloc ?_ _) | (with_reducible refine Mods.drew ?_) | (with_reducible refine Mods.setCell ?_ (fun hlt => (by first | (simp at hlt; done) | (simp at hlt; omega) | (show _ ≤ _; omega) | (show _ < _; omega))) _) | (with_reducible refine Mods.trans ?_ hE2) | (with_reducible refine Mods.trans ?_ hE))
        · have HS := Lib.hid (hbad (by simp [h1]))
          clear hsucc hbad
          go_wp2_with fail
          refine (H.out _ _).mono ?_
          rintro e w' ⟨rfl, hE2⟩
          rw [HB.out]
          obtain ⟨hc1, hc2, hc3⟩ := hE2.cells
          go_wp2
          go_ret
          refine ⟨by rw [HS.out]; rfl, ?_⟩
          repeat (first | (with_reducible exact Mods.refl _ _) | (with_reducible refine Mods.alloc ?_ _) | (with_reducible refine Mods.drew ?_) | (with_reducible refine Mods.setCell ?_ (fun hlt => (by first | (simp at hlt; done) | (simp at hlt; omega) | (show _ ≤ _; omega) | (show _ < _; omega))) _) | (with_reducible refine Mods.trans ?_ hE2) | (with_reducible refine Mods.trans ?_ hE))
    · obtain rfl : k = 64 := by omega
      have HS := Lib.hid (show okBits s t b = true from HOK.out)
      by_cases ht1 : t = -1
      · subst ht1
        go_wp2
        go_ret
        refine ⟨by rw [HS.out]; rfl, ?_⟩
        repeat (first | (with_reducible exact Mods.refl _ _) | (with_reducible refine Mods.alloc ?_ _) | (with_reducible refine Mods.drew ?_) | (with_reducible refine Mods.setCell ?_ (fun hlt => (by first | (simp at hlt; done) | (simp at hlt; omega) | (show _ ≤ _; omega) | (show _ < _; omega))) _) | (with_reducible refine Mods.trans ?_ hE))
      · have hz1 : (t == -1) = false := by simpa using ht1
        have HT := Lib.hid (show (okBits s t b && (decide (t = -1) || b.testBit 0)) = b.testBit 0 by rw [HS.out]; simp [ht1])
        have HB := Lib.hid (show bitB b 0 = b.testBit 0 from bitB_nat b 0 (by omega))
        clear ht1
        go_wp2_with fail
        refine (H.out _ _).mono ?_
        rintro e w' ⟨rfl, hE2⟩
        rw [HB.out]
        go_wp2
        all_goals (go_ret; refine ⟨by rw [HT.out]; first | rfl | (simp [*]; done), ?_⟩)
        repeat (first | (with_reducible exact Mods.refl _ _) | (with_reducible refine Mods.alloc ?_ _) | (with_reducible refine Mods.drew ?_) | (with_reducible refine Mods.setCell ?_ (fun hlt => (by first | (simp at hlt; done) | (simp at hlt; omega) | (show _ ≤ _; omega) | (show _ < _; omega))) _) | (with_reducible refine Mods.trans ?_ hE2) | (with_reducible refine Mods.trans ?_ hE))

set_option maxHeartbeats 400000 in
theorem rvalid_any (s t : Int) (b : Nat) (l : Bool) (w : World) (hs : i64In s) (ht : i64In t) (hb : b < 2 ^ 64) :
    Calls Try.prog 21 #[winV s t b l] w fun e w' => e = .returned (.bool (validB s t b l)) ∧ Ext w w' := by
  obtain ⟨hs, hs'⟩ := hs
  obtain ⟨ht, ht'⟩ := ht
  by_cases hg : 1 ≤ s ∧ s ≤ 64 ∧ -1 ≤ t ∧ t ≤ 1099511627775
  · have hg' := hg
    obtain ⟨g1, g2, g3, g4⟩ := hg
    cases l
    · have V : validB s t b false = (okBits s t b && (decide (t = -1) || b.testBit 0)) := by simp [validB, hg']
      rw [V]
      exact rvalid_mid s t b w hb g1 g2 g3 g4
    · have V := Lib.hid (show validB s t b true = (decide (b = 0) && (t == -1)) by simp only [validB, g1, g2, g3, g4]; rw [show (t == -1) = decide (t = -1) from by rw [Bool.eq_iff_iff]; simp]; simp)
      rw [V.out]
      by_cases h0 : b = 0
      · subst h0
        go_enter Try.func21, Try.ntmps21
        go_wp2
        all_goals (go_ret; refine ⟨?_, (Mods.refl _ _).alloc _⟩; simp; try omega)
      · have h0' : ((b : Int) == 0) = false := by simp [h0]
        go_enter Try.func21, Try.ntmps21
        go_wp2
        all_goals (go_ret; refine ⟨?_, (Mods.refl _ _).alloc _⟩; simp [h0]; try omega)
  · have V := Lib.hid (show validB s t b l = false by simp only [validB, hg]; simp)
    rw [V.out]
    clear V
    by_cases g1 : s < 1
    · go_enter Try.func21, Try.ntmps21
      go_wp2
      all_goals (go_ret; exact ⟨rfl, (Mods.refl _ _).alloc _⟩)
    · by_cases g2 : 64 < s
      · go_enter Try.func21, Try.ntmps21
        go_wp2
        all_goals (go_ret; exact ⟨rfl, (Mods.refl _ _).alloc _⟩)
      · by_cases g3 : t < -1
        · go_enter Try.func21, Try.ntmps21
          go_wp2
          all_goals (go_ret; exact ⟨rfl, (Mods.refl _ _).alloc _⟩)
        · have g4 : 1099511627775 < t := by omega
          clear hg
          go_enter Try.func21, Try.ntmps21
          go_wp2
          all_goals (go_ret; exact ⟨rfl, (Mods.refl _ _).alloc _⟩)

theorem rlose_any (s t : Int) (b : Nat) (l : Bool) (w : World) :
    Calls Try.prog 8 #[winV s t b l] w fun e w' => e = .returned (winV s (-1) 0 true) ∧ Ext w w' := by
  go_enter Try.func8, Try.ntmps8
  go_wp2
  go_returns
  refine ⟨rfl, ?_⟩
  repeat (first | (with_reducible exact Mods.refl _ _) | (with_reducible refine Mods.alloc ?_ _) | (with_reducible refine Mods.drew ?_) | (with_reducible refine Mods.setCell ?_ (fun hlt => (by first | (simp at hlt; done) | (simp at hlt; omega) | (show _ ≤ _; omega) | (show _ < _; omega))) _) )

theorem rnew_any (n : Int) (w : World) : Calls Try.prog 25 #[.int .i64 n] w fun e w' =>
    e = .returned (.tuple #[if 1 ≤ n ∧ n ≤ 64 then winV n (-1) 0 false else winV 0 0 0 false, .int .i64 (if 1 ≤ n ∧ n ≤ 64 then 0 else 1)]) ∧ Ext w w' := by
  by_cases h1 : 1 ≤ n
  · by_cases h2 : n ≤ 64
    · rw [if_pos ⟨h1, h2⟩, if_pos ⟨h1, h2⟩]
      go_enter Try.func25, Try.ntmps25
      go_wp2
      all_goals (go_returns; refine ⟨rfl, ?_⟩)
      all_goals (repeat (first | exact Mods.refl _ _ | refine Mods.alloc ?_ _ | refine Mods.setCell ?_ (by simp) _))
    · rw [if_neg (fun h => h2 h.2), if_neg (fun h => h2 h.2)]
      go_enter Try.func25, Try.ntmps25
      go_wp2
      all_goals (go_returns; refine ⟨rfl, ?_⟩)
      all_goals (repeat (first | exact Mods.refl _ _ | refine Mods.alloc ?_ _ | refine Mods.setCell ?_ (by simp) _))
  · rw [if_neg (fun h => h1 h.1), if_neg (fun h => h1 h.1)]
    go_enter Try.func25, Try.ntmps25
    go_wp2
    all_goals (go_returns; refine ⟨rfl, ?_⟩)
    all_goals (repeat (first | exact Mods.refl _ _ | refine Mods.alloc ?_ _ | refine Mods.setCell ?_ (by simp) _))
end Go.Proofs.Ytjmkoelmiehdjaa.W
