/-
  Layer 28: window.Seen.
-/
import Derived.Test.YtjmkoelmiehdjaaWinH
namespace Go.Proofs.Ytjmkoelmiehdjaa.W
open Go.RowKit L
set_option linter.unusedVariables false
set_option linter.unusedSimpArgs false

theorem validB_ok {s t : Int} {b : Nat} {l : Bool} (h : validB s t b l = true) : ∀ i, i < 64 → b.testBit i = true → (i : Int) < s := by
  intro i hi hb
  simp only [validB, Bool.and_eq_true] at h
  obtain ⟨-, h⟩ := h
  cases l
  · simp only [Bool.false_eq_true, if_false, Bool.and_eq_true] at h
    exact ((okBits_iff s t b).1 h.1 i hi hb).1
  · simp only [if_true, Bool.and_eq_true, decide_eq_true_eq] at h
    rw [h.1] at hb
    simp at hb

/-- Above the size no bit is set. -/
theorem seenTo_start {s t : Int} {b : Nat} (hok : ∀ i, i < 64 → b.testBit i = true → (i : Int) < s) : ∀ m : Nat, (m : Int) ≤ 64 - s → 0 < s → seenTo t b m = []
  | 0, _, _ => rfl
  | m + 1, h, h0 => by
    rw [seenTo_succ, seenTo_start hok m (by omega) h0]
    have : b.testBit (63 - m) = false := by
      rcases Bool.eq_false_or_eq_true (b.testBit (63 - m)) with h1 | h1
      · have := hok _ (by omega) h1; omega
      · exact h1
    simp [this]

def SRel (w : World) (m : Nat) (out k : Value) (s t : Int) (b : Nat) (l : Bool) (wr : World) : Prop :=
  k = .int .i64 ((m : Int) - 64 + s) ∧ wr.ownsRow (w.heap.size + 1) 3 1 out (seenTo t b m).length ((seenTo t b m).map (.int .i64)) ∧ Ext (w.alloc (.cells #[.int .i64 s, .int .i64 t, .int .u64 (b : Int), .bool l] 24)) wr

set_option maxHeartbeats 1000000 in
theorem seen_any (s t : Int) (b : Nat) (l : Bool) (w : World) (hs : i64In s) (ht : i64In t) (hb : b < 2 ^ 64) :
    Calls Try.prog 23 #[winV s t b l] w (GivesInts w (seenL s t b l)) := by
  have hv := fun w => valid_any s t b l w hs ht hb
  by_cases hval : validB s t b l = true
  · obtain ⟨g1, g2, g3, g4⟩ := validB_bd hval
    have hst := seenTo_start (t := t) (validB_ok hval) (64 - s).toNat (by omega) (by omega)
    have hsh := fun k => shr_bit b k hb
    have HS := Lib.hid (show seenL s t b l = seenTo t b 64 by simp [seenL, hval])
    rw [hval] at hv
    have H := Lib.hid hv
    have HB := Lib.hid hsh
    clear hv hval hsh
    rw [HS.out]
    obtain ⟨i0, hi, hz0, hz1, hz2⟩ := info_parts info3
    go_enter Try.func23, Try.ntmps23
    go_wp2_with fail
    refine (H.out _).mono ?_
    rintro e w' ⟨rfl, hE⟩
    obtain ⟨hc1, hc2, hc3⟩ := hE.cells
    go_wp2
    go_loopw [3, 11] (fun out k wr => ∃ m : Nat, 64 - s ≤ m ∧ m ≤ 64 ∧ SRel w m out k s t b l wr) (fun _ k _ => (s - intOf k).toNat)
    case atStart => exact ⟨(64 - s).toNat, by omega, by omega, by go_num, by rw [hst]; exact World.ownsRow_nil .., hE⟩
    case round =>
      obtain ⟨m, hm1, hm, rfl, hown, hE2⟩ := hrel
      clear hc1 hc2 hc3
      obtain ⟨hc1, hc2, hc3⟩ := hE2.cells
      have hz : w.heap.size < wr.heap.size := by simp at hc3; omega
      have c0 : World.cell? wr ⟨w.heap.size, 0, none⟩ = some (.int .i64 s) := by simp [go_sem, hc1, hc2]
      have c1 : World.cell? wr ⟨w.heap.size, 1, none⟩ = some (.int .i64 t) := by simp [go_sem, hc1, hc2]
      have c2 : World.cell? wr ⟨w.heap.size, 2, none⟩ = some (.int .u64 (b : Int)) := by simp [go_sem, hc1, hc2]
      have c3 : World.cell? wr ⟨w.heap.size, 3, none⟩ = some (.bool l) := by simp [go_sem, hc1, hc2]
      have cf : ∀ o, World.frozen? wr ⟨w.heap.size, o, none⟩ = false := fun o => by simp [go_sem, hc1, hc2]
      clear hc1 hc2 hc3
      have hll := seenTo_len t b m
      by_cases hlt : m < 64
      · have hq := HB.out (63 - m)
        have hnn1 : s - 1 - ((m : Int) - 64 + s) = ((63 - m : Nat) : Int) := by omega
        have hsucc := seenTo_succ t b m
        generalize hx : b.testBit (63 - m) = x at *
        have HX := Lib.hid hx
        clear hx
        cases x
        · have HSU := Lib.hid (show seenTo t b (m + 1) = seenTo t b m by rw [hsucc]; simp)
          clear hsucc
          go_wp2
          go_roundw
          case rel => exact ⟨m + 1, by omega, by omega, by go_num, by rw [HSU.out]; exact hown, hE2⟩
          case measure => simp [intOf]; omega
        · have HSU := Lib.hid (show seenTo t b (m + 1) = seenTo t b m ++ [t - ((63 - m : Nat) : Int)] by rw [hsucc]; simp)
          clear hsucc
          go_wp2_with (at_builtin; refine wpList_append_own _ rfl (.tmp 26) (.tmp 31) 25 rfl (w.heap.size + 1) 3 i0 (.int .i64 0) 1 8 Try.underlying25 hi hz0 hz1 hz2 rfl (by decide) _ _ _ rfl (hown.alloc _) ⟨wr.heap.size, 0, none⟩ 1 1 [.int .i64 (t - ((63 - m : Nat) : Int))] rfl rfl ?c1 ?c2 ?c3 ?c4 ?c5 ?_)
          case c1 => exact cell_one_new _ _ _
          case c2 => simp [Value.oneCell']
          case c3 => unfold maxLen; omega
          case c4 => omega
          case c5 => simp; omega
          intro v' w3 hown3 hgrow hnn
          clear hnn
          have hlt3 := hown.lt
          have HLT := Lib.hid hlt3
          have HG := Lib.hid hgrow
          have HO := Lib.hid hown3
          clear hlt3 hgrow hown3
          go_wp2
          go_roundw
          case rel =>
            refine ⟨m + 1, by omega, by omega, by go_num, ?_, ?_⟩
            · rw [HSU.out]
              have := HO.out
              simpa using this
            · refine Mods.grown ?_ HG.out (fun k hk hlt => ?_)
              · repeat (first | (with_reducible exact Mods.refl _ _) | (with_reducible refine Mods.alloc ?_ _) | (with_reducible refine Mods.drew ?_) | (with_reducible refine Mods.setCell ?_ (fun hlt => (by first | (simp at hlt; done) | (simp at hlt; omega) | (show _ ≤ _; omega) | (show _ < _; omega))) _) | (with_reducible refine Mods.trans ?_ hE2) | (with_reducible refine Mods.undrew ?_))
              · have := HLT.out k hk
                simp at hlt
                omega
          case measure => simp [intOf]; omega
      · obtain rfl : m = 64 := by omega
        go_wp2
        go_ret
        refine ⟨_, rfl, ownsRow_mono hown (by omega), ?_⟩
        repeat (first | (with_reducible exact Mods.refl _ _) | (with_reducible refine Mods.alloc ?_ _) | (with_reducible refine Mods.drew ?_) | (with_reducible refine Mods.setCell ?_ (fun hlt => (by first | (simp at hlt; done) | (simp at hlt; omega) | (show _ ≤ _; omega) | (show _ < _; omega))) _) | (with_reducible refine Mods.trans ?_ hE2) | (with_reducible refine Mods.undrew ?_))
  · have HS := Lib.hid (show seenL s t b l = [] by simp [seenL, hval])
    have hval' : validB s t b l = false := by simpa using hval
    rw [hval'] at hv
    have H := Lib.hid hv
    clear hv hval hval'
    rw [HS.out]
    go_enter Try.func23, Try.ntmps23
    go_wp2_with fail
    refine (H.out _).mono ?_
    rintro e w' ⟨rfl, hE⟩
    go_wp2
    go_ret
    refine ⟨_, rfl, World.ownsRow_nil .., ?_⟩
    repeat (first | (with_reducible exact Mods.refl _ _) | (with_reducible refine Mods.alloc ?_ _) | (with_reducible refine Mods.drew ?_) | (with_reducible refine Mods.setCell ?_ (fun hlt => (by first | (simp at hlt; done) | (simp at hlt; omega) | (show _ ≤ _; omega) | (show _ < _; omega))) _) | (with_reducible refine Mods.trans ?_ hE) | (with_reducible refine Mods.undrew ?_))
end Go.Proofs.Ytjmkoelmiehdjaa.W
