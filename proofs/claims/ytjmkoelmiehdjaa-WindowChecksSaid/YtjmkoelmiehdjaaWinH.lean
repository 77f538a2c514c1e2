/-
  Layer 28: the numbers of a window.
-/
import Derived.Test.YtjmkoelmiehdjaaWinG
import Derived.Maps.AppendAt
namespace Go.Proofs.Ytjmkoelmiehdjaa.W
open Go.RowKit L
set_option linter.unusedVariables false
set_option linter.unusedSimpArgs false

def seenTo (t : Int) (b m : Nat) : List Int := ((List.range m).filter fun q => b.testBit (63 - q)).map fun q => t - ((63 - q : Nat) : Int)
def seenL (s t : Int) (b : Nat) (l : Bool) : List Int := if validB s t b l then seenTo t b 64 else []

theorem seenTo_succ (t : Int) (b m : Nat) : seenTo t b (m + 1) = seenTo t b m ++ if b.testBit (63 - m) then [t - ((63 - m : Nat) : Int)] else [] := by
  unfold seenTo
  rw [List.range_succ, List.filter_append, List.map_append]
  congr 1
  by_cases h : b.testBit (63 - m) = true <;> simp [List.filter_cons, h]
theorem seenTo_len (t : Int) (b m : Nat) : (seenTo t b m).length ≤ m := by
  unfold seenTo
  rw [List.length_map]
  exact Nat.le_trans (List.length_filter_le _ _) (by simp)

theorem info3 : (Try.prog.info? 3).map (fun i => (i.zero, i.size, i.bytes)) = some (some (.int .i64 0), 1, 8) := by kernel_rfl

/-- What a function that makes a list of numbers gives. -/
def GivesInts (w : World) (xs : List Int) (e : Ending) (w' : World) : Prop := ∃ v, e = .returned v ∧ w'.ownsRow w.heap.size 3 1 v xs.length (xs.map (.int .i64)) ∧ Ext w w'

def WRel (w : World) (k m : Nat) (out i : Value) (s t : Int) (b : Nat) (l : Bool) (wr : World) : Prop :=
  i = .int .i64 (63 - (m : Int)) ∧ wr.ownsRow (w.heap.size + 1) 3 1 out (seenTo t b m).length ((seenTo t b m).map (.int .i64)) ∧ Ext (w.alloc (.cells #[.int .i64 s, .int .i64 t, .int .u64 (b : Int), .bool l] 24)) wr

theorem ownsRow_mono {w : World} {base base' e size n : Nat} {v : Value} {xs : List Value} (h : w.ownsRow base e size v n xs) (hb : base' ≤ base) : w.ownsRow base' e size v n xs := by
  obtain ⟨h1, h2⟩ := h
  refine ⟨h1, h2.imp id ?_⟩
  rintro ⟨g, cap, cur, hv, hg, r⟩
  exact ⟨g, cap, cur, hv, Nat.le_trans hb hg, r⟩

theorem owns_ext {w w' : World} {base e size n : Nat} {v : Value} {xs : List Value} (h : w.ownsRow base e size v n xs) (hE : Ext w w') : w'.ownsRow base e size v n xs := by
  obtain ⟨h1, h2⟩ := h
  refine ⟨h1, ?_⟩
  rcases h2 with h2 | ⟨g, cap, cur, hv, hg, hh, r⟩
  · exact .inl h2
  · have hlt : g < w.heap.size := by
      rcases Nat.lt_or_ge g w.heap.size with h | h
      · exact h
      · rw [Array.getElem?_eq_none h] at hh; cases hh
    exact .inr ⟨g, cap, cur, hv, hg, by rw [hE.block g hlt (fun h => h)]; exact hh, r⟩

set_option maxHeartbeats 1000000 in
theorem rseen_any (s t : Int) (b : Nat) (l : Bool) (w : World) (hs : i64In s) (ht : i64In t) (hb : b < 2 ^ 64) :
    Calls Try.prog 24 #[winV s t b l] w (GivesInts w (seenL s t b l)) := by
  have hv := fun w => rvalid_any s t b l w hs ht hb
  by_cases hval : validB s t b l = true
  · obtain ⟨g1, g2, g3, g4⟩ := validB_bd hval
    have hbit := fun i w => rbit_any s t b l i w hb
    have HB := Lib.hid hbit
    have HS := Lib.hid (show seenL s t b l = seenTo t b 64 by simp [seenL, hval])
    rw [hval] at hv
    have H := Lib.hid hv
    clear hbit hv hval
    rw [HS.out]
    obtain ⟨i0, hi, hz0, hz1, hz2⟩ := info_parts info3
    go_enter Try.func24, Try.ntmps24
    go_wp2_with fail
    refine (H.out _).mono ?_
    rintro e w' ⟨rfl, hE⟩
    obtain ⟨hc1, hc2, hc3⟩ := hE.cells
    go_wp2
    go_loopw [3, 4] (fun out i wr => ∃ m : Nat, m ≤ 64 ∧ WRel w 0 m out i s t b l wr) (fun _ i _ => (1 + intOf i).toNat)
    case atStart => exact ⟨0, by omega, rfl, World.ownsRow_nil .., hE⟩
    case round =>
      obtain ⟨m, hm, rfl, hown, hE2⟩ := hrel
      clear hc1 hc2 hc3
      obtain ⟨hc1, hc2, hc3⟩ := hE2.cells
      have hz : w.heap.size < wr.heap.size := by simp at hc3; omega
      have c0 : World.cell? wr ⟨w.heap.size, 0, none⟩ = some (.int .i64 s) := by simp [go_sem, hc1, hc2]
      have c1 : World.cell? wr ⟨w.heap.size, 1, none⟩ = some (.int .i64 t) := by simp [go_sem, hc1, hc2]
      have c2 : World.cell? wr ⟨w.heap.size, 2, none⟩ = some (.int .u64 (b : Int)) := by simp [go_sem, hc1, hc2]
      have c3 : World.cell? wr ⟨w.heap.size, 3, none⟩ = some (.bool l) := by simp [go_sem, hc1, hc2]
      have cf : ∀ o, World.frozen? wr ⟨w.heap.size, o, none⟩ = false := fun o => by simp [go_sem, hc1, hc2]
      clear hc1 hc2 hc3
      have hll := seenTo_len t b m
      by_cases hlt : m < 64
      · have hq : bitB b (63 - (m : Int)) = b.testBit (63 - m) := by
          rw [show (63 - (m : Int)) = ((63 - m : Nat) : Int) by omega]
          exact bitB_nat b _ (by omega)
        have hsucc := seenTo_succ t b m
        generalize hx : b.testBit (63 - m) = x at *
        have HX := Lib.hid hx
        have HQ := Lib.hid hq
        clear hx hq
        cases x
        · have HSU := Lib.hid (show seenTo t b (m + 1) = seenTo t b m by rw [hsucc]; simp)
          clear hsucc
          go_wp2_with fail
          refine (HB.out _ _).mono ?_
          rintro e w2 ⟨rfl, hE3⟩
          rw [HQ.out]
          go_wp2
          go_roundw
          case rel => exact ⟨m + 1, by omega, by go_num, by rw [HSU.out]; exact owns_ext hown hE3, hE2.trans hE3⟩
          case measure => simp [intOf]; omega
        · have HSU := Lib.hid (show seenTo t b (m + 1) = seenTo t b m ++ [t - ((63 - m : Nat) : Int)] by rw [hsucc]; simp)
          clear hsucc
          go_wp2_with fail
          refine (HB.out _ _).mono ?_
          rintro e w2 ⟨rfl, hE3⟩
          rw [HQ.out]
          obtain ⟨hd1, hd2, hd3⟩ := hE3.cells
          have hz2' : w.heap.size < w2.heap.size := by omega
          have c'0 : World.cell? w2 ⟨w.heap.size, 0, none⟩ = some (.int .i64 s) := by simp [go_sem, hd1, hd2, c0, c1, c2, c3, cf, hz]
          have c'1 : World.cell? w2 ⟨w.heap.size, 1, none⟩ = some (.int .i64 t) := by simp [go_sem, hd1, hd2, c0, c1, c2, c3, cf, hz]
          have c'2 : World.cell? w2 ⟨w.heap.size, 2, none⟩ = some (.int .u64 (b : Int)) := by simp [go_sem, hd1, hd2, c0, c1, c2, c3, cf, hz]
          have c'3 : World.cell? w2 ⟨w.heap.size, 3, none⟩ = some (.bool l) := by simp [go_sem, hd1, hd2, c0, c1, c2, c3, cf, hz]
          have c'f : ∀ o, World.frozen? w2 ⟨w.heap.size, o, none⟩ = false := fun o => by simp [go_sem, hd1, hd2, c0, c1, c2, c3, cf, hz]
          clear hd1 hd2 hd3
          have hown2 := owns_ext hown hE3
          go_wp2_with (at_builtin; refine wpList_append_own _ rfl (.tmp 15) (.tmp 20) 25 rfl (w.heap.size + 1) 3 i0 (.int .i64 0) 1 8 Try.underlying25 hi hz0 hz1 hz2 rfl (by decide) _ _ _ rfl (hown2.alloc _) ⟨w2.heap.size, 0, none⟩ 1 1 [.int .i64 (t - (63 - (m : Int)))] rfl rfl ?c1 ?c2 ?c3 ?c4 ?c5 ?_)
          case c1 => exact cell_one_new _ _ _
          case c2 => simp [Value.oneCell']
          case c3 => unfold maxLen; omega
          case c4 => omega
          case c5 => simp; omega
          intro v' w3 hown3 hgrow hnn
          clear hnn
          have hlt3 := hown2.lt
          have HLT := Lib.hid hlt3
          have HG := Lib.hid hgrow
          have HO := Lib.hid hown3
          clear hlt3 hgrow hown3
          go_wp2
          go_roundw
          case rel =>
            refine ⟨m + 1, by omega, by go_num, ?_, ?_⟩
            · rw [HSU.out]
              have := HO.out
              rw [show (63 - (m : Int)) = ((63 - m : Nat) : Int) by omega] at this
              simpa using this
            · refine Mods.grown ?_ HG.out (fun k hk hlt => ?_)
              · repeat (first | (with_reducible exact Mods.refl _ _) | (with_reducible refine Mods.alloc ?_ _) | (with_reducible refine Mods.drew ?_) | (with_reducible refine Mods.setCell ?_ (fun hlt => (by first | (simp at hlt; done) | (simp at hlt; omega) | (show _ ≤ _; omega) | (show _ < _; omega))) _) | (with_reducible refine Mods.trans ?_ hE3) | (with_reducible refine Mods.trans ?_ hE2))
              · have := HLT.out k hk
                simp at hlt
                omega
          case measure => simp [intOf]; omega
      · obtain rfl : m = 64 := by omega
        go_wp2
        go_ret
        refine ⟨_, rfl, ownsRow_mono hown (by omega), ?_⟩
        repeat (first | (with_reducible exact Mods.refl _ _) | (with_reducible refine Mods.alloc ?_ _) | (with_reducible refine Mods.drew ?_) | (with_reducible refine Mods.setCell ?_ (fun hlt => (by first | (simp at hlt; done) | (simp at hlt; omega) | (show _ ≤ _; omega) | (show _ < _; omega))) _) | (with_reducible refine Mods.trans ?_ hE2))
  · have HS := Lib.hid (show seenL s t b l = [] by simp [seenL, hval])
    have hval' : validB s t b l = false := by simpa using hval
    rw [hval'] at hv
    have H := Lib.hid hv
    clear hv hval hval'
    rw [HS.out]
    go_enter Try.func24, Try.ntmps24
    go_wp2_with fail
    refine (H.out _).mono ?_
    rintro e w' ⟨rfl, hE⟩
    go_wp2
    go_ret
    refine ⟨_, rfl, World.ownsRow_nil .., ?_⟩
    repeat (first | (with_reducible exact Mods.refl _ _) | (with_reducible refine Mods.alloc ?_ _) | (with_reducible refine Mods.drew ?_) | (with_reducible refine Mods.setCell ?_ (fun hlt => (by first | (simp at hlt; done) | (simp at hlt; omega) | (show _ ≤ _; omega) | (show _ < _; omega))) _) | (with_reducible refine Mods.trans ?_ hE))
end Go.Proofs.Ytjmkoelmiehdjaa.W
