/-
  Layer 28: the reference's Check, Seen and made.
-/
import Derived.Test.YtjmkoelmiehdjaaWinF
namespace Go.Proofs.Ytjmkoelmiehdjaa.W
open Go.RowKit L
set_option linter.unusedVariables false
set_option linter.unusedSimpArgs false

def madeStep (s t : Int) (acc : Nat) (n : Int) : Nat := if 0 ≤ t - n ∧ t - n < s then acc ||| 2 ^ (t - n).toNat else acc
def madeN (s t : Int) (l : List Int) : Nat := l.foldl (madeStep s t) 0

theorem madeStep_lt (s t : Int) (hs : s ≤ 64) (acc : Nat) (n : Int) (h : acc < 2 ^ 64) : madeStep s t acc n < 2 ^ 64 := by
  unfold madeStep
  split
  · exact Nat.or_lt_two_pow h (Nat.pow_lt_pow_right (by decide) (by omega))
  · exact h
theorem foldl_made_lt (s t : Int) (hs : s ≤ 64) : ∀ (l : List Int) (acc : Nat), acc < 2 ^ 64 → l.foldl (madeStep s t) acc < 2 ^ 64
  | [], _, h => h
  | n :: l, acc, h => foldl_made_lt s t hs l _ (madeStep_lt s t hs acc n h)
theorem madeN_lt (s t : Int) (hs : s ≤ 64) (l : List Int) : madeN s t l < 2 ^ 64 := foldl_made_lt s t hs l 0 (by decide)
theorem madeN_take (s t : Int) (l : List Int) (k : Nat) (hk : k < l.length) : madeN s t (l.take (k + 1)) = madeStep s t (madeN s t (l.take k)) l[k] := by
  unfold madeN
  rw [List.take_succ_eq_append_getElem hk, List.foldl_append]
  rfl

set_option maxHeartbeats 800000 in
theorem made_any (s t : Int) (v : Value) (l : List Int) (F : Nat → Prop) (w : World) (hs : 0 ≤ s ∧ s ≤ 64) (ht : -1 ≤ t ∧ t ≤ 1099511627775) (hl : ∀ n ∈ l, -1099511627776 ≤ n ∧ n ≤ 1099511627776) (hr : reads F w v l.length (l.map (.int .i64))) (hlen : l.length ≤ 4611686018427387904) :
    Calls Try.prog 29 #[.int .i64 s, .int .i64 t, v] w fun e w' => e = .returned (winV s t (madeN s t l) false) ∧ Ext w w' := by
  obtain ⟨hs1, hs2⟩ := hs
  obtain ⟨ht1, ht2⟩ := ht
  obtain ⟨a, cap, rfl, hcap1, hcap2, hcells⟩ := hr
  go_enter Try.func29, Try.ntmps29
  go_wp2
  go_loopw [15] (fun i wr => ∃ k : Nat, k ≤ l.length ∧ i = .int .i64 k ∧ wr = (w.alloc (.cells #[.int .i64 0, .int .i64 0, .int .u64 0, .bool false] 24)).alloc (.cells #[.int .i64 s, .int .i64 t, .int .u64 ((madeN s t (l.take k) : Nat) : Int), .bool false] 24)) (fun i _ => (l.length - intOf i).toNat)
  case atStart => exact ⟨0, Nat.zero_le _, rfl, rfl⟩
  case round =>
    obtain ⟨k, hk, rfl, rfl⟩ := hrel
    have hacc := madeN_lt s t hs2 (l.take k)
    by_cases hlt : k < l.length
    · have hmem := hl l[k] (List.getElem_mem hlt)
      have htk := madeN_take s t l k hlt
      rcases hcells with hnil | ⟨b, off, rfl, -, hrow⟩
      · exfalso
        have h0 : l.length = 0 := by
          have := congrArg List.length hnil
          rwa [List.length_map] at this
        omega
      · have hcell : w.cell? ⟨b, off + k, none⟩ = some (.int .i64 l[k]) := by
          rw [hrow k (by simpa using hlt)]; simp [hlt]
        have hbs : b < w.heap.size := World.block_lt_of_cell? w ⟨b, off + k, none⟩ hcell
        clear hrow hl
        generalize l[k] = n at *
        generalize madeN s t (l.take k) = acc at *
        unfold madeStep at htk
        by_cases h1 : 0 ≤ t - n ∧ t - n < s
        · rw [if_pos h1] at htk
          obtain ⟨h2, h3⟩ := h1
          have A := Lib.hid (show bits .or .u64 (acc : Int) (IntKind.u64.wrap (2 ^ (t - n).toNat)) = ((madeN s t (l.take (k + 1)) : Nat) : Int) by rw [htk]; exact accLe_cast acc _ hacc (by omega))
          clear htk
          go_wp2
          rw [A.out]
          go_roundw
          case rel => exact ⟨k + 1, by omega, by go_num, rfl⟩
          case measure => simp [intOf]; omega
        · rw [if_neg h1] at htk
          have A := Lib.hid htk.symm
          clear htk
          by_cases h2 : 0 ≤ t - n
          · have h3 : ¬ t - n < s := fun h => h1 ⟨h2, h⟩
            clear h1
            go_wp2
            go_roundw
            case rel => exact ⟨k + 1, by omega, by go_num, by rw [← A.out]⟩
            case measure => simp [intOf]; omega
          · clear h1
            go_wp2
            go_roundw
            case rel => exact ⟨k + 1, by omega, by go_num, by rw [← A.out]⟩
            case measure => simp [intOf]; omega
    · obtain rfl : k = l.length := by omega
      rw [List.take_length]
      go_wp2
      go_returns
      refine ⟨rfl, ?_⟩
      repeat (first | (with_reducible exact Mods.refl _ _) | (with_reducible refine Mods.alloc ?_ _) | (with_reducible refine Mods.drew ?_) | (with_reducible refine Mods.setCell ?_ (fun hlt => (by first | (simp at hlt; done) | (simp at hlt; omega) | (show _ ≤ _; omega) | (show _ < _; omega))) _) )
end Go.Proofs.Ytjmkoelmiehdjaa.W
