/-
  Layer 15: what the reference reads.
-/
import Derived.Test.YtiddmpmpjdnmeaaCol
namespace Go.Proofs.Ytiddmpmpjdnmeaa.By
open Go.RowKit L A Dk
set_option linter.unusedVariables false
set_option linter.unusedSimpArgs false
attribute [local irreducible] AW AQ AO

def numR (b : List UInt8) (n : Int) (i : Nat) : Int × Nat :=
  if n < 13 then (n, i) else if n = 13 ∧ i < b.length then (13 + ((bt b i).toNat : Int), i + 1)
  else if n = 14 ∧ i + 1 < b.length then (269 + ((bt b i).toNat : Int) * 256 + ((bt b (i + 1)).toNat : Int), i + 2) else (-1, i)
theorem bt_drop (b : List UInt8) (i j : Nat) : bt (b.drop i) j = bt b (i + j) := by
  simp [bt, List.getD]
theorem numR_ext {b t : List UInt8} {x : Int} {i : Nat} (h : 0 ≤ x ∧ x ≤ 65804) (hb : b.drop i = (ext x).2 ++ t) : numR b (ext x).1 i = (x, i + (ext x).2.length) ∧ b.drop (i + (ext x).2.length) = t := by
  refine ⟨?_, by rw [← List.drop_drop, hb]; simp⟩
  have hl := congrArg List.length hb
  have h0 := congrArg (fun l => bt l 0) hb
  have h1 := congrArg (fun l => bt l 1) hb
  simp only [bt_drop, List.length_drop, List.length_append] at hl h0 h1
  unfold ext at hl h0 h1 ⊢
  split at hl <;> rename_i g1
  · unfold numR; rw [if_pos g1, if_pos (by simp only; omega)]; rfl
  · rw [if_neg g1] at h0 h1 ⊢
    split at hl <;> rename_i g2
    · rw [if_pos g2] at h0 h1 ⊢
      have := u8_small (x := x - 13) (by omega)
      simp only [List.length_cons, List.length_nil] at hl ⊢
      unfold numR
      rw [if_neg (by omega), if_pos ⟨rfl, by omega⟩]
      simp only [Nat.add_zero] at h0
      rw [h0]
      refine Prod.ext ?_ rfl
      show 13 + ((u8 (x - 13)).toNat : Int) = x
      omega
    · rw [if_neg g2] at h0 h1 ⊢
      have q1 := u8_small (x := (x - 269) / 256) (by omega)
      have q2 := u8_toNat (x - 269)
      simp only [List.length_cons, List.length_nil] at hl ⊢
      unfold numR
      rw [if_neg (by omega), if_neg (by omega), if_pos ⟨rfl, by omega⟩]
      simp only [Nat.add_zero] at h0
      rw [h0, h1]
      refine Prod.ext ?_ rfl
      show 269 + ((u8 ((x - 269) / 256)).toNat : Int) * 256 + ((u8 (x - 269)).toNat : Int) = x
      omega
theorem numR_le (b : List UInt8) {n : Int} (h : 0 ≤ n ∧ n ≤ 15) {i : Nat} (hi : i ≤ b.length) : -1 ≤ (numR b n i).1 ∧ (numR b n i).1 ≤ 65804 ∧ i ≤ (numR b n i).2 ∧ (numR b n i).2 ≤ b.length := by
  have := u8_lt (bt b i)
  have := u8_lt (bt b (i + 1))
  unfold numR
  (repeat' split) <;> simp only <;> omega
theorem Fits.refstep {b : List UInt8} {opts : List Opt} {last : Int} {i : Nat} (h : Fits b opts last (b.drop i) false) (hat : i < b.length) (h2 : ((bt b i).toNat : Int) ≠ 255) {v1 v2 : Int} {j k : Nat}
    (e1 : numR b (((bt b i).toNat : Int) / 16) (i + 1) = (v1, j)) (e2 : numR b (((bt b i).toNat : Int) % 16) j = (v2, k)) : ∀ m, OkM m → raw m = b →
    0 ≤ v1 ∧ 0 ≤ v2 ∧ k + v2 ≤ b.length ∧ opts.length + 1 ≤ m.opts.length ∧ b.drop (k + v2.toNat) = restM m (opts.length + 1) ∧ opts ++ [⟨last + v1, (b.drop k).take v2.toNat⟩] = m.opts.take (opts.length + 1) := fun m hm hr => by
  have hd := drop_bt hat
  have hr0 : bt (b.drop i) 0 = bt b i := bt_drop b i 0
  obtain ⟨o, d, n, h5, h6, h7, h8, h9, h10, h11, h12, h13⟩ := h.parts hm hr (by rw [hd]; simp) (fun e => h2 (by rw [← hr0, e]; rfl))
  obtain ⟨-, -, -, h16, h17⟩ := h m hm hr
  have q1 := ext_le d h9
  have q2 := ext_le n (by omega)
  rw [hr0] at h12
  rw [List.drop_drop] at h13
  obtain ⟨g1, g2⟩ := numR_ext (by omega) h13
  rw [h12, show (16 * (ext d).1 + (ext n).1) / 16 = (ext d).1 by omega, g1] at e1
  simp only [Prod.mk.injEq] at e1
  obtain ⟨e11, e12⟩ := e1
  rw [e12] at g2
  obtain ⟨g3, g4⟩ := numR_ext (by omega) g2
  rw [h12, show (16 * (ext d).1 + (ext n).1) % 16 = (ext n).1 by omega, g3] at e2
  simp only [Prod.mk.injEq] at e2
  obtain ⟨e21, e22⟩ := e2
  rw [e22] at g4
  have hl := congrArg List.length g4
  simp only [List.length_drop, List.length_append] at hl
  have hv : v2.toNat = o.val.length := by omega
  have hol : last + v1 = o.num := by omega
  have hk : (k : Int) + v2 ≤ b.length := by
    rcases Nat.lt_or_ge b.length k with h | h
    · exfalso
      have := numR_le b (n := ((bt b i).toNat : Int) % 16) (by omega) (i := j) (by have := numR_le b (n := ((bt b i).toNat : Int) / 16) (by have := u8_lt (bt b i); omega) (i := i + 1) (by omega); rw [h12, show (16 * (ext d).1 + (ext n).1) / 16 = (ext d).1 by omega, g1] at this; simp only at this; omega)
      rw [h12, show (16 * (ext d).1 + (ext n).1) % 16 = (ext n).1 by omega, g3] at this
      simp only at this
      omega
    · omega
  refine ⟨by omega, by omega, hk, h5, ?_, ?_⟩
  · rw [← List.drop_drop, g4, hv]; simp
  · rw [take_snoc Opt.none h5, ← h17, g4, hv, hol, List.take_left' rfl, h6]
end Go.Proofs.Ytiddmpmpjdnmeaa.By
