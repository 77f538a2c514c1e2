/-
  Layer 15, plainly: no two valid messages have the same encoding.
-/
import Derived.Test.YtiddmpmpjdnmeaaCoj
namespace Go.Proofs.Ytiddmpmpjdnmeaa.By
open Go.RowKit L A
set_option linter.unusedVariables false
set_option linter.unusedSimpArgs false

theorem Fits.own {m : Msg} (hm : OkM m) : ∀ k, k ≤ m.opts.length → Fits (raw m) (m.opts.take k) (lastO 0 (m.opts.take k)) (restM m k) false
  | 0, _ => by
    have h1 := hm.1
    have h2 := hm.2.1
    have e0 : ((bt (raw m) 0).toNat : Int) = 64 + 16 * m.ty + m.tok.length := (Fits.start m hm rfl).1
    have e : takeP ((raw m).drop 4) false (((bt (raw m) 0).toNat : Int) % 16) = (m.tok, restM m 0, false) := by
      rw [(Fits.start m hm rfl).2.2.2.2, takeP_app _ _ _ (by omega)]
    exact (Fits.first e).1
  | k + 1, h => by
    have ih := Fits.own hm k (by omega)
    have h5 : k < m.opts.length := by omega
    have h8 := AscO_at hm.2.2.1 h5
    have h9 := lastO_le (AscO_take hm.2.2.1 k) (by omega)
    have hr := rest_step (m := m) h5
    generalize hd : (oat m.opts k).num - lastO 0 (m.opts.take k) = d at hr
    generalize hn : ((oat m.opts k).val.length : Int) = n at hr
    have e1 := ext_le d (by omega)
    have e2 := ext_le n (by omega)
    have hb : bt (restM m k) 0 = u8 (16 * (ext d).1 + (ext n).1) := by rw [hr]; rfl
    have hu := u8_small (x := 16 * (ext d).1 + (ext n).1) (by omega)
    have s := ih.step (v1 := d) (r1 := (ext n).2 ++ ((oat m.opts k).val ++ restM m (k + 1))) (b1 := false) (v2 := n) (r2 := (oat m.opts k).val ++ restM m (k + 1)) (b2 := false) (x := (oat m.opts k).val) (r3 := restM m (k + 1)) (b3 := false)
      (by rw [hr]; simp) (fun e => by
        rw [hb] at e
        rw [e] at hu
        have : ((255 : UInt8).toNat : Int) = 255 := rfl
        omega)
      (by rw [hb, hu, show (16 * (ext d).1 + (ext n).1) / 16 = (ext d).1 by omega, hr]; exact numP_ext (by omega) _ _)
      (by rw [hb, hu, show (16 * (ext d).1 + (ext n).1) % 16 = (ext n).1 by omega]; exact numP_ext (by omega) _ _)
      (takeP_app _ _ _ hn.symm)
    rw [show lastO 0 (m.opts.take k) + d = (oat m.opts k).num by omega] at s
    rw [take_snoc Opt.none h5, lastO_snoc]
    exact s
theorem raw_inj {m m0 : Msg} (hm : OkM m) (hm0 : OkM m0) (h : raw m0 = raw m) : m0 = m := by
  have hf := Fits.own hm m.opts.length (Nat.le_refl _)
  rw [List.take_length, rest_end (Nat.le_refl _)] at hf
  have e : takeP ((raw m).drop 4) false (((bt (raw m) 0).toNat : Int) % 16) = (m.tok, restM m 0, false) := by
    have h1 := hm.1
    have h2 := hm.2.1
    have e0 : ((bt (raw m) 0).toNat : Int) = 64 + 16 * m.ty + m.tok.length := (Fits.start m hm rfl).1
    rw [(Fits.start m hm rfl).2.2.2.2, takeP_app _ _ _ (by omega)]
  have hend : false = true ∨ tailM m = [] ∨ bt (tailM m) 0 = 255 := by
    unfold tailM
    split
    · exact .inr (.inl rfl)
    · exact .inr (.inr rfl)
  have hall := hf.all (Fits.first e).2 hend rfl rfl rfl rfl
  exact (hall m0 hm0 h).2.trans (hall m hm rfl).2.symm
theorem decS_raw {m : Msg} (hv : ValM m) : decS (raw m) = (m, 0) := by
  have h2 : 4 ≤ (raw m).length := by simp [raw, headM]
  exact decS_yes (by have := hv.2; omega) h2 hv.1 rfl fun m0 h0 hr => raw_inj hv.1 h0 hr
theorem decS_ok {b : List UInt8} (h : (decS b).2 = 0) : ValM (decS b).1 ∧ raw (decS b).1 = b := by
  unfold decS at h ⊢
  split at h
  · cases h
  · split at h
    · cases h
    · split at h
      · rename_i h1 h2 h3
        rw [if_neg h1, if_neg h2, dif_pos h3]
        have := Classical.choose_spec h3
        exact ⟨⟨this.1, by rw [this.2]; omega⟩, this.2⟩
      · cases h
end Go.Proofs.Ytiddmpmpjdnmeaa.By
