/-
  Layer 15, plainly: what is read from bytes.
-/
import Derived.Test.YtiddmpmpjdnmeaaCoh
namespace Go.Proofs.Ytiddmpmpjdnmeaa.By
open Go.RowKit L A
set_option linter.unusedVariables false
set_option linter.unusedSimpArgs false

open Classical in
/-- What is read: a message whose encoding the bytes are. -/
noncomputable def decS (b : List UInt8) : Msg × Int :=
  if 4096 < b.length then (Msg.none, 8) else if b.length < 4 then (Msg.none, 2) else if h : ∃ m, OkM m ∧ raw m = b then (Classical.choose h, 0) else (Msg.none, 4)
theorem decS_no {b : List UInt8} (h1 : b.length ≤ 4096) (h2 : 4 ≤ b.length) (h : ∀ m, OkM m → raw m ≠ b) : decS b = (Msg.none, 4) := by
  unfold decS
  rw [if_neg (by omega), if_neg (by omega), dif_neg fun ⟨m, h3, h4⟩ => h m h3 h4]
theorem decS_yes {b : List UInt8} {m : Msg} (h1 : b.length ≤ 4096) (h2 : 4 ≤ b.length) (hm : OkM m) (hr : raw m = b) (h : ∀ m0, OkM m0 → raw m0 = b → m0 = m) : decS b = (m, 0) := by
  unfold decS
  have hx : ∃ m, OkM m ∧ raw m = b := ⟨m, hm, hr⟩
  rw [if_neg (by omega), if_neg (by omega), dif_pos hx, h _ (Classical.choose_spec hx).1 (Classical.choose_spec hx).2]

/-! ### The parser -/
def takeP (r : List UInt8) (bad : Bool) (n : Int) : List UInt8 × List UInt8 × Bool := if (r.length : Int) < n then (List.replicate (min n 4).toNat 0, r, true) else (r.take n.toNat, r.drop n.toNat, bad)
def numP (r : List UInt8) (bad : Bool) (n : Int) : Int × List UInt8 × Bool :=
  if n = 13 then (((bt (takeP r bad 1).1 0).toNat : Int) + 13, (takeP r bad 1).2)
  else if n = 14 then (((bt (takeP r bad 2).1 0).toNat : Int) * 256 + ((bt (takeP r bad 2).1 1).toNat : Int) + 269, (takeP r bad 2).2)
  else (n, r, if n = 15 then true else bad)
theorem takeP_app (v t : List UInt8) (bad : Bool) {n : Int} (h : n = v.length) : takeP (v ++ t) bad n = (v, t, bad) := by
  subst h
  unfold takeP
  rw [if_neg (by simp; omega)]
  simp
theorem takeP_len (r : List UInt8) (bad : Bool) (n : Int) (h : 0 ≤ n) : (takeP r bad n).2.1.length ≤ r.length ∧ ((takeP r bad n).1.length : Int) ≤ n ∧ (n ≤ 4 → ((takeP r bad n).1.length : Int) = n) := by
  unfold takeP
  split <;> simp <;> omega
theorem numP_ext {x : Int} (h : 0 ≤ x ∧ x ≤ 65804) (t : List UInt8) (bad : Bool) : numP ((ext x).2 ++ t) bad (ext x).1 = (x, t, bad) := by
  unfold ext
  split
  · unfold numP; rw [if_neg (by simp; omega), if_neg (by simp; omega), if_neg (by simp; omega)]; rfl
  · split
    · unfold numP
      rw [if_pos rfl, takeP_app [u8 (x - 13)] t bad (n := 1) rfl]
      have := u8_small (x := x - 13) (by omega)
      simp [bt] at this ⊢
      omega
    · unfold numP
      rw [if_neg (by simp), if_pos rfl, takeP_app [u8 ((x - 269) / 256), u8 (x - 269)] t bad (n := 2) rfl]
      have h1 := u8_small (x := (x - 269) / 256) (by omega)
      have h2 := u8_toNat (x - 269)
      simp [bt] at h1 h2 ⊢
      omega
theorem numP_le (r : List UInt8) (bad : Bool) {n : Int} (h : 0 ≤ n ∧ n ≤ 15) : 0 ≤ (numP r bad n).1 ∧ (numP r bad n).1 ≤ 65804 ∧ (numP r bad n).2.1.length ≤ r.length := by
  have h1 := takeP_len r bad 1 (by omega)
  have h2 := takeP_len r bad 2 (by omega)
  unfold numP
  split
  · have := u8_lt (bt (takeP r bad 1).1 0)
    refine ⟨?_, ?_, h1.1⟩ <;> simp only <;> omega
  · split
    · have := u8_lt (bt (takeP r bad 2).1 0)
      have := u8_lt (bt (takeP r bad 2).1 1)
      refine ⟨?_, ?_, h2.1⟩ <;> simp only <;> omega
    · refine ⟨?_, ?_, Nat.le_refl _⟩ <;> simp only <;> omega

/-! ### The rest of an encoding -/
def tailM (m : Msg) : List UInt8 := if m.pay = [] then [] else 255 :: m.pay
def restM (m : Msg) (k : Nat) : List UInt8 := rawO (lastO 0 (m.opts.take k)) (m.opts.drop k) ++ tailM m
theorem rest_zero (m : Msg) : raw m = headM m ++ (m.tok ++ restM m 0) := by simp [raw, restM, tailM, lastO]
theorem rest_end {m : Msg} {k : Nat} (h : m.opts.length ≤ k) : restM m k = tailM m := by simp [restM, List.drop_eq_nil_of_le h, rawO]
theorem rest_step {m : Msg} {k : Nat} (h : k < m.opts.length) : restM m k = u8 (16 * (ext ((oat m.opts k).num - lastO 0 (m.opts.take k))).1 + (ext ((oat m.opts k).val.length : Int)).1) :: ((ext ((oat m.opts k).num - lastO 0 (m.opts.take k))).2 ++ ((ext ((oat m.opts k).val.length : Int)).2 ++ ((oat m.opts k).val ++ restM m (k + 1)))) := by
  rw [restM, drop_cons Opt.none h, rawO, hdr, restM, take_snoc Opt.none h, lastO_snoc]
  simp

/-- How far bytes are read, whatever valid message they encode. -/
def Fits (b : List UInt8) (opts : List Opt) (last : Int) (r : List UInt8) (bad : Bool) : Prop :=
  ∀ m, OkM m → raw m = b → bad = false ∧ opts.length ≤ m.opts.length ∧ r = restM m opts.length ∧ last = lastO 0 opts ∧ opts = m.opts.take opts.length
theorem Fits.more {b : List UInt8} {opts : List Opt} {last : Int} {r : List UInt8} {bad : Bool} (h : Fits b opts last r bad) {m : Msg} (hm : OkM m) (hr : raw m = b) (h1 : r ≠ []) (h2 : bt r 0 ≠ 255) : opts.length < m.opts.length := by
  obtain ⟨-, h3, h4, -, -⟩ := h m hm hr
  rcases Nat.lt_or_ge opts.length m.opts.length with h5 | h5
  · exact h5
  · rw [rest_end h5, tailM] at h4
    split at h4
    · exact absurd h4 h1
    · subst h4; exact absurd rfl h2
theorem Fits.ends {b : List UInt8} {opts : List Opt} {last : Int} {r : List UInt8} {bad : Bool} (h : Fits b opts last r bad) {m : Msg} (hm : OkM m) (hr : raw m = b) (h1 : bad = true ∨ r = [] ∨ bt r 0 = 255) : bad = false ∧ opts = m.opts ∧ r = tailM m := by
  obtain ⟨h0, h3, h4, h6, h7⟩ := h m hm hr
  rcases Nat.lt_or_ge opts.length m.opts.length with h5 | h5
  · rw [rest_step h5] at h4
    have h8 := AscO_at hm.2.2.1 h5
    have h9 := lastO_le (AscO_take hm.2.2.1 opts.length) (by omega)
    have e1 := ext_le ((oat m.opts opts.length).num - lastO 0 (m.opts.take opts.length)) (by omega)
    have e2 := ext_le ((oat m.opts opts.length).val.length : Int) (by omega)
    rcases h1 with h1 | h1 | h1
    · rw [h0] at h1; cases h1
    · rw [h1] at h4; cases h4
    · have e3 := u8_small (x := 16 * (ext ((oat m.opts opts.length).num - lastO 0 (m.opts.take opts.length))).1 + (ext ((oat m.opts opts.length).val.length : Int)).1) (by omega)
      rw [h4] at h1
      have h1' : u8 (16 * (ext ((oat m.opts opts.length).num - lastO 0 (m.opts.take opts.length))).1 + (ext ((oat m.opts opts.length).val.length : Int)).1) = 255 := h1
      rw [h1'] at e3
      have : ((255 : UInt8).toNat : Int) = 255 := rfl
      omega
  · refine ⟨h0, ?_, ?_⟩
    · rw [List.take_of_length_le h5] at h7; exact h7
    · rw [rest_end h5] at h4; exact h4
/-- A further option of a valid message. -/
theorem Fits.parts {b : List UInt8} {opts : List Opt} {last : Int} {r : List UInt8} {bad : Bool} (h : Fits b opts last r bad) {m : Msg} (hm : OkM m) (hr : raw m = b) (h1 : r ≠ []) (h2 : bt r 0 ≠ 255) :
    ∃ o d n, opts.length < m.opts.length ∧ o = oat m.opts opts.length ∧ d = o.num - last ∧ n = (o.val.length : Int) ∧ 0 ≤ d ∧ d ≤ 65535 ∧ n ≤ 1034 ∧ ((bt r 0).toNat : Int) = 16 * (ext d).1 + (ext n).1 ∧ r.drop 1 = (ext d).2 ++ ((ext n).2 ++ (o.val ++ restM m (opts.length + 1))) := by
  have h5 := h.more hm hr h1 h2
  obtain ⟨h0, h3, h4, h6, h7⟩ := h m hm hr
  rw [rest_step h5, ← h7, ← h6] at h4
  have h8 := AscO_at hm.2.2.1 h5
  have h9 := lastO_le (AscO_take hm.2.2.1 opts.length) (by omega)
  rw [← h7, ← h6] at h8 h9
  have e1 := ext_le ((oat m.opts opts.length).num - last) (by omega)
  have e2 := ext_le ((oat m.opts opts.length).val.length : Int) (by omega)
  refine ⟨_, _, _, h5, rfl, rfl, rfl, by omega, by omega, by omega, ?_, by rw [h4]; rfl⟩
  rw [h4]
  exact u8_small (by omega)
theorem Fits.step {b : List UInt8} {opts : List Opt} {last : Int} {r r1 r2 r3 : List UInt8} {b1 b2 b3 : Bool} {v1 v2 : Int} {x : List UInt8} (h : Fits b opts last r false) (h1 : r ≠ []) (h2 : bt r 0 ≠ 255)
    (e1 : numP (r.drop 1) false (((bt r 0).toNat : Int) / 16) = (v1, r1, b1)) (e2 : numP r1 b1 (((bt r 0).toNat : Int) % 16) = (v2, r2, b2)) (e3 : takeP r2 b2 v2 = (x, r3, b3)) : Fits b (opts ++ [⟨last + v1, x⟩]) (last + v1) r3 b3 := fun m hm hr => by
  obtain ⟨o, d, n, h5, h6, h7, h8, h9, h10, h11, h12, h13⟩ := h.parts hm hr h1 h2
  obtain ⟨-, -, -, h16, h17⟩ := h m hm hr
  have q1 := ext_le d h9
  have q2 := ext_le n (by omega)
  rw [h12, show (16 * (ext d).1 + (ext n).1) / 16 = (ext d).1 by omega, h13, numP_ext (by omega)] at e1
  simp only [Prod.mk.injEq] at e1
  obtain ⟨e11, e12, e13⟩ := e1
  subst e12; subst e13
  rw [h12, show (16 * (ext d).1 + (ext n).1) % 16 = (ext n).1 by omega, numP_ext (by omega)] at e2
  simp only [Prod.mk.injEq] at e2
  obtain ⟨e21, e22, e23⟩ := e2
  subst e22; subst e23
  rw [takeP_app _ _ _ (e21.symm.trans h8)] at e3
  simp only [Prod.mk.injEq] at e3
  obtain ⟨e31, e32, e33⟩ := e3
  subst e31; subst e32; subst e33
  have hl : last + v1 = o.num := by omega
  refine ⟨rfl, by simp; omega, by simp, by rw [lastO_snoc], ?_⟩
  rw [List.length_append, List.length_singleton, take_snoc Opt.none h5, ← h17, hl, h6]
/-- The start. -/
theorem Fits.start {b : List UInt8} : (∀ m, OkM m → raw m = b → ((bt b 0).toNat : Int) = 64 + 16 * m.ty + m.tok.length ∧ ((bt b 1).toNat : Int) = m.code ∧ ((bt b 2).toNat : Int) = m.id / 256 ∧ ((bt b 3).toNat : Int) = m.id % 256 ∧ b.drop 4 = m.tok ++ restM m 0) := fun m hm hr => by
  have h1 := hm.1
  have h2 := hm.2.1
  subst hr
  rw [rest_zero]
  refine ⟨u8_small (by omega), u8_small (by omega), u8_small (by omega), u8_toNat _, rfl⟩
theorem Fits.first {b x r : List UInt8} {bad : Bool} (e : takeP (b.drop 4) false (((bt b 0).toNat : Int) % 16) = (x, r, bad)) : Fits b [] 0 r bad ∧ ∀ m, OkM m → raw m = b → x = m.tok := by
  have key : ∀ m, OkM m → raw m = b → x = m.tok ∧ r = restM m 0 ∧ bad = false := fun m hm hr => by
    obtain ⟨h1, -, -, -, h5⟩ := Fits.start m hm hr
    have h2 := hm.2.1
    rw [h1, h5, takeP_app _ _ _ (by omega)] at e
    cases e
    exact ⟨rfl, rfl, rfl⟩
  exact ⟨fun m hm hr => ⟨(key m hm hr).2.2, Nat.zero_le _, (key m hm hr).2.1, rfl, rfl⟩, fun m hm hr => (key m hm hr).1⟩
/-- The end: every valid message with this encoding is the one that is read. -/
theorem Fits.all {b x r : List UInt8} {opts : List Opt} {last : Int} {bad : Bool} (h : Fits b opts last r bad) (hx : ∀ m, OkM m → raw m = b → x = m.tok) (h1 : bad = true ∨ r = [] ∨ bt r 0 = 255) {pay : List UInt8} (hp : pay = r.drop 1) {ty code id : Int}
    (hty : ty = ((bt b 0).toNat : Int) / 16 % 4) (hcode : code = ((bt b 1).toNat : Int)) (hid : id = ((bt b 2).toNat : Int) * 256 + ((bt b 3).toNat : Int)) : ∀ m, OkM m → raw m = b → bad = false ∧ m = ⟨ty, code, id, x, opts, pay⟩ := fun m hm hr => by
  obtain ⟨g1, g2, g3, g4, -⟩ := Fits.start m hm hr
  obtain ⟨h3, h4, h5⟩ := h.ends hm hr h1
  have q1 := hm.1
  have q2 := hm.2.1
  have hpay : pay = m.pay := by
    rw [hp, h5, tailM]
    split
    · rename_i e; rw [e]; rfl
    · rfl
  refine ⟨h3, ?_⟩
  obtain ⟨ty', code', id', tok', opts', pay'⟩ := m
  simp only at g1 g2 g3 g4 q1 q2 h4 hpay
  have := hx _ hm hr
  simp only at this
  subst this; subst h4; subst hpay
  rw [Msg.mk.injEq]
  refine ⟨by omega, by omega, by omega, rfl, rfl, rfl⟩
end Go.Proofs.Ytiddmpmpjdnmeaa.By
