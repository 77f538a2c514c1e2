/-
  Layer 27, plainly: what was written is read again, and what is read is the one form.
-/
import Derived.Test.YtbkclbbhdeohfaaCm
namespace Go.Proofs.Ytbkclbbhdeohfaa.By
open Go.RowKit L A Dk
set_option linter.unusedVariables false
set_option linter.unusedSimpArgs false

theorem beVal_cons (x : UInt8) (l : List UInt8) : beVal (x :: l) = x.toNat * 256 ^ l.length + beVal l := by
  have key : ∀ (l : List UInt8) (a : Nat), l.foldl (fun n x => n * 256 + x.toNat) a = a * 256 ^ l.length + beVal l := by
    intro l
    induction l with
    | nil => intro a; simp [beVal]
    | cons y l ih =>
      intro a
      have e : beVal (y :: l) = y.toNat * 256 ^ l.length + beVal l := by
        show (y :: l).foldl (fun n x => n * 256 + x.toNat) 0 = _
        rw [List.foldl_cons, ih, Nat.zero_mul, Nat.zero_add]
      rw [List.foldl_cons, ih, e, List.length_cons, Nat.pow_succ, Nat.add_mul, Nat.mul_assoc, Nat.mul_comm 256, Nat.add_assoc]
  rw [beVal, List.foldl_cons, key]; simp
theorem u8_mod256 (n : Nat) : (u8 (n : Int)).toNat = n % 256 := by have := u8_toNat (n : Int); omega
theorem beVal_beGo : ∀ (n : Nat) (out : List UInt8), beVal (beGo n out) = n * 256 ^ out.length + beVal out := by
  intro n
  induction n using Nat.strongRecOn with
  | _ n ih =>
    intro out
    by_cases h0 : n = 0
    · subst h0; rw [beGo_zero]; simp
    · rw [beGo_pos h0, ih _ (Nat.div_lt_self (by omega) (by omega)), beVal_cons, u8_mod256, List.length_cons, Nat.pow_succ]
      have := Nat.div_add_mod n 256
      calc n / 256 * (256 ^ out.length * 256) + (n % 256 * 256 ^ out.length + beVal out) = (256 * (n / 256) + n % 256) * 256 ^ out.length + beVal out := by
            rw [Nat.add_mul, Nat.mul_comm (256 ^ out.length) 256, ← Nat.mul_assoc, Nat.mul_comm (n / 256) 256, Nat.add_assoc]
        _ = n * 256 ^ out.length + beVal out := by rw [this]
theorem beGo_head : ∀ (n : Nat) (out : List UInt8), n ≠ 0 → bt (beGo n out) 0 ≠ 0 := by
  intro n
  induction n using Nat.strongRecOn with
  | _ n ih =>
    intro out h0
    rw [beGo_pos h0]
    by_cases h1 : n / 256 = 0
    · rw [h1, beGo_zero]
      show u8 (n : Int) ≠ 0
      rw [ne_eq, u8_zero_iff]; omega
    · exact ih _ (Nat.div_lt_self (by omega) (by omega)) _ h1
theorem beGo_len_ge : ∀ (n : Nat) (out : List UInt8), out.length ≤ (beGo n out).length := by
  intro n
  induction n using Nat.strongRecOn with
  | _ n ih =>
    intro out
    by_cases h0 : n = 0
    · subst h0; rw [beGo_zero]; exact Nat.le_refl _
    · rw [beGo_pos h0]
      have := ih (n / 256) (Nat.div_lt_self (by omega) (by omega)) (u8 (n : Int) :: out)
      simp at this ⊢; omega
theorem numB_pivB {n : Int} (h0 : 0 ≤ n) (h1 : n ≤ 1099511627775) : numB (pivB n) = (n, 0) := by
  have hlen := pivB_len n
  have hne : (pivB n).length ≠ 0 := fun e => by have := (pivB_nil h1).1 e; omega
  have e : pivB n = beGo (n.toNat / 256) [u8 n] := by unfold pivB; rw [if_neg (by omega)]
  have hv : beVal (pivB n) = n.toNat := by
    rw [e, beVal_beGo, beVal_cons]
    have : u8 n = u8 (n.toNat : Int) := by rw [Int.toNat_of_nonneg h0]
    rw [this, u8_mod256]
    simp [beVal]; omega
  unfold numB
  rw [if_neg hne, if_neg (by omega), if_neg, hv, Int.toNat_of_nonneg h0]
  rintro ⟨h2, h3⟩
  by_cases hz : n.toNat / 256 = 0
  · rw [e, hz, beGo_zero] at h2; simp at h2
  · rw [e] at h3; exact beGo_head _ _ hz h3
theorem beGo_beVal : ∀ (k : Nat) (s out : List UInt8), s.length = k → s ≠ [] → bt s 0 ≠ 0 → beGo (beVal s) out = s ++ out := by
  intro k
  induction k with
  | zero => intro s out h hne; exact absurd (List.eq_nil_of_length_eq_zero h) hne
  | succ k ih =>
    intro s out h hne h0
    obtain ⟨t, x, rfl⟩ : ∃ r x, s = r ++ [x] := ⟨s.dropLast, s.getLast hne, (List.dropLast_concat_getLast hne).symm⟩
    have hx := x.toNat_lt
    have hd : (beVal t * 256 + x.toNat) / 256 = beVal t := by omega
    have hu : u8 ((beVal t * 256 + x.toNat : Nat) : Int) = x := by
      have h9 := u8_self x
      rw [u8_mod _ (x.toNat : Int) (by omega)]; exact h9
    by_cases ht : t = []
    · subst ht
      have hx0 : x.toNat ≠ 0 := fun e => h0 (by show x = 0; exact UInt8.toNat_inj.1 e)
      have : beVal ([] ++ [x]) = x.toNat := by simp [beVal]
      rw [this, beGo_pos hx0, show x.toNat / 256 = 0 by omega, beGo_zero, u8_self]; rfl
    · have ht0 : bt t 0 ≠ 0 := by
        cases t with
        | nil => exact absurd rfl ht
        | cons y t => exact h0
      have hpos : beVal t ≠ 0 := fun e => by
        have h9 := ih t [] (by simp at h; exact h) ht ht0
        rw [e, beGo_zero] at h9
        exact ht (by simpa using h9.symm)
      rw [beVal_snoc, beGo_pos (by omega), hd, hu, ih t _ (by simp at h; exact h) ht ht0]; simp
theorem pivB_numB {s : List UInt8} (h : (numB s).2 = 0) : pivB (numB s).1 = s ∧ 0 ≤ (numB s).1 ∧ (numB s).1 ≤ 1099511627775 := by
  unfold numB at h ⊢
  split at h
  · simp at h
  · rename_i h0
    rw [if_neg h0]
    split at h
    · simp at h
    · rename_i h1
      rw [if_neg h1]
      split at h
      · simp at h
      · rename_i h2
        rw [if_neg h2]
        have hlt := beVal_lt s.length s rfl
        have hlt5 : beVal s < 1099511627776 := Nat.lt_of_lt_of_le hlt (Nat.le_trans (Nat.pow_le_pow_right (by decide) (show s.length ≤ 5 by omega)) (by decide))
        refine ⟨?_, by simp only; omega, by simp only; omega⟩
        simp only
        have hne : s ≠ [] := fun e => h0 (by rw [e]; rfl)
        unfold pivB
        rw [if_neg (by omega), Int.toNat_natCast]
        by_cases hb : bt s 0 = 0
        · have h9 : s.length = 1 := by
            rcases Nat.lt_or_ge 1 s.length with h3 | h3
            · exact absurd ⟨h3, hb⟩ h2
            · omega
          match s, h9 with
          | [x], _ =>
            have : x = 0 := hb
            subst this
            have : beVal [0] = 0 := rfl
            rw [this, beGo_zero]; rfl
        · have h9 := beGo_beVal s.length s [] rfl hne hb
          by_cases hz : beVal s = 0
          · rw [hz, beGo_zero] at h9; exact absurd (by simpa using h9.symm) hne
          · rw [beGo_pos hz] at h9
            simpa using h9

theorem flags_of {n : Nat} (hn : n ≤ 5) (a b c : Bool) : let f := n + (if a then 8 else 0) + (if b then 16 else 0) + (if c then 32 else 0); f % 8 = n ∧ f < 64 ∧ (f &&& 8 = 0 ↔ a = false) ∧ (f &&& 16 = 0 ↔ b = false) ∧ ((((f &&& 32 : Nat) : Int) != 0) = c) := by
  rcases (show n = 0 ∨ n = 1 ∨ n = 2 ∨ n = 3 ∨ n = 4 ∨ n = 5 by omega) with rfl | rfl | rfl | rfl | rfl | rfl <;> cases a <;> cases b <;> cases c <;> decide
theorem flags_back : ∀ f : Nat, f < 64 → f % 8 + (if f &&& 8 = 0 then 0 else 8) + (if f &&& 16 = 0 then 0 else 16) + (if (((f &&& 32 : Nat) : Int) != 0) = true then 32 else 0) = f := by decide

theorem dec_enc {c : Cmp} (h : ValC c) : decC (encC c).1 = (c, 0) ∧ (encC c).2 = 0 := by
  have hpl := pivB_len c.piv
  have hnil := pivB_nil (n := c.piv) h.1.2.1
  have hvc := h
  obtain ⟨piv, hk, kid, hc, ctx, g⟩ := c
  obtain ⟨⟨a1, a2, a3, a4⟩, b1, b2⟩ := h
  simp only at a1 a2 a3 a4 b1 b2 hpl hnil
  obtain ⟨n, hn⟩ : ∃ n, n = (pivB piv).length := ⟨_, rfl⟩
  rw [← hn] at hpl hnil
  obtain ⟨f1, f2, f3, f4, f5⟩ := flags_of hpl hk hc g
  obtain ⟨f, hf⟩ : ∃ f : Nat, f = n + (if hk then 8 else 0) + (if hc then 16 else 0) + (if g then 32 else 0) := ⟨_, rfl⟩
  rw [← hf] at f1 f2 f3 f4 f5
  have hfl : flg ⟨piv, hk, kid, hc, ctx, g⟩ = (f : Int) := by
    unfold flg; rw [hf, hn]; cases hk <;> cases hc <;> cases g <;> simp <;> omega
  unfold encC
  rw [if_neg (by simpa using hvc), hfl]
  by_cases hz : f = 0
  · rw [if_pos (by omega)]
    refine ⟨?_, rfl⟩
    subst hz
    have hn0 : n = 0 := by omega
    have hp := hnil.1 hn0
    have e1 : hk = false := f3.1 rfl
    have e2 : hc = false := f4.1 rfl
    have e3 : g = false := by rw [← f5]; rfl
    subst e1; subst e2; subst e3
    have e4 : kid = [] := List.eq_nil_of_length_eq_zero (by rcases b1 with b | b; · cases b
                                                            · omega)
    have e5 : ctx = [] := List.eq_nil_of_length_eq_zero (by rcases b2 with b | b; · cases b
                                                            · omega)
    subst e4; subst e5
    have e6 : piv = -1 := by omega
    subst e6
    rfl
  · rw [if_neg (by omega)]
    refine ⟨?_, rfl⟩
    show decC (encB ⟨piv, hk, kid, hc, ctx, g⟩) = _
    have hu : (u8 (f : Int)).toNat = f := by rw [u8_mod256]; omega
    have hb0 : bt (encB ⟨piv, hk, kid, hc, ctx, g⟩) 0 = u8 (f : Int) := by unfold encB; rw [hfl]; rfl
    have hd : (encB ⟨piv, hk, kid, hc, ctx, g⟩).drop 1 = pivB piv ++ ((if hc then u8 ctx.length :: ctx else []) ++ kid) := by unfold encB; simp
    have hlen : (encB ⟨piv, hk, kid, hc, ctx, g⟩).length = 1 + (n + ((if hc then u8 ctx.length :: ctx else []).length + kid.length)) := by
      unfold encB; simp [← hn]; omega
    have hcl : (if hc then u8 ctx.length :: ctx else []).length ≤ 17 := by split <;> simp <;> omega
    unfold decC
    rw [if_neg (by omega), if_neg (by omega), hb0, hu, if_neg (by omega), hd]
    unfold decR
    rw [f1, if_neg (by rw [List.length_append]; omega), hn, List.take_left, List.drop_left]
    have tail : ∀ p, decS f p ((if hc then u8 ctx.length :: ctx else []) ++ kid) = ((⟨p, hk, kid, hc, ctx, g⟩ : Cmp), 0) := fun p => by
      have fin : ∀ x, decF f p hc x kid = ((⟨p, hk, kid, hc, x, g⟩ : Cmp), 0) := fun x => by
        unfold decF
        cases hk with
        | false =>
          have e4 : kid = [] := List.eq_nil_of_length_eq_zero (by rcases b1 with b | b; · cases b
                                                                  · omega)
          subst e4
          rw [if_pos (f3.2 rfl), if_neg (by simp), f5]
        | true => rw [if_neg (fun e => by have := f3.1 e; cases this), if_neg (by omega), f5]
      unfold decS
      cases hc with
      | false =>
        have e5 : ctx = [] := List.eq_nil_of_length_eq_zero (by rcases b2 with b | b; · cases b
                                                                · omega)
        subst e5
        rw [if_pos (f4.2 rfl)]
        exact fin []
      | true =>
        have hcu : (u8 (ctx.length : Int)).toNat = ctx.length := by rw [u8_mod256]; omega
        rw [if_neg (fun e => by have := f4.1 e; cases this), if_neg (by simp)]
        have hbt : bt ((if true = true then u8 ctx.length :: ctx else []) ++ kid) 0 = u8 ctx.length := rfl
        rw [hbt, hcu, if_neg (by omega), if_neg (by simp; omega)]
        have e1 : ((((if true = true then u8 (ctx.length : Int) :: ctx else []) ++ kid).drop 1).take ctx.length) = ctx := by simp
        have e2 : ((if true = true then u8 (ctx.length : Int) :: ctx else []) ++ kid).drop (1 + ctx.length) = kid := by
          rw [Nat.add_comm]; simp
        rw [e1, e2]
        exact fin ctx
    by_cases hn0 : n = 0
    · have : piv = -1 := by have := hnil.1 hn0; omega
      rw [if_neg (by omega), tail, this]
    · have hp0 : 0 ≤ piv := by
        rcases Int.lt_or_le piv 0 with h | h
        · exact absurd (hnil.2 h) hn0
        · exact h
      rw [if_pos (by omega), numB_pivB hp0 a2, if_neg (by simp), tail]

theorem enc_dec {r : List UInt8} {y : Cmp} (h : decC r = (y, 0)) : encC y = (r, 0) := by
  unfold decC at h
  split at h
  · rename_i h0
    have : r = [] := List.eq_nil_of_length_eq_zero h0
    subst this
    simp only [Prod.mk.injEq, and_true] at h
    subst h
    unfold encC
    rw [if_neg (by decide)]
    have e : flg ⟨-1, false, [], false, [], false⟩ = 0 := by
      unfold flg
      have : pivB (-1) = [] := by unfold pivB; rw [if_pos (by omega)]
      rw [this]; rfl
    rw [if_pos e]
  · rename_i h0
    split at h
    · simp at h
    · rename_i h1
      split at h
      · simp at h
      · rename_i h2
        obtain ⟨x, t, rfl⟩ : ∃ x t, r = x :: t := by
          cases r with
          | nil => simp at h0
          | cons x t => exact ⟨x, t, rfl⟩
        have hb0 : bt (x :: t) 0 = x := rfl
        rw [hb0] at h2 h
        simp only [List.drop_succ_cons, List.drop_zero] at h
        obtain ⟨f, hf⟩ : ∃ f, f = x.toNat := ⟨_, rfl⟩
        rw [← hf] at h2 h
        have hfb := flags_back f (by omega)
        -- the end
        have fin : ∀ (p : Int) (pb : List UInt8), pivB p = pb → pb.length = f % 8 → -1 ≤ p → p ≤ 1099511627775 → ∀ (hc : Bool) (cx s : List UInt8), cx.length ≤ 16 → (hc = true ∨ cx = []) → (f &&& 16 = 0 ↔ hc = false) → decF f p hc cx s = (y, 0) →
            encC y = (x :: pb ++ (if hc then u8 cx.length :: cx else []) ++ s, 0) := by
          intro p pb hp hpl hp1 hp2 hc cx s hcl hcx h16 hd
          have hff : ∀ hk : Bool, (f &&& 8 = 0 ↔ hk = false) → flg ⟨p, hk, s, hc, cx, (((f &&& 32 : Nat) : Int) != 0)⟩ = (f : Int) := fun hk h8 => by
            unfold flg
            rw [hp, hpl]
            have e8 : (if hk = true then (8 : Int) else 0) = ((if f &&& 8 = 0 then 0 else 8 : Nat) : Int) := by
              cases hk with
              | false => rw [if_pos (h8.2 rfl)]; rfl
              | true => rw [if_pos rfl, if_neg (fun e => by have := h8.1 e; cases this)]; rfl
            have e16 : (if hc = true then (16 : Int) else 0) = ((if f &&& 16 = 0 then 0 else 16 : Nat) : Int) := by
              cases hc with
              | false => rw [if_pos (h16.2 rfl)]; rfl
              | true => rw [if_pos rfl, if_neg (fun e => by have := h16.1 e; cases this)]; rfl
            have e32 : (if (((f &&& 32 : Nat) : Int) != 0) = true then (32 : Int) else 0) = ((if (((f &&& 32 : Nat) : Int) != 0) = true then 32 else 0 : Nat) : Int) := by split <;> rfl
            simp only [e8, e16, e32]
            omega
          have hfu : u8 (f : Int) = x := by rw [hf]; exact u8_self x
          have build : ∀ hk : Bool, (f &&& 8 = 0 ↔ hk = false) → (hk = true ∨ s = []) → s.length ≤ 7 → encC ⟨p, hk, s, hc, cx, (((f &&& 32 : Nat) : Int) != 0)⟩ = (x :: pb ++ (if hc then u8 cx.length :: cx else []) ++ s, 0) := fun hk h8 hs hs7 => by
            have hv : ValC ⟨p, hk, s, hc, cx, (((f &&& 32 : Nat) : Int) != 0)⟩ := by
              refine ⟨⟨hp1, hp2, by simp only; omega, by simp only; omega⟩, ?_, ?_⟩
              · rcases hs with hs | hs
                · exact .inl hs
                · exact .inr (by rw [hs]; rfl)
              · rcases hcx with hs | hs
                · exact .inl hs
                · exact .inr (by rw [hs]; rfl)
            unfold encC
            rw [if_neg (by simpa using hv), hff hk h8, if_neg (by omega)]
            unfold encB
            rw [hff hk h8, hfu, hp]
          unfold decF at hd
          split at hd
          · rename_i h8
            split at hd
            · simp at hd
            · rename_i hs
              have : s = [] := List.eq_nil_of_length_eq_zero (by omega)
              subst this
              simp only [Prod.mk.injEq, and_true] at hd
              subst hd
              exact build false ⟨fun _ => rfl, fun _ => h8⟩ (.inr rfl) (by simp)
          · rename_i h8
            split at hd
            · simp at hd
            · rename_i hs
              simp only [Prod.mk.injEq, and_true] at hd
              subst hd
              exact build true ⟨fun e => absurd e h8, fun e => by cases e⟩ (.inl rfl) (by omega)
        have mid : ∀ (p : Int) (pb : List UInt8), pivB p = pb → pb.length = f % 8 → -1 ≤ p → p ≤ 1099511627775 → ∀ s, decS f p s = (y, 0) → encC y = (x :: pb ++ s, 0) := by
          intro p pb hp hpl hp1 hp2 s hd
          unfold decS at hd
          split at hd
          · rename_i h16
            have := fin p pb hp hpl hp1 hp2 false [] s (by simp) (.inr rfl) ⟨fun _ => rfl, fun _ => h16⟩ hd
            simpa using this
          · rename_i h16
            split at hd
            · simp at hd
            · rename_i hs0
              obtain ⟨m, q, rfl⟩ : ∃ m q, s = m :: q := by
                cases s with
                | nil => simp at hs0
                | cons x t => exact ⟨x, t, rfl⟩
              have hbm : bt (m :: q) 0 = m := rfl
              rw [hbm] at hd
              split at hd
              · simp at hd
              · rename_i hm
                split at hd
                · simp at hd
                · rename_i hq
                  simp only [List.drop_succ_cons, List.drop_zero] at hd
                  have hql : m.toNat ≤ q.length := by simp at hq; omega
                  have ht : (q.take m.toNat).length = m.toNat := by simp; omega
                  have := fin p pb hp hpl hp1 hp2 true (q.take m.toNat) _ (by omega) (.inl rfl) ⟨fun e => absurd e h16, fun e => by cases e⟩ hd
                  rw [this, ht]
                  have e1 : u8 ((m.toNat : Nat) : Int) = m := u8_self m
                  have e2 : (m :: q).drop (1 + m.toNat) = q.drop m.toNat := by rw [Nat.add_comm]; rfl
                  rw [e2, if_pos rfl, e1]
                  simp [List.take_append_drop]
        unfold decR at h
        split at h
        · simp at h
        · rename_i hl
          split at h
          · rename_i hpos
            split at h
            · rename_i he
              simp only [Prod.mk.injEq] at h
              exact absurd h.2 he
            · rename_i he
              obtain ⟨g1, g2, g3⟩ := pivB_numB (s := t.take (f % 8)) (by simpa using he)
              have := mid _ _ g1 (by simp; omega) (by omega) g3 _ h
              rw [this]
              simp [List.take_append_drop]
          · rename_i hpos
            have h8 : f % 8 = 0 := by omega
            have := mid (-1) [] (by unfold pivB; rw [if_pos (by omega)]) (by simp [h8]) (by omega) (by omega) _ h
            rw [this, h8]; rfl
end Go.Proofs.Ytbkclbbhdeohfaa.By
