/-
  Texts laid together (part 4): what the statement's walk and plain law need. No condition.
-/
import Derived.Test.YtojomcdjcpmnkaaGreatZ3
namespace Go.Proofs.YtojomcdjcpmnkaaGreat.By
open Go.RowKit L A
set_option linter.unusedVariables false
set_option maxRecDepth 20000
set_option linter.unusedSimpArgs false
attribute [local irreducible] AW AQ AO
structure Inp where
 sec : List UInt8
 salt : List UInt8
 has : Bool
 ctx : List UInt8
 snd : List UInt8
 rcp : List UInt8
abbrev cI (x : Inp) : List AV := [roB x.sec, roB x.salt, .val (.bool x.has), roB x.ctx, roB x.snd, roB x.rcp]
abbrev aggI (x : Inp) : AV := .agg (cI x)
structure Cx where
 inp : Inp
 sk : List UInt8
 rk : List UInt8
 com : List UInt8
abbrev cX (c : Cx) : List AV := [roB c.inp.sec, roB c.inp.salt, .val (.bool c.inp.has), roB c.inp.ctx, roB c.inp.snd, roB c.inp.rcp, roB c.sk, roB c.rk, roB c.com]
abbrev aggX (c : Cx) : AV := .agg (cX c)
def Inp.none : Inp := ⟨[], [], false, [], [], []⟩
def Cx.none : Cx := ⟨Inp.none, [], [], []⟩
abbrev InpOk (x : Inp) : Prop := (1 ≤ x.sec.length ∧ x.sec.length ≤ 64 ∧ x.salt.length ≤ 64 ∧ x.ctx.length ≤ 16 ∧ (x.has = true ∨ x.ctx.length = 0)) ∧ x.snd.length ≤ 7 ∧ x.rcp.length ≤ 7 ∧ ¬x.snd = x.rcp
abbrev CxOk (c : Cx) : Prop := InpOk c.inp ∧ c.sk.length = 16 ∧ c.rk.length = 16 ∧ c.com.length = 13
theorem inp_no {x : Inp} (h : ¬InpOk x) : false = decide (InpOk x) := (decide_eq_false h).symm
theorem inp_e1 {x : Inp} (h : 1 ≤ x.sec.length ∧ x.sec.length ≤ 64 ∧ x.salt.length ≤ 64 ∧ x.ctx.length ≤ 16 ∧ (x.has = true ∨ x.ctx.length = 0)) :
  (decide ((x.snd.length : Int) ≤ 7) && decide ((x.rcp.length : Int) ≤ 7) && (strOf x.snd).toList != (strOf x.rcp).toList) = decide (InpOk x) := by
 rw [Bool.eq_iff_iff, Bool.and_eq_true, Bool.and_eq_true, decide_eq_true_eq, decide_eq_true_eq, decide_eq_true_eq, bne_iff_ne, ne_eq, strOf_toList, strOf_toList]
 constructor
 ·rintro ⟨⟨h1, h2⟩, h3⟩
  exact ⟨h, by omega, by omega, h3⟩
 rintro ⟨-, h1, h2, h3⟩
 exact ⟨⟨by omega, by omega⟩, h3⟩
theorem inp_e2 {x : Inp} : (decide (1 ≤ (x.sec.length : Int)) && decide ((x.sec.length : Int) ≤ 64) && decide ((x.salt.length : Int) ≤ 64) && decide ((x.ctx.length : Int) ≤ 16) && (x.has || ((x.ctx.length : Int) == 0)) && decide ((x.snd.length : Int) ≤ 7) && decide ((x.rcp.length : Int) ≤ 7) && !(x.snd == x.rcp)) = decide (InpOk x) := by
 rw [Bool.eq_iff_iff]
 simp only [Bool.and_eq_true, Bool.or_eq_true, decide_eq_true_eq, beq_iff_eq, Bool.not_eq_true', beq_eq_false_iff_ne, ne_eq]
 constructor
 ·rintro ⟨⟨⟨⟨⟨⟨⟨h1, h2⟩, h3⟩, h4⟩, h5⟩, h6⟩, h7⟩, h8⟩
  exact ⟨⟨by omega, by omega, by omega, by omega, h5.imp id (fun h => by omega)⟩, by omega, by omega, h8⟩
 rintro ⟨⟨h1, h2, h3, h4, h5⟩, h6, h7, h8⟩
 exact ⟨⟨⟨⟨⟨⟨⟨by omega, by omega⟩, by omega⟩, by omega⟩, h5.imp id (fun h => by omega)⟩, by omega⟩, by omega⟩, h8⟩
set_option maxHeartbeats 4000000 in
theorem cvalidI_fn (x : Inp) : Sp Tryz.prog 76 [aggI x] [] (Is (.val (.bool (decide (InpOk x))))) := by
 refine yv Tryz.func76 _ Tryz.ntmps76 (fun w0 R0 => ?_)
 refine zx (zm ?_)
 refine ya ?_
 intro B1
 refine zc (zD (zl (zx (zx (zm ?_)))))
 refine zn ?_
 refine zo ?_
 refine zZ ?_
 refine zH ?_
 refine za ?_
 refine zE ?_
 refine AO.opG rfl rfl rfl (fun hp => zu 8 rfl (by exact hp)) ?_
 refine AO.opG rfl rfl rfl (fun hp => yL 9 rfl (by exact hp)) ?_
 refine AO.opG rfl rfl rfl (fun hp => yM 10 rfl (by exact hp)) ?_
 refine zB ?_
 refine za ?_
 refine zE ?_
 refine wn ?_
 refine AO.opG rfl rfl rfl (fun hp => yL 15 rfl (by exact hp)) ?_
 refine AO.opG rfl rfl rfl (fun hp => yM 16 rfl (by exact hp)) ?_
 refine zB ?_
 refine za ?_
 refine zE ?_
 refine AO.opG rfl rfl rfl (fun hp => zu 20 rfl (by exact hp)) ?_
 refine AO.opG rfl rfl rfl (fun hp => yL 21 rfl (by exact hp)) ?_
 refine AO.opG rfl rfl rfl (fun hp => yM 22 rfl (by exact hp)) ?_
 refine zB ?_
 refine za ?_
 refine zE ?_
 refine wr ?_
 refine AO.opG rfl rfl rfl (fun hp => xX 27 rfl (by exact hp)) ?_
 refine AO.opG rfl rfl rfl (fun hp => wL 28 rfl (by exact hp) ze) ?_
 refine zE ?_
 refine AO.opG rfl rfl rfl (fun hp => zu 30 rfl (by exact hp)) ?_
 refine AO.opG rfl rfl rfl (fun hp => yL 31 rfl (by exact hp)) ?_
 refine AO.opG rfl rfl rfl (fun hp => yM 32 rfl (by exact hp)) ?_
 refine AO.opG rfl rfl rfl (fun hp => wl 29 rfl (by exact hp)) ?_
 refine zB (zD (zl ?_))
 refine yn (fun h35 => ?_) (fun h35 => ?_) <;> (try simp only [wN] at h35)
 ·skip
  have e := inp_no (x := x) (by
   rintro ⟨⟨h1, h2, h3, h4, h5⟩, -⟩
   rcases h35 with (((h | h) | h) | h) | ⟨h, h'⟩
   ·omega
   ·omega
   ·omega
   ·omega
   rcases h5 with h5 | h5
   ·rw [h] at h5; cases h5
   omega)
  refine zx (zm ?_)
  refine zc (zD (zl (y1 (xi ?_))))
  refine xK rfl rfl ⟨_, List.nil_sublist _, .nil⟩ (⟨congrArg (fun z => AV.val (.bool z)) e, rfl⟩)
 have e := inp_e1 (x := x) (by
  obtain ⟨⟨⟨⟨h1, h2⟩, h3⟩, h4⟩, h5⟩ := h35
  refine ⟨by omega, by omega, by omega, by omega, ?_⟩
  cases hh : x.has with
  | true => exact .inl rfl
  | false => have := h5 hh; exact .inr (by omega))
 refine yN (zl (zx (zm ?_)))
 refine zn ?_
 refine zo ?_
 refine zZ ?_
 refine wG ?_
 refine za ?_
 refine zE ?_
 refine AO.opG rfl rfl rfl (fun hp => zu 41 rfl (by exact hp)) ?_
 refine AO.opG rfl rfl rfl (fun hp => yL 42 rfl (by exact hp)) ?_
 refine AO.opG rfl rfl rfl (fun hp => xn 43 rfl (by exact hp)) ?_
 refine zN ?_
 refine za ?_
 refine zE ?_
 refine AO.opG rfl rfl rfl (fun hp => zu 47 rfl (by exact hp)) ?_
 refine AO.opG rfl rfl rfl (fun hp => wL 48 rfl (by exact hp) (O.convS rfl rfl (by rfl))) ?_
 refine zE ?_
 refine AO.opG rfl rfl rfl (fun hp => zu 50 rfl (by exact hp)) ?_
 refine AO.opG rfl rfl rfl (fun hp => wL 51 rfl (by exact hp) (O.convS rfl rfl (by rfl))) ?_
 refine AO.opG rfl rfl rfl (fun hp => wL 49 rfl (by exact hp) (wL 52 rfl (by exact hp) (O.neqS rfl rfl rfl (by rfl)))) ?_
 refine zN ?_
 refine zc (zD (zl (y1 ?_)))
 refine xK rfl rfl ⟨_, List.nil_sublist _, .nil⟩ (⟨congrArg (fun z => AV.val (.bool z)) e, rfl⟩)
set_option maxHeartbeats 4000000 in
theorem rvalidI_fn (x : Inp) : Sp Tryz.prog 77 [aggI x] [] (Is (.val (.bool (decide (InpOk x))))) := by
 have e := inp_e2 (x := x)
 refine yv Tryz.func77 _ Tryz.ntmps77 (fun w0 R0 => ?_)
 refine zx (zm ?_)
 refine ya ?_
 intro B1
 refine zc (zD (zl (zx (zm ?_))))
 refine zn ?_
 refine zo ?_
 refine zZ ?_
 refine xR ?_
 refine za ?_
 refine zE ?_
 refine AO.opG rfl rfl rfl (fun hp => zu 8 rfl (by exact hp)) ?_
 refine AO.opG rfl rfl rfl (fun hp => yL 9 rfl (by exact hp)) ?_
 refine AO.opG rfl rfl rfl (fun hp => xn 10 rfl (by exact hp)) ?_
 refine zN ?_
 refine za ?_
 refine zE ?_
 refine wn ?_
 refine AO.opG rfl rfl rfl (fun hp => yL 15 rfl (by exact hp)) ?_
 refine AO.opG rfl rfl rfl (fun hp => xn 16 rfl (by exact hp)) ?_
 refine zN ?_
 refine za ?_
 refine zE ?_
 refine AO.opG rfl rfl rfl (fun hp => zu 20 rfl (by exact hp)) ?_
 refine AO.opG rfl rfl rfl (fun hp => yL 21 rfl (by exact hp)) ?_
 refine AO.opG rfl rfl rfl (fun hp => xn 22 rfl (by exact hp)) ?_
 refine zN ?_
 refine za ?_
 refine zE ?_
 refine wr ?_
 refine AO.opG rfl rfl rfl (fun hp => wL 27 rfl (by exact hp) ze) ?_
 refine zE ?_
 refine AO.opG rfl rfl rfl (fun hp => zu 29 rfl (by exact hp)) ?_
 refine AO.opG rfl rfl rfl (fun hp => yL 30 rfl (by exact hp)) ?_
 refine AO.opG rfl rfl rfl (fun hp => y9 31 rfl (by exact hp)) ?_
 refine AO.opG rfl rfl rfl (fun hp => wL 28 rfl (by exact hp) (O.pickOr rfl rfl rfl rfl (fun h => by simp_all))) ?_
 refine zN ?_
 refine za ?_
 refine zE ?_
 refine AO.opG rfl rfl rfl (fun hp => zu 36 rfl (by exact hp)) ?_
 refine AO.opG rfl rfl rfl (fun hp => yL 37 rfl (by exact hp)) ?_
 refine AO.opG rfl rfl rfl (fun hp => xn 38 rfl (by exact hp)) ?_
 refine zN ?_
 refine za ?_
 refine zE ?_
 refine AO.opG rfl rfl rfl (fun hp => zu 42 rfl (by exact hp)) ?_
 refine AO.opG rfl rfl rfl (fun hp => yL 43 rfl (by exact hp)) ?_
 refine AO.opG rfl rfl rfl (fun hp => xn 44 rfl (by exact hp)) ?_
 refine zN ?_
 refine za ?_
 refine zE ?_
 refine wq ?_
 refine zE ?_
 refine AO.opG rfl rfl rfl (fun hp => zu 50 rfl (by exact hp)) ?_
 refine AO.opG rfl rfl rfl (fun hp => wL 49 rfl (by exact hp) (wL 51 rfl (by exact hp) (xl rfl Tryz.func31 rfl rfl rfl (equal26_fn _ _)))) ?_
 refine AO.opG rfl rfl rfl (fun hp => xX 52 rfl (by exact hp)) ?_
 refine zN ?_
 refine zc (zD (zl (y1 ?_)))
 refine xK rfl rfl ⟨_, List.nil_sublist _, .nil⟩ (⟨congrArg (fun z => AV.val (.bool z)) e, rfl⟩)
theorem cx_e {c : Cx} : (decide (InpOk c.inp) && ((c.sk.length : Int) == 16) && ((c.rk.length : Int) == 16) && ((c.com.length : Int) == 13)) = decide (CxOk c) := by
 rw [Bool.eq_iff_iff]
 simp only [Bool.and_eq_true, decide_eq_true_eq, beq_iff_eq]
 constructor
 ·rintro ⟨⟨⟨h1, h2⟩, h3⟩, h4⟩
  exact ⟨h1, by omega, by omega, by omega⟩
 rintro ⟨h1, h2, h3, h4⟩
 exact ⟨⟨⟨h1, by omega⟩, by omega⟩, by omega⟩
theorem ovalid_fn (c : Cx) : Sp Tryz.prog 27 [aggX c] [] (Is (.val (.bool (decide (CxOk c))))) := by
 have e := cx_e (c := c)
 refine yv Tryz.func27 _ Tryz.ntmps27 (fun w0 R0 => ?_)
 refine zx (zm ?_)
 refine ya ?_
 intro B1
 refine zc (zD (zl (zx (zm ?_))))
 refine zn ?_
 refine zM ?_
 refine wI (xl rfl Tryz.func76 rfl rfl rfl (cvalidI_fn c.inp)) ?_
 refine za ?_
 refine zE ?_
 refine wu ?_
 refine AO.opG rfl rfl rfl (fun hp => yL 8 rfl (by exact hp)) ?_
 refine AO.opG rfl rfl rfl (fun hp => y9 9 rfl (by exact hp)) ?_
 refine zN ?_
 refine za ?_
 refine zE ?_
 refine AO.opG rfl rfl rfl (fun hp => zu 13 rfl (by exact hp)) ?_
 refine AO.opG rfl rfl rfl (fun hp => yL 14 rfl (by exact hp)) ?_
 refine AO.opG rfl rfl rfl (fun hp => y9 15 rfl (by exact hp)) ?_
 refine zN ?_
 refine za ?_
 refine zE ?_
 refine wo ?_
 refine AO.opG rfl rfl rfl (fun hp => yL 20 rfl (by exact hp)) ?_
 refine AO.opG rfl rfl rfl (fun hp => y9 21 rfl (by exact hp)) ?_
 refine zN ?_
 refine zc (zD (zl (y1 ?_)))
 refine xK rfl rfl ⟨_, List.nil_sublist _, .nil⟩ (⟨congrArg (fun z => AV.val (.bool z)) e, rfl⟩)
theorem rovalid_fn (c : Cx) : Sp Tryz.prog 28 [aggX c] [] (Is (.val (.bool (decide (CxOk c))))) := by
 have e := cx_e (c := c)
 refine yv Tryz.func28 _ Tryz.ntmps28 (fun w0 R0 => ?_)
 refine zx (zm ?_)
 refine ya ?_
 intro B1
 refine zc (zD (zl (zx (zm ?_))))
 refine zn ?_
 refine zM ?_
 refine wI (xl rfl Tryz.func77 rfl rfl rfl (rvalidI_fn c.inp)) ?_
 refine za ?_
 refine zE ?_
 refine wu ?_
 refine AO.opG rfl rfl rfl (fun hp => yL 8 rfl (by exact hp)) ?_
 refine AO.opG rfl rfl rfl (fun hp => y9 9 rfl (by exact hp)) ?_
 refine zN ?_
 refine za ?_
 refine zE ?_
 refine AO.opG rfl rfl rfl (fun hp => zu 13 rfl (by exact hp)) ?_
 refine AO.opG rfl rfl rfl (fun hp => yL 14 rfl (by exact hp)) ?_
 refine AO.opG rfl rfl rfl (fun hp => y9 15 rfl (by exact hp)) ?_
 refine zN ?_
 refine za ?_
 refine zE ?_
 refine wo ?_
 refine AO.opG rfl rfl rfl (fun hp => yL 20 rfl (by exact hp)) ?_
 refine AO.opG rfl rfl rfl (fun hp => y9 21 rfl (by exact hp)) ?_
 refine zN ?_
 refine zc (zD (zl (y1 ?_)))
 refine xK rfl rfl ⟨_, List.nil_sublist _, .nil⟩ (⟨congrArg (fun z => AV.val (.bool z)) e, rfl⟩)
/-! ### Derivation -/
def derX (x : Inp) : Cx := ⟨x, expand (hmac x.salt x.sec) (infoB x.snd x.ctx x.has keyT 16) 16, expand (hmac x.salt x.sec) (infoB x.rcp x.ctx x.has keyT 16) 16, expand (hmac x.salt x.sec) (infoB [] x.ctx x.has ivT 13) 13⟩
theorem derX_ok {x : Inp} (h : InpOk x) : CxOk (derX x) := ⟨h, expand_len, expand_len, expand_len⟩
abbrev resD (r : Cx × Int) : AV := .tup [aggX r.1, .val (.int .i64 r.2)]
def derR (x : Inp) : Cx × Int := if InpOk x then (derX x, 0) else (Cx.none, 1)
set_option maxHeartbeats 4000000 in
theorem derive_fn (x : Inp) : Sp Tryz.prog 54 [aggI x] [] (Is (resD (derR x))) := by
 refine yv Tryz.func54 _ Tryz.ntmps54 (fun w0 R0 => ?_)
 refine zx (zm ?_)
 refine ya ?_
 intro B1
 refine zd ?_
 intro B2
 refine zc (zD (zl (zx (zx (zm ?_)))))
 refine zG ?_
 refine wI (xl rfl Tryz.func77 rfl rfl rfl (rvalidI_fn x)) ?_
 refine xu (zD (zl ?_))
 refine yn (fun h => ?_) (fun h => ?_) <;> (try simp only [wN] at h)
 ·skip
  rw [show derR x = (Cx.none, 1) from if_neg h]
  refine zx (zm ?_)
  refine z8 ?_
  refine zb 0 rfl rfl rfl rfl rfl rfl ?_
  refine zc (zD (zl (y1 (xi ?_))))
  refine FnQ.coe (AQ.retCT rfl rfl rfl (by repeat (exact List.Mem.head _)) (by (dsimp only [List.set, List.cons_append, List.nil_append, List.take, List.drop]; done)) (by rfl) ⟨_, List.nil_sublist _, .nil⟩ ⟨rfl, rfl⟩) zI (⟨rfl, rfl⟩)
 rw [show derR x = (derX x, 0) from if_pos h]
 obtain ⟨⟨h1, h2, h3, h4, h5⟩, h6, h7, h8⟩ := h
 have hi1 := rinfo_fn x.snd x.ctx x.has _ keyT 16 (by omega) (by omega) (by decide) (by omega) rtxtK_fn
 have hi2 := rinfo_fn x.rcp x.ctx x.has _ keyT 16 (by omega) (by omega) (by decide) (by omega) rtxtK_fn
 have hi3 := rinfo_fn [] x.ctx x.has _ ivT 13 (by simp) (by omega) (by decide) (by omega) rtxtI_fn
 have hl := hmac_len x.salt x.sec
 have g1 := info_len (id := x.snd) (ctx := x.ctx) (has := x.has) (kind := keyT) (n := 16) (by omega) (by omega) (by decide) (by omega)
 have g2 := info_len (id := x.rcp) (ctx := x.ctx) (has := x.has) (kind := keyT) (n := 16) (by omega) (by omega) (by decide) (by omega)
 have g3 := info_len (id := []) (ctx := x.ctx) (has := x.has) (kind := ivT) (n := 13) (by simp) (by omega) (by decide) (by omega)
 have he1 := expand_fn (hmac x.salt x.sec) (infoB x.snd x.ctx x.has keyT 16) 16 (by omega) (by omega) (by omega)
 have he2 := expand_fn (hmac x.salt x.sec) (infoB x.rcp x.ctx x.has keyT 16) 16 (by omega) (by omega) (by omega)
 have he3 := expand_fn (hmac x.salt x.sec) (infoB [] x.ctx x.has ivT 13) 13 (by omega) (by omega) (by omega)
 refine yN (zl (zx (zm ?_)))
 refine zn ?_
 refine zp ?_
 refine zn ?_
 refine zp ?_
 refine wI (xl rfl Tryz.func104 rfl rfl rfl (extract_fn _ _ (by omega) (by omega))) ?_
 refine zc (zD (zl (zx ?_)))
 refine yj 20 ?_
 simp only [List.take_succ_cons, List.take_zero, List.drop_succ_cons, List.drop_zero]
 refine yw ?_
 refine zU ?_
 refine wJ (xl rfl Tryz.func69 rfl rfl rfl (copy26_fn _ (by omega))) ?_
 refine yw ?_
 refine zU ?_
 refine wJ (xl rfl Tryz.func69 rfl rfl rfl (copy26_fn _ (by omega))) ?_
 refine yw ?_
 refine zU ?_
 refine yw ?_
 refine zU ?_
 refine wJ (xl rfl Tryz.func69 rfl rfl rfl (copy26_fn _ (by omega))) ?_
 refine yw ?_
 refine zU ?_
 refine wJ (xl rfl Tryz.func69 rfl rfl rfl (copy26_fn _ (by omega))) ?_
 refine yw ?_
 refine zU ?_
 refine wJ (xl rfl Tryz.func69 rfl rfl rfl (copy26_fn _ (by omega))) ?_
 refine x8 ?_
 refine x8 ?_
 refine y8 ?_
 refine wg ?_
 simp only [chosen, List.nil_append, List.cons_append, List.append_nil]
 rintro _ _ ⟨B3, rfl, rfl⟩
 simp only [List.cons_append, List.nil_append]
 refine zb 0 rfl rfl rfl rfl rfl rfl (zD (zl (zx (zm ?_))))
 refine za ?_
 refine zn ?_
 refine zp ?_
 refine zn ?_
 refine zp ?_
 refine zn ?_
 refine zp ?_
 refine wI (xl rfl Tryz.func106 rfl rfl rfl hi1) ?_
 refine wI (xl rfl Tryz.func105 rfl rfl rfl he1) ?_
 refine za ?_
 refine zW ?_
 refine zW ?_
 refine zn ?_
 refine zb 0 rfl rfl rfl rfl rfl rfl (zD (zl (zx (zm ?_))))
 refine za ?_
 refine zn ?_
 refine zp ?_
 refine zn ?_
 refine zp ?_
 refine zn ?_
 refine zp ?_
 refine wI (xl rfl Tryz.func106 rfl rfl rfl hi2) ?_
 refine wI (xl rfl Tryz.func105 rfl rfl rfl he2) ?_
 refine za ?_
 refine zW ?_
 refine zW ?_
 refine zn ?_
 refine zb 0 rfl rfl rfl rfl rfl rfl (zD (zl (zx (zm ?_))))
 refine za ?_
 refine zn ?_
 refine zp ?_
 refine zn ?_
 refine zp ?_
 refine wI (O.callC rfl Tryz.func106 rfl rfl rfl hi3 (by (repeat (first | exact CoeL.nil | refine CoeL.cons Coe.rfl ?_ | refine CoeL.cons Coe.nil ?_)); done)) ?_
 refine wI (xl rfl Tryz.func105 rfl rfl rfl he3) ?_
 refine za ?_
 refine zW ?_
 refine zW ?_
 refine zn ?_
 refine zb 0 rfl rfl rfl rfl rfl rfl (zD (zl (zx (zm ?_))))
 refine zM ?_
 refine zb 1 rfl rfl rfl rfl rfl rfl ?_
 refine zc (zD (zl (y1 ?_)))
 refine AQ.retCT rfl rfl rfl (by repeat (first | exact List.Mem.head _ | refine List.Mem.tail _ ?_)) (by (dsimp only [List.set, List.cons_append, List.nil_append, List.take, List.drop]; rfl)) rfl ⟨_, List.nil_sublist _, .nil⟩ (⟨rfl, rfl⟩)
end Go.Proofs.YtojomcdjcpmnkaaGreat.By

namespace Go.Proofs.YtojomcdjcpmnkaaGreat.By
open Go.RowKit L A Dk
set_option linter.unusedVariables false
set_option maxRecDepth 20000
set_option linter.unusedSimpArgs false
attribute [local irreducible] AW AQ AO

end Go.Proofs.YtojomcdjcpmnkaaGreat.By

namespace Go.Proofs.YtojomcdjcpmnkaaGreat.By
open Go.RowKit L A Dk
set_option linter.unusedVariables false
set_option maxRecDepth 20000
set_option linter.unusedSimpArgs false
attribute [local irreducible] AW AQ AO

structure Cmp where
 piv : Int
 hasKid : Bool
 kid : List UInt8
 hasCtx : Bool
 ctx : List UInt8
 group : Bool
 deriving DecidableEq
abbrev aggC (c : Cmp) : AV := .agg [.val (.int .i64 c.piv), .val (.bool c.hasKid), roB c.kid, .val (.bool c.hasCtx), roB c.ctx, .val (.bool c.group)]
def ValC (c : Cmp) : Prop := (-1 ≤ c.piv ∧ c.piv ≤ 1099511627775 ∧ (c.kid.length : Int) ≤ 7 ∧ (c.ctx.length : Int) ≤ 16) ∧ (c.hasKid = true ∨ (c.kid.length : Int) = 0) ∧ (c.hasCtx = true ∨ (c.ctx.length : Int) = 0)
instance (c : Cmp) : Decidable (ValC c) := by unfold ValC; infer_instance

set_option maxHeartbeats 2000000 in
theorem cvalid_fn (c : Cmp) : Sp Tryz.prog 160 [aggC c] [] (Is (.val (.bool (decide (ValC c))))) := by
 obtain ⟨piv, hk, kid, hc, ctx, g⟩ := c
 refine yv Tryz.func160 _ Tryz.ntmps160 (fun w0 R0 => ?_)
 refine zx (zm ?_)
 refine ya ?_
 intro B
 refine zc (zD (zl (zx (zx (zm ?_)))))
 refine zn ?_
 refine zo ?_
 refine zH ?_
 refine za ?_
 refine zE ?_
 refine wu ?_
 refine AO.opG rfl rfl rfl (fun hp => yM 8 rfl (by exact hp)) ?_
 refine zB ?_
 refine za ?_
 refine zE ?_
 refine AO.opG rfl rfl rfl (fun hp => zu 12 rfl (by exact hp)) ?_
 refine AO.opG rfl rfl rfl (fun hp => yL 13 rfl (by exact hp)) ?_
 refine AO.opG rfl rfl rfl (fun hp => yM 14 rfl (by exact hp)) ?_
 refine zB ?_
 refine za ?_
 refine zE ?_
 refine AO.opG rfl rfl rfl (fun hp => zu 18 rfl (by exact hp)) ?_
 refine AO.opG rfl rfl rfl (fun hp => yL 19 rfl (by exact hp)) ?_
 refine AO.opG rfl rfl rfl (fun hp => yM 20 rfl (by exact hp)) ?_
 refine zB (zD (zl ?_))
 refine yn (fun h => ?_) (fun h => ?_) <;> (try simp only [wN] at h)
 ·skip
  have e : decide (ValC ⟨piv, hk, kid, hc, ctx, g⟩) = false := decide_eq_false fun hv => by
   obtain ⟨⟨a1, a2, a3, a4⟩, -⟩ := hv
   simp only at *
   omega
  refine zx (zm ?_)
  refine zc (zD (zl (y1 (xi ?_))))
  refine xK rfl rfl ⟨_, List.nil_sublist _, .nil⟩ (⟨congrArg (fun z => AV.val (.bool z)) e.symm, rfl⟩)
 refine yN (zl (zx (zm ?_)))
 refine zn ?_
 refine zo ?_
 refine za ?_
 refine zE ?_
 refine wr ?_
 refine AO.opG rfl rfl rfl (fun hp => yL 27 rfl (by exact hp)) ?_
 refine AO.opG rfl rfl rfl (fun hp => y9 28 rfl (by exact hp)) ?_
 refine zB ?_
 refine za ?_
 refine zE ?_
 refine AO.opG rfl rfl rfl (fun hp => zu 32 rfl (by exact hp)) ?_
 refine AO.opG rfl rfl rfl (fun hp => wL 33 rfl (by exact hp) ze) ?_
 refine zE ?_
 refine AO.opG rfl rfl rfl (fun hp => zu 35 rfl (by exact hp)) ?_
 refine AO.opG rfl rfl rfl (fun hp => yL 36 rfl (by exact hp)) ?_
 refine AO.opG rfl rfl rfl (fun hp => y9 37 rfl (by exact hp)) ?_
 refine AO.opG rfl rfl rfl (fun hp => wL 34 rfl (by exact hp) (O.pickOr rfl rfl rfl rfl (fun h => by simp_all))) ?_
 refine zN ?_
 refine zc (zD (zl (y1 ?_)))
 have e : decide (ValC ⟨piv, hk, kid, hc, ctx, g⟩) = ((hk || ((kid.length : Int) == 0)) && (hc || ((ctx.length : Int) == 0))) := by
  refine dec_eq ?_
  simp only [ValC, decide_eq_true_eq, Bool.and_eq_true, Bool.or_eq_true, beq_iff_eq]
  constructor
  ·exact fun h => h.2
  exact fun h2 => ⟨by omega, h2⟩
 refine xK rfl rfl ⟨_, List.nil_sublist _, .nil⟩ (⟨congrArg (fun z => AV.val (.bool z)) e.symm, rfl⟩)
set_option maxHeartbeats 2000000 in
theorem rcvalid_fn (c : Cmp) : Sp Tryz.prog 73 [aggC c] [] (Is (.val (.bool (decide (ValC c))))) := by
 obtain ⟨piv, hk, kid, hc, ctx, g⟩ := c
 refine yv Tryz.func73 _ Tryz.ntmps73 (fun w0 R0 => ?_)
 refine zx (zm ?_)
 refine ya ?_
 intro B
 refine zc (zD (zl (zx (zm ?_))))
 refine zn ?_
 refine zo ?_
 refine xR ?_
 refine za ?_
 refine zE ?_
 refine wu ?_
 refine AO.opG rfl rfl rfl (fun hp => xn 8 rfl (by exact hp)) ?_
 refine zN ?_
 refine za ?_
 refine zE ?_
 refine AO.opG rfl rfl rfl (fun hp => zu 12 rfl (by exact hp)) ?_
 refine AO.opG rfl rfl rfl (fun hp => yL 13 rfl (by exact hp)) ?_
 refine AO.opG rfl rfl rfl (fun hp => xn 14 rfl (by exact hp)) ?_
 refine zN ?_
 refine za ?_
 refine zE ?_
 refine AO.opG rfl rfl rfl (fun hp => zu 18 rfl (by exact hp)) ?_
 refine AO.opG rfl rfl rfl (fun hp => wL 19 rfl (by exact hp) ze) ?_
 refine zE ?_
 refine AO.opG rfl rfl rfl (fun hp => zu 21 rfl (by exact hp)) ?_
 refine AO.opG rfl rfl rfl (fun hp => yL 22 rfl (by exact hp)) ?_
 refine AO.opG rfl rfl rfl (fun hp => y9 23 rfl (by exact hp)) ?_
 refine AO.opG rfl rfl rfl (fun hp => wL 20 rfl (by exact hp) (O.pickOr rfl rfl rfl rfl (fun h => by simp_all))) ?_
 refine zN ?_
 refine za ?_
 refine zE ?_
 refine AO.opG rfl rfl rfl (fun hp => zu 28 rfl (by exact hp)) ?_
 refine AO.opG rfl rfl rfl (fun hp => yL 29 rfl (by exact hp)) ?_
 refine AO.opG rfl rfl rfl (fun hp => xn 30 rfl (by exact hp)) ?_
 refine zN ?_
 refine za ?_
 refine zE ?_
 refine AO.opG rfl rfl rfl (fun hp => zu 34 rfl (by exact hp)) ?_
 refine AO.opG rfl rfl rfl (fun hp => wL 35 rfl (by exact hp) ze) ?_
 refine zE ?_
 refine AO.opG rfl rfl rfl (fun hp => zu 37 rfl (by exact hp)) ?_
 refine AO.opG rfl rfl rfl (fun hp => yL 38 rfl (by exact hp)) ?_
 refine AO.opG rfl rfl rfl (fun hp => y9 39 rfl (by exact hp)) ?_
 refine AO.opG rfl rfl rfl (fun hp => wL 36 rfl (by exact hp) (O.pickOr rfl rfl rfl rfl (fun h => by simp_all))) ?_
 refine zN ?_
 refine zc (zD (zl (y1 ?_)))
 have e : decide (ValC ⟨piv, hk, kid, hc, ctx, g⟩) = (decide (-1 ≤ piv) && decide (piv ≤ 1099511627775) && decide ((kid.length : Int) ≤ 7) && (hk || ((kid.length : Int) == 0)) && decide ((ctx.length : Int) ≤ 16) && (hc || ((ctx.length : Int) == 0))) := by
  refine dec_eq ?_
  simp only [ValC, decide_eq_true_eq, Bool.and_eq_true, Bool.or_eq_true, beq_iff_eq]
  constructor
  ·exact fun h => ⟨⟨⟨⟨⟨h.1.1, h.1.2.1⟩, h.1.2.2.1⟩, h.2.1⟩, h.1.2.2.2⟩, h.2.2⟩
  exact fun h => ⟨⟨h.1.1.1.1.1, h.1.1.1.1.2, h.1.1.1.2, h.1.2⟩, h.1.1.2, h.2⟩
 refine xK rfl rfl ⟨_, List.nil_sublist _, .nil⟩ (⟨congrArg (fun z => AV.val (.bool z)) e.symm, rfl⟩)

def flg (c : Cmp) : Int := (pivB c.piv).length + (if c.hasKid then 8 else 0) + (if c.hasCtx then 16 else 0) + (if c.group then 32 else 0)
def encB (c : Cmp) : List UInt8 := u8 (flg c) :: pivB c.piv ++ (if c.hasCtx then u8 c.ctx.length :: c.ctx else []) ++ c.kid
def encC (c : Cmp) : List UInt8 × Int := if ¬ ValC c then ([], 1) else if flg c = 0 then ([], 0) else (encB c, 0)
theorem flg_le {c : Cmp} (h : ValC c) : 0 ≤ flg c ∧ flg c ≤ 61 := by
 have := pivB_len c.piv
 unfold flg
 (repeat' split) <;> omega

set_option maxHeartbeats 4000000 in
theorem cencode_fn (c : Cmp) : Sp Tryz.prog 117 [aggC c] [] (Is (.tup [roB (encC c).1, .val (.int .i64 (encC c).2)])) := by
 have hfl := flg_le (c := c)
 have hpl := pivB_len c.piv
 obtain ⟨piv, hk, kid, hc, ctx, g⟩ := c
 refine yv Tryz.func117 _ Tryz.ntmps117 (fun w0 R0 => ?_)
 refine zx (zm ?_)
 refine ya ?_
 intro B
 refine zc ?_
 refine zc (zD (zl (zx (zx (zm ?_)))))
 refine wa ?_
 refine wI (xl rfl Tryz.func160 rfl rfl rfl (cvalid_fn ⟨_, _, _, _, _, _⟩)) ?_
 refine xu (zD (zl ?_))
 refine yn (fun h => ?_) (fun h => ?_) <;> (try simp only [wN] at h)
 ·skip
  have e : encC ⟨piv, hk, kid, hc, ctx, g⟩ = ([], 1) := by unfold encC; rw [if_pos h]
  rw [e]
  refine zx (zm ?_)
  refine zc ?_
  refine zc (zD (zl (y1 (xi ?_))))
  refine AQ.g ?_
  refine G.nilRo 2 rfl ?_
  refine AQ.u ?_
  try dsimp only [List.map, List.eraseIdx, List.cons_append, List.nil_append]
  refine AQ.ret2 rfl rfl rfl ⟨_, List.nil_sublist _, .nil⟩ (⟨rfl, rfl⟩)
 have hfl := hfl h
 have e : encC ⟨piv, hk, kid, hc, ctx, g⟩ = if flg ⟨piv, hk, kid, hc, ctx, g⟩ = 0 then ([], 0) else (encB ⟨piv, hk, kid, hc, ctx, g⟩, 0) := by unfold encC; rw [if_neg (by simpa using h)]
 rw [e]
 obtain ⟨⟨a1, a2, a3, a4⟩, -⟩ := h
 simp only at *
 obtain ⟨n, hn⟩ : ∃ n : Int, n = (pivB piv).length := ⟨_, rfl⟩
 have hu := u8_small (x := ((pivB piv).length : Int)) (by omega)
 rw [← hn] at hu
 refine yN (zl (zx (zm ?_)))
 refine zn ?_
 refine zo ?_
 refine wI (xl rfl Tryz.func112 rfl rfl rfl (bytes_fn _)) ?_
 refine zc (zD (zl (zx (zm ?_))))
 refine za ?_
 refine zZ ?_
 refine yA ?_
 refine zc (zD (zl (zx (zx (zm ?_)))))
 refine zn ?_
 refine zo (zD (zl ?_))
 simp only [hu, ← hn]
 refine xv True [(1, _), (4, _)] [(5, .val (.int .u8 (bif hk then n + 8 else n)))] [.blk B 52 6 [.val (.int .i64 piv), .val (.bool hk), roB kid, .val (.bool hc), roB ctx, .val (.bool g)]] (fun hb => ?_) (fun hb => ?_) (fun hj => ?_) <;> try (try simp only [wN] at hb)
 ·skip
  subst hb
  refine zm ?_
  refine za ?_
  refine wI (O.or_ rfl rfl rfl (orLU8 3 (m := 8) (by decide) (by omega) (by omega))) ?_
  refine zc (zD ?_)
  refine zR
 ·skip
  subst hb
  refine yN ?_
  refine zR
 dsimp only [List.cons_append, List.nil_append]
 refine zl ?_
 obtain ⟨n1, hn1⟩ : ∃ n1 : Int, n1 = bif hk then n + 8 else n := ⟨_, rfl⟩
 have b1 : 0 ≤ n1 ∧ n1 ≤ 13 := by rw [hn1]; cases hk <;> simp <;> omega
 rw [← hn1]
 refine zx (zx (zm ?_))
 refine zn ?_
 refine zo (zD (zl ?_))
 refine xv True [(1, _), (4, _)] [(5, .val (.int .u8 (bif hc then n1 + 16 else n1)))] [.blk B 52 6 [.val (.int .i64 piv), .val (.bool hk), roB kid, .val (.bool hc), roB ctx, .val (.bool g)]] (fun hb => ?_) (fun hb => ?_) (fun hj => ?_) <;> try (try simp only [wN] at hb)
 ·skip
  subst hb
  refine zm ?_
  refine za ?_
  refine wI (O.or_ rfl rfl rfl (orLU8 4 (m := 16) (by decide) (by omega) (by omega))) ?_
  refine zc (zD ?_)
  refine zR
 ·skip
  subst hb
  refine yN ?_
  refine zR
 dsimp only [List.cons_append, List.nil_append]
 refine zl ?_
 obtain ⟨n2, hn2⟩ : ∃ n2 : Int, n2 = bif hc then n1 + 16 else n1 := ⟨_, rfl⟩
 have b2 : 0 ≤ n2 ∧ n2 ≤ 29 := by rw [hn2]; cases hc <;> simp <;> omega
 rw [← hn2]
 refine zx (zx (zm ?_))
 refine zn ?_
 refine zo (zD (zl ?_))
 refine xv True [(1, _), (4, _)] [(5, .val (.int .u8 (bif g then n2 + 32 else n2)))] [.blk B 52 6 [.val (.int .i64 piv), .val (.bool hk), roB kid, .val (.bool hc), roB ctx, .val (.bool g)]] (fun hb => ?_) (fun hb => ?_) (fun hj => ?_) <;> try (try simp only [wN] at hb)
 ·skip
  subst hb
  refine zm ?_
  refine za ?_
  refine wI (O.or_ rfl rfl rfl (orLU8 5 (m := 32) (by decide) (by omega) (by omega))) ?_
  refine zc (zD ?_)
  refine zR
 ·skip
  subst hb
  refine yN ?_
  refine zR
 dsimp only [List.cons_append, List.nil_append]
 refine zl ?_
 have hf : (bif g then n2 + 32 else n2) = flg ⟨piv, hk, kid, hc, ctx, g⟩ := by
  rw [hn2, hn1, hn]; unfold flg; cases hk <;> cases hc <;> cases g <;> simp
 rw [hf]
 obtain ⟨f, hfd⟩ : ∃ f, f = flg ⟨piv, hk, kid, hc, ctx, g⟩ := ⟨_, rfl⟩
 rw [← hfd] at hfl ⊢
 refine zx (zx (zm ?_))
 refine za ?_
 refine yd (zD (zl ?_))
 refine yn (fun hz => ?_) (fun hz => ?_) <;> (try simp only [wN] at hz)
 ·skip
  rw [if_pos hz]
  refine zx (zm ?_)
  refine zc ?_
  refine zc (zD (zl (y1 (xi ?_))))
  refine AQ.g ?_
  refine G.nilRo 2 rfl ?_
  refine AQ.u ?_
  try dsimp only [List.map, List.eraseIdx, List.cons_append, List.nil_append]
  refine AQ.ret2 rfl rfl rfl ⟨_, List.nil_sublist _, .nil⟩ (⟨rfl, rfl⟩)
 have hfu := u8_small (x := f) (by omega)
 rw [if_neg hz]
 refine yN (zl (zx (zm ?_)))
 refine za ?_
 refine zK ?_
 intro B
 refine AO.g ?_
 refine G.closeRow (b := B) (n := 1) (cap := 1) 0 rfl rfl rfl (Nat.le_refl _) (by (unfold maxLen; omega)) ?_
 refine AO.u ?_
 dsimp only [List.set]
 refine za ?_
 refine zq 0 rfl rfl rfl rfl (by rfl) (by rfl) rfl rfl rfl (by exact SrcA.ro TyD.ax (by (simp; done)) (Nat.le_of_ble_eq_true rfl)) (by (simp [AV.cells, AV.one, *]; done)) (by (unfold maxLen; omega)) ?_
 intro V hV
 refine zc (zD (zl (zx (zx (zm ?_)))))
 refine zn ?_
 refine zp (zD (zl ?_))
 have hfu2 : (f : Int) = ((u8 f).toNat : Int) := hfu.symm
 have e2 : encB ⟨piv, hk, kid, hc, ctx, g⟩ = u8 f :: pivB piv ++ (if hc then u8 ctx.length :: ctx else []) ++ kid := by unfold encB; rw [← hfd]
 rw [e2]
 refine yn (fun hb => ?_) (fun hb => ?_)
 ·skip
  subst hb
  have hu2 := u8_small (x := (ctx.length : Int)) (by omega)
  refine AW.regionM [(0, false), (1, false), (2, false), (3, false), (4, false), (5, false), (7, false), (8, false), (6, true), (9, true), (10, true)] (by kernel_rfl) (by kernel_rfl) (by exact (by exact splitRow 6 0 rfl rfl splitNil)) ?_
  dsimp only [List.eraseIdx]
  refine xo ?_
  refine xP ?_
  refine x3 ?_
  refine wM rfl (xH rfl rfl) ?_
  refine wM rfl (O.conv rfl rfl wU8any) ?_
  refine wM rfl (OpW.frz (z7 rfl rfl rfl) (by (unfold maxLen; omega))) ?_
  refine xP ?_
  refine x3 ?_
  refine wk _ (fun w0 R0 => ?_)
  refine zq 0 rfl rfl rfl rfl (by rfl) (by rfl) rfl rfl rfl (by exact SrcA.ro TyD.ax (by rfl) (Nat.le_of_ble_eq_true rfl)) (by rfl) (by (unfold maxLen; omega)) ?_
  intro V hV
  refine AM.ok ?_
  dsimp only [putE]
  refine wk _ (fun w0 R0 => ?_)
  refine zq 0 rfl rfl rfl rfl (by rfl) (by rfl) rfl rfl rfl (by exact SrcA.ro TyD.ax (by (simp; done)) (Nat.le_of_ble_eq_true rfl)) (by (simp [AV.cells, AV.one, *]; done)) (by (unfold maxLen; omega)) ?_
  intro V hV
  refine AM.ok ?_
  dsimp only [putE]
  refine wk _ (fun w0 R0 => ?_)
  refine zc ?_
  refine AM.ok ?_
  dsimp only [putE]
  refine AM.nil ?_
  dsimp only [List.cons_append, List.nil_append]
  refine zl (zx (zm ?_))
  refine za ?_
  refine zn ?_
  refine zp ?_
  refine zq 0 rfl rfl rfl rfl (by rfl) (by rfl) rfl rfl rfl (by exact SrcA.ro TyD.ax (by (simp; done)) (Nat.le_of_ble_eq_true rfl)) (by (simp [AV.cells, AV.one, *]; done)) (by (unfold maxLen; omega)) ?_
  intro V hV
  refine zc ?_
  refine zc (zD (zl (y1 ?_)))
  refine AQ.g ?_
  refine z6 0 [2] ?_
  refine AQ.u ?_
  try dsimp only [List.map, List.eraseIdx, List.cons_append, List.nil_append]
  refine AQ.ret2 rfl rfl rfl ⟨_, List.nil_sublist _, .nil⟩ (⟨congrArg (fun z => AV.tup [z, .val (.int .i64 0)]) (roB_of (by simp; omega) (by simp [bytesA, hfu, hu2])), rfl⟩)
 subst hb
 refine yN (zl (zx (zm ?_)))
 refine za ?_
 refine zn ?_
 refine zp ?_
 refine zq 0 rfl rfl rfl rfl (by rfl) (by rfl) rfl rfl rfl (by exact SrcA.ro TyD.ax (by (simp; done)) (Nat.le_of_ble_eq_true rfl)) (by (simp [AV.cells, AV.one, *]; done)) (by (unfold maxLen; omega)) ?_
 intro V hV
 refine zc ?_
 refine zc (zD (zl (y1 ?_)))
 refine AQ.g ?_
 refine z6 0 [2] ?_
 refine AQ.u ?_
 try dsimp only [List.map, List.eraseIdx, List.cons_append, List.nil_append]
 refine AQ.ret2 rfl rfl rfl ⟨_, List.nil_sublist _, .nil⟩ (⟨congrArg (fun z => AV.tup [z, .val (.int .i64 0)]) (roB_of (by simp; omega) (by simp [bytesA, hfu])), rfl⟩)
end Go.Proofs.YtojomcdjcpmnkaaGreat.By

namespace Go.Proofs.YtojomcdjcpmnkaaGreat.By
open Go.RowKit L A Dk
set_option linter.unusedVariables false
set_option maxRecDepth 20000
set_option linter.unusedSimpArgs false
attribute [local irreducible] AW AQ AO

theorem beGo_pos_len : ∀ (n : Nat) (out : List UInt8), out ≠ [] → beGo n out ≠ [] := by
 intro n
 induction n using Nat.strongRecOn with
 | _ n ih =>
  intro out h
  by_cases h0 : n = 0
  ·subst h0; rw [beGo_zero]; exact h
  rw [beGo_pos h0]; exact ih _ (Nat.div_lt_self (by omega) (by omega)) _ (by simp)
theorem pivB_nil {n : Int} (h : n ≤ 1099511627775) : (pivB n).length = 0 ↔ n < 0 := by
 unfold pivB
 split
 ·simp; omega
 have := beGo_pos_len (n.toNat / 256) [u8 n] (by simp)
 constructor
 ·intro h; exact absurd (List.eq_nil_of_length_eq_zero h) this
 intro h; omega

set_option maxHeartbeats 4000000 in
theorem rcencode_fn (c : Cmp) : Sp Tryz.prog 23 [aggC c] [] (Is (.tup [roB (encC c).1, .val (.int .i64 (encC c).2)])) := by
 have hfl := flg_le (c := c)
 have hpl := pivB_len c.piv
 obtain ⟨piv, hk, kid, hc, ctx, g⟩ := c
 refine yv Tryz.func23 _ Tryz.ntmps23 (fun w0 R0 => ?_)
 refine zx (zm ?_)
 refine ya ?_
 intro B
 refine zc ?_
 refine zc (zD (zl (zx (zx (zm ?_)))))
 refine wa ?_
 refine wI (xl rfl Tryz.func73 rfl rfl rfl (rcvalid_fn ⟨_, _, _, _, _, _⟩)) ?_
 refine xu (zD (zl ?_))
 refine yn (fun h => ?_) (fun h => ?_) <;> (try simp only [wN] at h)
 ·skip
  have e : encC ⟨piv, hk, kid, hc, ctx, g⟩ = ([], 1) := by unfold encC; rw [if_pos h]
  rw [e]
  refine zx (zm ?_)
  refine zc ?_
  refine zc (zD (zl (y1 (xi ?_))))
  refine AQ.g ?_
  refine G.nilRo 2 rfl ?_
  refine AQ.u ?_
  try dsimp only [List.map, List.eraseIdx, List.cons_append, List.nil_append]
  refine AQ.ret2 rfl rfl rfl ⟨_, List.nil_sublist _, .nil⟩ (⟨rfl, rfl⟩)
 have hfl := hfl h
 have e : encC ⟨piv, hk, kid, hc, ctx, g⟩ = if flg ⟨piv, hk, kid, hc, ctx, g⟩ = 0 then ([], 0) else (encB ⟨piv, hk, kid, hc, ctx, g⟩, 0) := by unfold encC; rw [if_neg (by simpa using h)]
 rw [e]
 obtain ⟨⟨a1, a2, a3, a4⟩, -⟩ := h
 simp only at *
 have hnil := pivB_nil a2
 have hnil' : pivB piv = [] ↔ piv < 0 := by rw [← List.length_eq_zero_iff]; exact hnil
 have hz0 : flg ⟨piv, hk, kid, hc, ctx, g⟩ = 0 ↔ (piv = -1 ∧ hk = false ∧ hc = false ∧ g = false) := by
  unfold flg
  cases hk <;> cases hc <;> cases g <;> simp [hnil'] <;> omega
 refine yN (zl (zx (zx (zm ?_))))
 refine zn ?_
 refine zo ?_
 refine yd ?_
 refine za ?_
 refine zE ?_
 refine wn ?_
 refine AO.opG rfl rfl rfl (fun hp => xX 15 rfl (by exact hp)) ?_
 refine zN ?_
 refine za ?_
 refine zE ?_
 refine wo ?_
 refine AO.opG rfl rfl rfl (fun hp => xX 20 rfl (by exact hp)) ?_
 refine zN ?_
 refine za ?_
 refine zE ?_
 refine AO.opG rfl rfl rfl (fun hp => zu 24 rfl (by exact hp)) ?_
 refine AO.opG rfl rfl rfl (fun hp => xX 25 rfl (by exact hp)) ?_
 refine zN (zD (zl ?_))
 refine yn (fun hz => ?_) (fun hz => ?_)
 ·skip
  have hz : flg ⟨piv, hk, kid, hc, ctx, g⟩ = 0 := hz0.2 (by simpa [and_assoc] using hz)
  rw [if_pos hz]
  refine zx (zm ?_)
  refine zc ?_
  refine zc (zD (zl (y1 (xi ?_))))
  refine AQ.g ?_
  refine G.nilRo 2 rfl ?_
  refine AQ.u ?_
  try dsimp only [List.map, List.eraseIdx, List.cons_append, List.nil_append]
  refine AQ.ret2 rfl rfl rfl ⟨_, List.nil_sublist _, .nil⟩ (⟨rfl, rfl⟩)
 have hz : ¬ flg ⟨piv, hk, kid, hc, ctx, g⟩ = 0 := fun e => by
  obtain ⟨rfl, rfl, rfl, rfl⟩ := hz0.1 e
  simp at hz
 rw [if_neg hz]
 obtain ⟨n, hn⟩ : ∃ n : Int, n = (pivB piv).length := ⟨_, rfl⟩
 refine yN (zl (zx (zm ?_)))
 refine zn ?_
 refine zo ?_
 refine wI (xl rfl Tryz.func74 rfl rfl rfl (rbytes_fn _)) ?_
 refine zc (zD (zl (zx (zm ?_))))
 refine za ?_
 refine zZ ?_
 refine zc (zD (zl (zx (zx (zm ?_)))))
 refine zn ?_
 refine zo (zD (zl ?_))
 simp only [← hn]
 refine xv True [(1, _), (4, _)] [(5, .val (.int .i64 (bif hk then n + 8 else n)))] [.blk B 52 6 [.val (.int .i64 piv), .val (.bool hk), roB kid, .val (.bool hc), roB ctx, .val (.bool g)]] (fun hb => ?_) (fun hb => ?_) (fun hj => ?_) <;> try (try simp only [wN] at hb)
 ·skip
  subst hb
  refine zm ?_
  refine za ?_
  refine zr ?_
  refine zc (zD ?_)
  refine zR
 ·skip
  subst hb
  refine yN ?_
  refine zR
 dsimp only [List.cons_append, List.nil_append]
 refine zl ?_
 obtain ⟨n1, hn1⟩ : ∃ n1 : Int, n1 = bif hk then n + 8 else n := ⟨_, rfl⟩
 have b1 : 0 ≤ n1 ∧ n1 ≤ 13 := by rw [hn1]; cases hk <;> simp <;> omega
 rw [← hn1]
 refine zx (zx (zm ?_))
 refine zn ?_
 refine zo (zD (zl ?_))
 refine xv True [(1, _), (4, _)] [(5, .val (.int .i64 (bif hc then n1 + 16 else n1)))] [.blk B 52 6 [.val (.int .i64 piv), .val (.bool hk), roB kid, .val (.bool hc), roB ctx, .val (.bool g)]] (fun hb => ?_) (fun hb => ?_) (fun hj => ?_) <;> try (try simp only [wN] at hb)
 ·skip
  subst hb
  refine zm ?_
  refine za ?_
  refine zr ?_
  refine zc (zD ?_)
  refine zR
 ·skip
  subst hb
  refine yN ?_
  refine zR
 dsimp only [List.cons_append, List.nil_append]
 refine zl ?_
 obtain ⟨n2, hn2⟩ : ∃ n2 : Int, n2 = bif hc then n1 + 16 else n1 := ⟨_, rfl⟩
 have b2 : 0 ≤ n2 ∧ n2 ≤ 29 := by rw [hn2]; cases hc <;> simp <;> omega
 rw [← hn2]
 refine zx (zx (zm ?_))
 refine zn ?_
 refine zo (zD (zl ?_))
 refine xv True [(1, _), (4, _)] [(5, .val (.int .i64 (bif g then n2 + 32 else n2)))] [.blk B 52 6 [.val (.int .i64 piv), .val (.bool hk), roB kid, .val (.bool hc), roB ctx, .val (.bool g)]] (fun hb => ?_) (fun hb => ?_) (fun hj => ?_) <;> try (try simp only [wN] at hb)
 ·skip
  subst hb
  refine zm ?_
  refine za ?_
  refine zr ?_
  refine zc (zD ?_)
  refine zR
 ·skip
  subst hb
  refine yN ?_
  refine zR
 dsimp only [List.cons_append, List.nil_append]
 refine zl ?_
 have hf : (bif g then n2 + 32 else n2) = flg ⟨piv, hk, kid, hc, ctx, g⟩ := by
  rw [hn2, hn1, hn]; unfold flg; cases hk <;> cases hc <;> cases g <;> simp
 rw [hf]
 have e2 : encB ⟨piv, hk, kid, hc, ctx, g⟩ = u8 (flg ⟨piv, hk, kid, hc, ctx, g⟩) :: pivB piv ++ (if hc then u8 ctx.length :: ctx else []) ++ kid := rfl
 rw [e2]
 obtain ⟨f, hfd⟩ : ∃ f, f = flg ⟨piv, hk, kid, hc, ctx, g⟩ := ⟨_, rfl⟩
 rw [← hfd] at hfl ⊢
 refine zx (zm ?_)
 refine za ?_
 refine yA ?_
 refine zK ?_
 intro B
 refine AO.g ?_
 refine G.closeRow (b := B) (n := 1) (cap := 1) 0 rfl rfl rfl (Nat.le_refl _) (by (unfold maxLen; omega)) ?_
 refine AO.u ?_
 dsimp only [List.set]
 refine za ?_
 refine zq 0 rfl rfl rfl rfl (by rfl) (by rfl) rfl rfl rfl (by exact SrcA.ro TyD.ax (by (simp; done)) (Nat.le_of_ble_eq_true rfl)) (by (simp [AV.cells, AV.one, *]; done)) (by (unfold maxLen; omega)) ?_
 intro V hV
 refine zc (zD (zl (zx (zx (zm ?_)))))
 refine zn ?_
 refine zp (zD (zl ?_))
 refine yn (fun hb => ?_) (fun hb => ?_)
 ·skip
  subst hb
  refine zx (zm ?_)
  refine za ?_
  refine zn ?_
  refine zp ?_
  refine zZ ?_
  refine yA ?_
  refine zK ?_
  intro B
  refine AO.g ?_
  refine wB 0 57 rfl rfl ⟨Nat.le_refl _, by unfold maxLen; omega⟩ ?_
  refine xF 57 ?_
  refine AO.u ?_
  dsimp only [List.eraseIdx]
  refine zq 0 rfl rfl rfl rfl (by rfl) (by rfl) rfl rfl rfl (by exact SrcA.ro TyD.ax (by rfl) (Nat.le_of_ble_eq_true rfl)) (by rfl) (by (unfold maxLen; omega)) ?_
  intro V hV
  refine zc (zD (zl (zm ?_)))
  refine za ?_
  refine zn ?_
  refine zp ?_
  refine zq 0 rfl rfl rfl rfl (by rfl) (by rfl) rfl rfl rfl (by exact SrcA.ro TyD.ax (by (simp; done)) (Nat.le_of_ble_eq_true rfl)) (by (simp [AV.cells, AV.one, *]; done)) (by (unfold maxLen; omega)) ?_
  intro V hV
  refine zc (zD (zl (zx (zm ?_))))
  refine za ?_
  refine zn ?_
  refine zp ?_
  refine zq 0 rfl rfl rfl rfl (by rfl) (by rfl) rfl rfl rfl (by exact SrcA.ro TyD.ax (by (simp; done)) (Nat.le_of_ble_eq_true rfl)) (by (simp [AV.cells, AV.one, *]; done)) (by (unfold maxLen; omega)) ?_
  intro V hV
  refine zc ?_
  refine zc (zD (zl (y1 ?_)))
  refine AQ.g ?_
  refine z6 0 [2] ?_
  refine AQ.u ?_
  try dsimp only [List.map, List.eraseIdx, List.cons_append, List.nil_append]
  refine AQ.ret2 rfl rfl rfl ⟨_, List.nil_sublist _, .nil⟩ (⟨congrArg (fun z => AV.tup [z, .val (.int .i64 0)]) (roB_of (by simp; omega) (by simp [bytesA])), rfl⟩)
 subst hb
 refine yN (zl (zx (zm ?_)))
 refine za ?_
 refine zn ?_
 refine zp ?_
 refine zq 0 rfl rfl rfl rfl (by rfl) (by rfl) rfl rfl rfl (by exact SrcA.ro TyD.ax (by (simp; done)) (Nat.le_of_ble_eq_true rfl)) (by (simp [AV.cells, AV.one, *]; done)) (by (unfold maxLen; omega)) ?_
 intro V hV
 refine zc ?_
 refine zc (zD (zl (y1 ?_)))
 refine AQ.g ?_
 refine z6 0 [2] ?_
 refine AQ.u ?_
 try dsimp only [List.map, List.eraseIdx, List.cons_append, List.nil_append]
 refine AQ.ret2 rfl rfl rfl ⟨_, List.nil_sublist _, .nil⟩ (⟨congrArg (fun z => AV.tup [z, .val (.int .i64 0)]) (roB_of (by simp; omega) (by simp [bytesA])), rfl⟩)

end Go.Proofs.YtojomcdjcpmnkaaGreat.By

namespace Go.Proofs.YtojomcdjcpmnkaaGreat.By
open Go.RowKit L A Dk
set_option linter.unusedVariables false
set_option maxRecDepth 20000
set_option linter.unusedSimpArgs false
attribute [local irreducible] AW AQ AO

def Cmp.zero : Cmp := ⟨0, false, [], false, [], false⟩
end Go.Proofs.YtojomcdjcpmnkaaGreat.By

namespace Go.Proofs.YtojomcdjcpmnkaaGreat.By
open Go.RowKit L A
set_option linter.unusedVariables false
set_option maxRecDepth 20000
set_option linter.unusedSimpArgs false
attribute [local irreducible] AW AQ AO
theorem opt_ext : ∀ {x y : Opt}, x.num = y.num → x.val = y.val → x = y
 | ⟨_, _⟩, ⟨_, _⟩, rfl, rfl => rfl
theorem opts_eq {a b : List Opt} (h : a.length = b.length) (h2 : ∀ k, k < a.length → oat a k = oat b k) : a = b := by
 refine List.ext_getElem h fun k h3 h4 => ?_
 have := h2 k h3
 simpa [oat, h3, h4] using this
set_option maxHeartbeats 4000000 in
theorem same_fn (a b : Msg) (h0 : a.opts.length ≤ 140737488355328) : Sp Tryz.prog 18 [aggM a, aggM b] [] (Is (.val (.bool (decide (a = b))))) := by
 refine yv Tryz.func18 _ Tryz.ntmps18 (fun w0 R0 => ?_)
 refine zx (zm ?_)
 refine ya ?_
 intro B1
 refine ya ?_
 intro B2
 refine zc (zD (zl (zx (zx (zm ?_)))))
 refine zn ?_
 refine zp ?_
 refine zn ?_
 refine zo ?_
 refine yX ?_
 refine za ?_
 refine zE ?_
 refine AO.opG rfl rfl rfl (fun hp => yy 13 rfl (by exact hp)) ?_
 refine zE ?_
 refine AO.opG rfl rfl rfl (fun hp => zu 15 rfl (by exact hp)) ?_
 refine AO.opG rfl rfl rfl (fun hp => wL 14 rfl (by exact hp) (xO 16 rfl (by exact hp))) ?_
 refine zB ?_
 refine za ?_
 refine zE ?_
 refine AO.opG rfl rfl rfl (fun hp => yy 20 rfl (by exact hp)) ?_
 refine zE ?_
 refine AO.opG rfl rfl rfl (fun hp => zu 22 rfl (by exact hp)) ?_
 refine AO.opG rfl rfl rfl (fun hp => wL 21 rfl (by exact hp) (xO 23 rfl (by exact hp))) ?_
 refine zB ?_
 refine za ?_
 refine zE ?_
 refine AO.opG rfl rfl rfl (fun hp => yy 27 rfl (by exact hp)) ?_
 refine AO.opG rfl rfl rfl (fun hp => wL 28 rfl (by exact hp) (O.convS rfl rfl (by rfl))) ?_
 refine zE ?_
 refine AO.opG rfl rfl rfl (fun hp => zu 30 rfl (by exact hp)) ?_
 refine AO.opG rfl rfl rfl (fun hp => wL 31 rfl (by exact hp) (O.convS rfl rfl (by rfl))) ?_
 refine AO.opG rfl rfl rfl (fun hp => wL 29 rfl (by exact hp) (wL 32 rfl (by exact hp) (O.neqS rfl rfl rfl (by rfl)))) ?_
 refine zB ?_
 refine za ?_
 refine zE ?_
 refine AO.opG rfl rfl rfl (fun hp => yy 36 rfl (by exact hp)) ?_
 refine AO.opG rfl rfl rfl (fun hp => wL 37 rfl (by exact hp) (O.convS rfl rfl (by rfl))) ?_
 refine zE ?_
 refine AO.opG rfl rfl rfl (fun hp => zu 39 rfl (by exact hp)) ?_
 refine AO.opG rfl rfl rfl (fun hp => wL 40 rfl (by exact hp) (O.convS rfl rfl (by rfl))) ?_
 refine AO.opG rfl rfl rfl (fun hp => wL 38 rfl (by exact hp) (wL 41 rfl (by exact hp) (O.neqS rfl rfl rfl (by rfl)))) ?_
 refine zB ?_
 refine za ?_
 refine zE ?_
 refine AO.opG rfl rfl rfl (fun hp => yy 45 rfl (by exact hp)) ?_
 refine AO.opG rfl rfl rfl (fun hp => yL 46 rfl (by exact hp)) ?_
 refine zE ?_
 refine wq ?_
 refine AO.opG rfl rfl rfl (fun hp => yL 49 rfl (by exact hp)) ?_
 refine AO.opG rfl rfl rfl (fun hp => wL 47 rfl (by exact hp) (xO 50 rfl (by exact hp))) ?_
 refine zB (zD (zl ?_))
 refine yn (fun h => ?_) (fun h => ?_) <;> (try simp only [wN] at h)
 ·skip
  have e : decide (a = b) = false := decide_eq_false fun e => by subst e; simp at h
  refine zx (zm ?_)
  refine zc (zD (zl (y1 (xi ?_))))
  refine xK rfl rfl ⟨_, List.nil_sublist _, .nil⟩ (⟨congrArg (fun z => AV.val (.bool z)) e.symm, rfl⟩)
 have hl : a.opts.length = b.opts.length := by omega
 refine yN (zl (zx (zx (zm ?_))))
 refine zn ?_
 refine zp ?_
 refine zZ ?_
 refine za (zD (zl (yS ?_)))
 refine zg [(3, _), (54, _), (55, _)] (fun nn E H => ∃ (k : Nat), (k ≤ a.opts.length) ∧ ((∀ i, i < k → oat a.opts i = oat b.opts i)) ∧ nn = a.opts.length - k ∧ E = [(56, .val (.int .i64 (k : Int)))] ∧ H = [.blk B2 29 6 [.val (.int .i64 b.ty), .val (.int .i64 b.code), .val (.int .i64 b.id), roB b.tok, roO b.opts, roB b.pay], .blk B1 29 6 [.val (.int .i64 a.ty), .val (.int .i64 a.code), .val (.int .i64 a.id), roB a.tok, roO a.opts, roB a.pay]]) _ (⟨0, by omega, fun i hi => absurd hi (by omega), rfl, rfl, rfl⟩) ?_
 rintro nn E H ⟨k, h4, ha, rfl, rfl, rfl⟩
 dsimp only [List.cons_append, List.nil_append]
 refine zx (zm ?_)
 refine zH (zD (zl (zx ?_)))
 refine yn (fun h5 => ?_) (fun h5 => ?_) <;> (try simp only [wN] at h5)
 ·skip
  have hk : k < a.opts.length := by omega
  have hk2 : k < b.opts.length := by omega
  refine yN (zl (zx (yS (zx (zm ?_)))))
  refine za ?_
  refine yh ?_
  refine y0 ?_
  refine zd ?_
  intro B3
  refine zc ?_
  refine zb 0 rfl rfl rfl rfl rfl rfl (zD (zl (zx ?_)))
  refine yj 22 ?_
  simp only [List.take_succ_cons, List.take_zero, List.drop_succ_cons, List.drop_zero]
  refine yw ?_
  refine yq ?_
  refine yw ?_
  refine zU ?_
  refine zv ?_
  refine xx ?_
  refine wJ (O.fieldAddrR rfl rfl) ?_
  refine wJ (O.loadR rfl rfl (by exact getOn (by omega) (by omega))) ?_
  refine wJ y6 ?_
  refine zv ?_
  refine FA.opG rfl rfl rfl rfl (fun hp => zT rfl rfl) ?_
  refine FA.opG rfl rfl rfl rfl (fun hp => zu 71 rfl (by exact hp)) ?_
  refine FA.opG rfl rfl rfl rfl (fun hp => wL 72 rfl (by exact hp) (O.convS rfl rfl (by rfl))) ?_
  refine FA.opG rfl rfl rfl rfl (fun hp => zT rfl rfl) ?_
  refine FA.opG rfl rfl rfl rfl (fun hp => yy 74 rfl (by exact hp)) ?_
  refine FA.opG rfl rfl rfl rfl (fun hp => ze) ?_
  refine FA.opG rfl rfl rfl rfl (fun hp => wL 75 rfl (by exact hp) (wL 76 rfl (by exact hp) (yG rfl rfl rfl))) ?_
  refine FA.opG rfl rfl rfl rfl (fun hp => wL 77 rfl (by exact hp) (O.fieldAddrR rfl rfl)) ?_
  refine FA.opG rfl rfl rfl rfl (fun hp => wL 78 rfl (by exact hp) (O.loadR rfl rfl (by exact getOv (by omega) (by omega)))) ?_
  refine FA.opG rfl rfl rfl rfl (fun hp => wL 79 rfl (by exact hp) (O.convS rfl rfl (by rfl))) ?_
  refine FA.opG rfl rfl rfl rfl (fun hp => wL 73 rfl (by exact hp) (wL 80 rfl (by exact hp) (O.neqS rfl rfl rfl (by rfl)))) ?_
  refine wJ zJ ?_
  refine wg ?_
  simp only [chosen, List.nil_append, List.cons_append, List.append_nil]
  refine zD (zl ?_)
  refine yn (fun h6 => ?_) (fun h6 => ?_) <;> (try simp only [wN] at h6)
  ·skip
   have e : decide (a = b) = false := decide_eq_false fun e => by subst e; simp at h6
   refine zx (zm ?_)
   refine zc (zD (zl (y1 ?_)))
   refine wb (xi ?_)
   refine AQ.loopR ?_
   refine wb (xi ?_)
   refine xK rfl rfl ⟨_, List.nil_sublist _, .nil⟩ (⟨congrArg (fun z => AV.val (.bool z)) e.symm, rfl⟩)
  have ha2 : ∀ i, i < k + 1 → oat a.opts i = oat b.opts i := by
   intro i hi
   rcases Nat.lt_or_ge i k with h7 | h7
   ·exact ha i h7
   obtain rfl : i = k := by omega
   exact opt_ext h6.1 h6.2
  refine yN (y5 (zl (zm ?_)))
  refine zr ?_
  refine za (zD ?_)
  refine zF _ _ _ (by omega) (⟨k + 1, by omega, ha2, rfl, rfl, rfl⟩)
 have e : decide (a = b) = true := decide_eq_true (by
  have := opts_eq hl fun i hi => ha i (by omega)
  obtain ⟨⟨⟨⟨⟨e1, e2⟩, e3⟩, e4⟩, e5⟩, -⟩ := h
  obtain ⟨_, _, _, _, _, _⟩ := a
  obtain ⟨_, _, _, _, _, _⟩ := b
  simp_all)
 refine xD ?_
 refine xr ?_
 refine xA ?_
 refine yZ (zl (zx (zm ?_)))
 refine zc (zD (zl (y1 ?_)))
 refine xK rfl rfl ⟨_, List.nil_sublist _, .nil⟩ (⟨congrArg (fun z => AV.val (.bool z)) e.symm, rfl⟩)

abbrev resM (r : Msg × Int) : AV := .tup [aggM r.1, .val (.int .i64 r.2)]
end Go.Proofs.YtojomcdjcpmnkaaGreat.By

namespace Go.Proofs.YtojomcdjcpmnkaaGreat.By
open Go.RowKit L A
set_option linter.unusedVariables false
set_option maxRecDepth 20000
set_option linter.unusedSimpArgs false

open Classical in
/-- What is read: a message whose encoding the bytes are. -/
noncomputable def decS (b : List UInt8) : Msg × Int :=
 if 4096 < b.length then (Msg.none, 8) else if b.length < 4 then (Msg.none, 2) else if h : ∃ m, OkM m ∧ raw m = b then (Classical.choose h, 0) else (Msg.none, 4)
/-! ### The parser -/
def takeP (r : List UInt8) (bad : Bool) (n : Int) : List UInt8 × List UInt8 × Bool := if (r.length : Int) < n then (List.replicate (min n 4).toNat 0, r, true) else (r.take n.toNat, r.drop n.toNat, bad)
def numP (r : List UInt8) (bad : Bool) (n : Int) : Int × List UInt8 × Bool :=
 if n = 13 then (((bt (takeP r bad 1).1 0).toNat : Int) + 13, (takeP r bad 1).2)
 else if n = 14 then (((bt (takeP r bad 2).1 0).toNat : Int) * 256 + ((bt (takeP r bad 2).1 1).toNat : Int) + 269, (takeP r bad 2).2)
 else (n, r, if n = 15 then true else bad)
theorem takeP_app (v t : List UInt8) (bad : Bool) {n : Int} (h : n = v.length) : takeP (v ++ t) bad n = (v, t, bad) := by
 subst h
 unfold takeP
 rw [if_neg (by simp; omega)]
 simp
theorem numP_ext {x : Int} (h : 0 ≤ x ∧ x ≤ 65804) (t : List UInt8) (bad : Bool) : numP ((ext x).2 ++ t) bad (ext x).1 = (x, t, bad) := by
 unfold ext
 split
 ·unfold numP; rw [if_neg (by simp; omega), if_neg (by simp; omega), if_neg (by simp; omega)]; rfl
 split
 ·unfold numP
  rw [if_pos rfl, takeP_app [u8 (x - 13)] t bad (n := 1) rfl]
  have := u8_small (x := x - 13) (by omega)
  simp [bt] at this ⊢
  omega
 unfold numP
 rw [if_neg (by simp), if_pos rfl, takeP_app [u8 ((x - 269) / 256), u8 (x - 269)] t bad (n := 2) rfl]
 have h1 := u8_small (x := (x - 269) / 256) (by omega)
 have h2 := u8_toNat (x - 269)
 simp [bt] at h1 h2 ⊢
 omega
/-! ### The rest of an encoding -/
def tailM (m : Msg) : List UInt8 := if m.pay = [] then [] else 255 :: m.pay
def restM (m : Msg) (k : Nat) : List UInt8 := rawO (lastO 0 (m.opts.take k)) (m.opts.drop k) ++ tailM m
theorem rest_zero (m : Msg) : raw m = headM m ++ (m.tok ++ restM m 0) := by simp [raw, restM, tailM, lastO]
theorem rest_end {m : Msg} {k : Nat} (h : m.opts.length ≤ k) : restM m k = tailM m := by simp [restM, List.drop_eq_nil_of_le h, rawO]
theorem rest_step {m : Msg} {k : Nat} (h : k < m.opts.length) : restM m k = u8 (16 * (ext ((oat m.opts k).num - lastO 0 (m.opts.take k))).1 + (ext ((oat m.opts k).val.length : Int)).1) :: ((ext ((oat m.opts k).num - lastO 0 (m.opts.take k))).2 ++ ((ext ((oat m.opts k).val.length : Int)).2 ++ ((oat m.opts k).val ++ restM m (k + 1)))) := by
 rw [restM, drop_cons Opt.none h, rawO, hdr, restM, take_snoc Opt.none h, lastO_snoc]
 simp

/-- How far bytes are read, whatever valid message they encode. -/
def Fits (b : List UInt8) (opts : List Opt) (last : Int) (r : List UInt8) (bad : Bool) : Prop :=
 ∀ m, OkM m → raw m = b → bad = false ∧ opts.length ≤ m.opts.length ∧ r = restM m opts.length ∧ last = lastO 0 opts ∧ opts = m.opts.take opts.length
theorem Fits.more {b : List UInt8} {opts : List Opt} {last : Int} {r : List UInt8} {bad : Bool} (h : Fits b opts last r bad) {m : Msg} (hm : OkM m) (hr : raw m = b) (h1 : r ≠ []) (h2 : bt r 0 ≠ 255) : opts.length < m.opts.length := by
 obtain ⟨-, h3, h4, -, -⟩ := h m hm hr
 rcases Nat.lt_or_ge opts.length m.opts.length with h5 | h5
 ·exact h5
 rw [rest_end h5, tailM] at h4
 split at h4
 ·exact absurd h4 h1
 subst h4; exact absurd rfl h2
theorem Fits.ends {b : List UInt8} {opts : List Opt} {last : Int} {r : List UInt8} {bad : Bool} (h : Fits b opts last r bad) {m : Msg} (hm : OkM m) (hr : raw m = b) (h1 : bad = true ∨ r = [] ∨ bt r 0 = 255) : bad = false ∧ opts = m.opts ∧ r = tailM m := by
 obtain ⟨h0, h3, h4, h6, h7⟩ := h m hm hr
 rcases Nat.lt_or_ge opts.length m.opts.length with h5 | h5
 ·rw [rest_step h5] at h4
  have h8 := AscO_at hm.2.2.1 h5
  have h9 := lastO_le (AscO_take hm.2.2.1 opts.length) (by omega)
  have e1 := ext_le ((oat m.opts opts.length).num - lastO 0 (m.opts.take opts.length)) (by omega)
  have e2 := ext_le ((oat m.opts opts.length).val.length : Int) (by omega)
  rcases h1 with h1 | h1 | h1
  ·rw [h0] at h1; cases h1
  ·rw [h1] at h4; cases h4
  have e3 := u8_small (x := 16 * (ext ((oat m.opts opts.length).num - lastO 0 (m.opts.take opts.length))).1 + (ext ((oat m.opts opts.length).val.length : Int)).1) (by omega)
  rw [h4] at h1
  have h1' : u8 (16 * (ext ((oat m.opts opts.length).num - lastO 0 (m.opts.take opts.length))).1 + (ext ((oat m.opts opts.length).val.length : Int)).1) = 255 := h1
  rw [h1'] at e3
  have : ((255 : UInt8).toNat : Int) = 255 := rfl
  omega
 refine ⟨h0, ?_, ?_⟩
 ·rw [List.take_of_length_le h5] at h7; exact h7
 rw [rest_end h5] at h4; exact h4
/-- A further option of a valid message. -/
theorem Fits.parts {b : List UInt8} {opts : List Opt} {last : Int} {r : List UInt8} {bad : Bool} (h : Fits b opts last r bad) {m : Msg} (hm : OkM m) (hr : raw m = b) (h1 : r ≠ []) (h2 : bt r 0 ≠ 255) :
  ∃ o d n, opts.length < m.opts.length ∧ o = oat m.opts opts.length ∧ d = o.num - last ∧ n = (o.val.length : Int) ∧ 0 ≤ d ∧ d ≤ 65535 ∧ n ≤ 1034 ∧ ((bt r 0).toNat : Int) = 16 * (ext d).1 + (ext n).1 ∧ r.drop 1 = (ext d).2 ++ ((ext n).2 ++ (o.val ++ restM m (opts.length + 1))) := by
 have h5 := h.more hm hr h1 h2
 obtain ⟨h0, h3, h4, h6, h7⟩ := h m hm hr
 rw [rest_step h5, ← h7, ← h6] at h4
 have h8 := AscO_at hm.2.2.1 h5
 have h9 := lastO_le (AscO_take hm.2.2.1 opts.length) (by omega)
 rw [← h7, ← h6] at h8 h9
 have e1 := ext_le ((oat m.opts opts.length).num - last) (by omega)
 have e2 := ext_le ((oat m.opts opts.length).val.length : Int) (by omega)
 refine ⟨_, _, _, h5, rfl, rfl, rfl, by omega, by omega, by omega, ?_, by rw [h4]; rfl⟩
 rw [h4]
 exact u8_small (by omega)
theorem Fits.step {b : List UInt8} {opts : List Opt} {last : Int} {r r1 r2 r3 : List UInt8} {b1 b2 b3 : Bool} {v1 v2 : Int} {x : List UInt8} (h : Fits b opts last r false) (h1 : r ≠ []) (h2 : bt r 0 ≠ 255)
  (e1 : numP (r.drop 1) false (((bt r 0).toNat : Int) / 16) = (v1, r1, b1)) (e2 : numP r1 b1 (((bt r 0).toNat : Int) % 16) = (v2, r2, b2)) (e3 : takeP r2 b2 v2 = (x, r3, b3)) : Fits b (opts ++ [⟨last + v1, x⟩]) (last + v1) r3 b3 := fun m hm hr => by
 obtain ⟨o, d, n, h5, h6, h7, h8, h9, h10, h11, h12, h13⟩ := h.parts hm hr h1 h2
 obtain ⟨-, -, -, h16, h17⟩ := h m hm hr
 have q1 := ext_le d h9
 have q2 := ext_le n (by omega)
 rw [h12, show (16 * (ext d).1 + (ext n).1) / 16 = (ext d).1 by omega, h13, numP_ext (by omega)] at e1
 simp only [Prod.mk.injEq] at e1
 obtain ⟨e11, e12, e13⟩ := e1
 subst e12; subst e13
 rw [h12, show (16 * (ext d).1 + (ext n).1) % 16 = (ext n).1 by omega, numP_ext (by omega)] at e2
 simp only [Prod.mk.injEq] at e2
 obtain ⟨e21, e22, e23⟩ := e2
 subst e22; subst e23
 rw [takeP_app _ _ _ (e21.symm.trans h8)] at e3
 simp only [Prod.mk.injEq] at e3
 obtain ⟨e31, e32, e33⟩ := e3
 subst e31; subst e32; subst e33
 have hl : last + v1 = o.num := by omega
 refine ⟨rfl, by simp; omega, by simp, by rw [lastO_snoc], ?_⟩
 rw [List.length_append, List.length_singleton, take_snoc Opt.none h5, ← h17, hl, h6]
/-- The start. -/
theorem Fits.start {b : List UInt8} : (∀ m, OkM m → raw m = b → ((bt b 0).toNat : Int) = 64 + 16 * m.ty + m.tok.length ∧ ((bt b 1).toNat : Int) = m.code ∧ ((bt b 2).toNat : Int) = m.id / 256 ∧ ((bt b 3).toNat : Int) = m.id % 256 ∧ b.drop 4 = m.tok ++ restM m 0) := fun m hm hr => by
 have h1 := hm.1
 have h2 := hm.2.1
 subst hr
 rw [rest_zero]
 refine ⟨u8_small (by omega), u8_small (by omega), u8_small (by omega), u8_toNat _, rfl⟩
theorem Fits.first {b x r : List UInt8} {bad : Bool} (e : takeP (b.drop 4) false (((bt b 0).toNat : Int) % 16) = (x, r, bad)) : Fits b [] 0 r bad ∧ ∀ m, OkM m → raw m = b → x = m.tok := by
 have key : ∀ m, OkM m → raw m = b → x = m.tok ∧ r = restM m 0 ∧ bad = false := fun m hm hr => by
  obtain ⟨h1, -, -, -, h5⟩ := Fits.start m hm hr
  have h2 := hm.2.1
  rw [h1, h5, takeP_app _ _ _ (by omega)] at e
  cases e
  exact ⟨rfl, rfl, rfl⟩
 exact ⟨fun m hm hr => ⟨(key m hm hr).2.2, Nat.zero_le _, (key m hm hr).2.1, rfl, rfl⟩, fun m hm hr => (key m hm hr).1⟩
/-- The end: every valid message with this encoding is the one that is read. -/
theorem Fits.all {b x r : List UInt8} {opts : List Opt} {last : Int} {bad : Bool} (h : Fits b opts last r bad) (hx : ∀ m, OkM m → raw m = b → x = m.tok) (h1 : bad = true ∨ r = [] ∨ bt r 0 = 255) {pay : List UInt8} (hp : pay = r.drop 1) {ty code id : Int}
  (hty : ty = ((bt b 0).toNat : Int) / 16 % 4) (hcode : code = ((bt b 1).toNat : Int)) (hid : id = ((bt b 2).toNat : Int) * 256 + ((bt b 3).toNat : Int)) : ∀ m, OkM m → raw m = b → bad = false ∧ m = ⟨ty, code, id, x, opts, pay⟩ := fun m hm hr => by
 obtain ⟨g1, g2, g3, g4, -⟩ := Fits.start m hm hr
 obtain ⟨h3, h4, h5⟩ := h.ends hm hr h1
 have q1 := hm.1
 have q2 := hm.2.1
 have hpay : pay = m.pay := by
  rw [hp, h5, tailM]
  split
  ·rename_i e; rw [e]; rfl
  rfl
 refine ⟨h3, ?_⟩
 obtain ⟨ty', code', id', tok', opts', pay'⟩ := m
 simp only at g1 g2 g3 g4 q1 q2 h4 hpay
 have := hx _ hm hr
 simp only at this
 subst this; subst h4; subst hpay
 rw [Msg.mk.injEq]
 refine ⟨by omega, by omega, by omega, rfl, rfl, rfl⟩
end Go.Proofs.YtojomcdjcpmnkaaGreat.By

namespace Go.Proofs.YtojomcdjcpmnkaaGreat.By
open Go.RowKit L A
set_option linter.unusedVariables false
set_option maxRecDepth 20000
set_option linter.unusedSimpArgs false

theorem Fits.own {m : Msg} (hm : OkM m) : ∀ k, k ≤ m.opts.length → Fits (raw m) (m.opts.take k) (lastO 0 (m.opts.take k)) (restM m k) false
 | 0, _ => by
  have h1 := hm.1
  have h2 := hm.2.1
  have e0 : ((bt (raw m) 0).toNat : Int) = 64 + 16 * m.ty + m.tok.length := (Fits.start m hm rfl).1
  have e : takeP ((raw m).drop 4) false (((bt (raw m) 0).toNat : Int) % 16) = (m.tok, restM m 0, false) := by
   rw [(Fits.start m hm rfl).2.2.2.2, takeP_app _ _ _ (by omega)]
  exact (Fits.first e).1
 | k + 1, h => by
  have ih := Fits.own hm k (by omega)
  have h5 : k < m.opts.length := by omega
  have h8 := AscO_at hm.2.2.1 h5
  have h9 := lastO_le (AscO_take hm.2.2.1 k) (by omega)
  have hr := rest_step (m := m) h5
  generalize hd : (oat m.opts k).num - lastO 0 (m.opts.take k) = d at hr
  generalize hn : ((oat m.opts k).val.length : Int) = n at hr
  have e1 := ext_le d (by omega)
  have e2 := ext_le n (by omega)
  have hb : bt (restM m k) 0 = u8 (16 * (ext d).1 + (ext n).1) := by rw [hr]; rfl
  have hu := u8_small (x := 16 * (ext d).1 + (ext n).1) (by omega)
  have s := ih.step (v1 := d) (r1 := (ext n).2 ++ ((oat m.opts k).val ++ restM m (k + 1))) (b1 := false) (v2 := n) (r2 := (oat m.opts k).val ++ restM m (k + 1)) (b2 := false) (x := (oat m.opts k).val) (r3 := restM m (k + 1)) (b3 := false)
   (by rw [hr]; simp) (fun e => by
    rw [hb] at e
    rw [e] at hu
    have : ((255 : UInt8).toNat : Int) = 255 := rfl
    omega)
   (by rw [hb, hu, show (16 * (ext d).1 + (ext n).1) / 16 = (ext d).1 by omega, hr]; exact numP_ext (by omega) _ _)
   (by rw [hb, hu, show (16 * (ext d).1 + (ext n).1) % 16 = (ext n).1 by omega]; exact numP_ext (by omega) _ _)
   (takeP_app _ _ _ hn.symm)
  rw [show lastO 0 (m.opts.take k) + d = (oat m.opts k).num by omega] at s
  rw [take_snoc Opt.none h5, lastO_snoc]
  exact s
end Go.Proofs.YtojomcdjcpmnkaaGreat.By

namespace Go.Proofs.YtojomcdjcpmnkaaGreat.By
open Go.RowKit L A
set_option linter.unusedVariables false
set_option maxRecDepth 20000
set_option linter.unusedSimpArgs false
attribute [local irreducible] AW AQ AO
def cls (n : Int) : Int :=
 if n = 3 ∨ n = 7 ∨ n = 9 ∨ n = 16 ∨ n = 35 ∨ n = 39 then 2
 else if n = 6 ∨ n = 14 ∨ n = 23 ∨ n = 27 ∨ n = 28 ∨ n = 60 ∨ n = 252 ∨ n = 258 ∨ n = 292 then 3 else 1
theorem class_fn (n : Int) : Sp Tryz.prog 154 [.val (.int .i64 n)] [] (Is (.val (.int .i64 (cls n)))) := by
 refine yv Tryz.func154 _ Tryz.ntmps154 (fun w0 R0 => ?_)
 refine zx (zm ?_)
 refine zc (zD (zl (zx (zx (zm ?_)))))
 refine za (zD (zl (yS (zx (zx (zm ?_))))))
 refine yd ?_
 refine zc (zD (zl ?_))
 refine xd [(3, _)] (fun E H => ∃ (c40 : Bool), (c40 = decide (n = 3 ∨ n = 7 ∨ n = 9 ∨ n = 16 ∨ n = 35 ∨ n = 39)) ∧ E = [(4, .val (.bool c40))] ∧ H = []) (fun h40 => ?_) (fun h40 => ?_) ?_ <;> try (try simp only [wN] at h40)
 ·skip
  refine yN ?_
  refine zX _ _ (⟨n == 3, by simp [h40], rfl, rfl⟩)
 ·skip
  refine zx (zm ?_)
  refine yd ?_
  refine zc (zD (zl ?_))
  refine xd [(3, _)] (fun E H => ∃ (c41 : Bool), (c41 = decide (n = 7 ∨ n = 9 ∨ n = 16 ∨ n = 35 ∨ n = 39)) ∧ E = [(4, .val (.bool c41))] ∧ H = []) (fun h41 => ?_) (fun h41 => ?_) ?_ <;> try (try simp only [wN] at h41)
  ·skip
   refine yN ?_
   refine zX _ _ (⟨n == 7, by simp [h41], rfl, rfl⟩)
  ·skip
   refine zx (zm ?_)
   refine yd ?_
   refine zc (zD (zl ?_))
   refine xd [(3, _)] (fun E H => ∃ (c42 : Bool), (c42 = decide (n = 9 ∨ n = 16 ∨ n = 35 ∨ n = 39)) ∧ E = [(4, .val (.bool c42))] ∧ H = []) (fun h42 => ?_) (fun h42 => ?_) ?_ <;> try (try simp only [wN] at h42)
   ·skip
    refine yN ?_
    refine zX _ _ (⟨n == 9, by simp [h42], rfl, rfl⟩)
   ·skip
    refine zx (zm ?_)
    refine yd ?_
    refine zc (zD (zl ?_))
    refine xd [(3, _)] (fun E H => ∃ (c43 : Bool), (c43 = decide (n = 16 ∨ n = 35 ∨ n = 39)) ∧ E = [(4, .val (.bool c43))] ∧ H = []) (fun h43 => ?_) (fun h43 => ?_) ?_ <;> try (try simp only [wN] at h43)
    ·skip
     refine yN ?_
     refine zX _ _ (⟨n == 16, by simp [h43], rfl, rfl⟩)
    ·skip
     refine zx (zm ?_)
     refine yd ?_
     refine zc (zD (zl ?_))
     refine xd [(3, _)] (fun E H => ∃ (c44 : Bool), (c44 = decide (n = 35 ∨ n = 39)) ∧ E = [(4, .val (.bool c44))] ∧ H = []) (fun h44 => ?_) (fun h44 => ?_) ?_ <;> try (try simp only [wN] at h44)
     ·skip
      refine yN ?_
      refine zX _ _ (⟨n == 35, by simp [h44], rfl, rfl⟩)
     ·skip
      refine zm ?_
      refine yd ?_
      refine zc (zD ?_)
      refine zX _ _ (⟨n == 39, by rw [Bool.eq_iff_iff]; simp [h44], rfl, rfl⟩)
     rintro E1 H1 ⟨c44, hc44, rfl, rfl⟩
     dsimp only [List.cons_append, List.nil_append]
     refine zX _ _ (⟨c44, by rw [hc44]; simp only [h43, false_or], rfl, rfl⟩)
    rintro E1 H1 ⟨c43, hc43, rfl, rfl⟩
    dsimp only [List.cons_append, List.nil_append]
    refine zX _ _ (⟨c43, by rw [hc43]; simp only [h42, false_or], rfl, rfl⟩)
   rintro E1 H1 ⟨c42, hc42, rfl, rfl⟩
   dsimp only [List.cons_append, List.nil_append]
   refine zX _ _ (⟨c42, by rw [hc42]; simp only [h41, false_or], rfl, rfl⟩)
  rintro E1 H1 ⟨c41, hc41, rfl, rfl⟩
  dsimp only [List.cons_append, List.nil_append]
  refine zX _ _ (⟨c41, by rw [hc41]; simp only [h40, false_or], rfl, rfl⟩)
 rintro E1 H1 ⟨c40, hc40, rfl, rfl⟩
 dsimp only [List.cons_append, List.nil_append]
 refine zl ?_
 refine yn (fun ha => ?_) (fun ha => ?_) <;> (try simp only [wN] at ha)
 ·skip
  rw [hc40] at ha
  have e : cls n = 2 := if_pos (by simpa using ha)
  refine zx (zm ?_)
  refine zc (zD (zl (y1 ?_)))
  refine wb (xi ?_)
  refine xK rfl rfl ⟨_, List.nil_sublist _, .nil⟩ (⟨by rw [e]; rfl, rfl⟩)
 rw [hc40] at ha
 refine zx (zx (zm ?_))
 refine yd ?_
 refine zc (zD (zl ?_))
 refine x0 [] (fun E H => ∃ (c110 : Bool), (c110 = decide (n = 6 ∨ n = 14 ∨ n = 23 ∨ n = 27 ∨ n = 28 ∨ n = 60 ∨ n = 252 ∨ n = 258 ∨ n = 292)) ∧ E = [(11, .val (.bool c110))] ∧ H = []) (fun h110 => ?_) (fun h110 => ?_) ?_ <;> try (try simp only [wN] at h110)
 ·skip
  refine yN ?_
  refine zO _ _ (⟨n == 6, by simp [h110], rfl, rfl⟩)
 ·skip
  refine zx (zm ?_)
  refine yd ?_
  refine zc (zD (zl ?_))
  refine x0 [] (fun E H => ∃ (c111 : Bool), (c111 = decide (n = 14 ∨ n = 23 ∨ n = 27 ∨ n = 28 ∨ n = 60 ∨ n = 252 ∨ n = 258 ∨ n = 292)) ∧ E = [(11, .val (.bool c111))] ∧ H = []) (fun h111 => ?_) (fun h111 => ?_) ?_ <;> try (try simp only [wN] at h111)
  ·skip
   refine yN ?_
   refine zO _ _ (⟨n == 14, by simp [h111], rfl, rfl⟩)
  ·skip
   refine zx (zm ?_)
   refine yd ?_
   refine zc (zD (zl ?_))
   refine x0 [] (fun E H => ∃ (c112 : Bool), (c112 = decide (n = 23 ∨ n = 27 ∨ n = 28 ∨ n = 60 ∨ n = 252 ∨ n = 258 ∨ n = 292)) ∧ E = [(11, .val (.bool c112))] ∧ H = []) (fun h112 => ?_) (fun h112 => ?_) ?_ <;> try (try simp only [wN] at h112)
   ·skip
    refine yN ?_
    refine zO _ _ (⟨n == 23, by simp [h112], rfl, rfl⟩)
   ·skip
    refine zx (zm ?_)
    refine yd ?_
    refine zc (zD (zl ?_))
    refine x0 [] (fun E H => ∃ (c113 : Bool), (c113 = decide (n = 27 ∨ n = 28 ∨ n = 60 ∨ n = 252 ∨ n = 258 ∨ n = 292)) ∧ E = [(11, .val (.bool c113))] ∧ H = []) (fun h113 => ?_) (fun h113 => ?_) ?_ <;> try (try simp only [wN] at h113)
    ·skip
     refine yN ?_
     refine zO _ _ (⟨n == 27, by simp [h113], rfl, rfl⟩)
    ·skip
     refine zx (zm ?_)
     refine yd ?_
     refine zc (zD (zl ?_))
     refine x0 [] (fun E H => ∃ (c114 : Bool), (c114 = decide (n = 28 ∨ n = 60 ∨ n = 252 ∨ n = 258 ∨ n = 292)) ∧ E = [(11, .val (.bool c114))] ∧ H = []) (fun h114 => ?_) (fun h114 => ?_) ?_ <;> try (try simp only [wN] at h114)
     ·skip
      refine yN ?_
      refine zO _ _ (⟨n == 28, by simp [h114], rfl, rfl⟩)
     ·skip
      refine zx (zm ?_)
      refine yd ?_
      refine zc (zD (zl ?_))
      refine x0 [] (fun E H => ∃ (c115 : Bool), (c115 = decide (n = 60 ∨ n = 252 ∨ n = 258 ∨ n = 292)) ∧ E = [(11, .val (.bool c115))] ∧ H = []) (fun h115 => ?_) (fun h115 => ?_) ?_ <;> try (try simp only [wN] at h115)
      ·skip
       refine yN ?_
       refine zO _ _ (⟨n == 60, by simp [h115], rfl, rfl⟩)
      ·skip
       refine zx (zm ?_)
       refine yd ?_
       refine zc (zD (zl ?_))
       refine x0 [] (fun E H => ∃ (c116 : Bool), (c116 = decide (n = 252 ∨ n = 258 ∨ n = 292)) ∧ E = [(11, .val (.bool c116))] ∧ H = []) (fun h116 => ?_) (fun h116 => ?_) ?_ <;> try (try simp only [wN] at h116)
       ·skip
        refine yN ?_
        refine zO _ _ (⟨n == 252, by simp [h116], rfl, rfl⟩)
       ·skip
        refine zx (zm ?_)
        refine yd ?_
        refine zc (zD (zl ?_))
        refine x0 [] (fun E H => ∃ (c117 : Bool), (c117 = decide (n = 258 ∨ n = 292)) ∧ E = [(11, .val (.bool c117))] ∧ H = []) (fun h117 => ?_) (fun h117 => ?_) ?_ <;> try (try simp only [wN] at h117)
        ·skip
         refine yN ?_
         refine zO _ _ (⟨n == 258, by simp [h117], rfl, rfl⟩)
        ·skip
         refine zm ?_
         refine yd ?_
         refine zc (zD ?_)
         refine zO _ _ (⟨n == 292, by rw [Bool.eq_iff_iff]; simp [h117], rfl, rfl⟩)
        rintro E1 H1 ⟨c117, hc117, rfl, rfl⟩
        dsimp only [List.cons_append, List.nil_append]
        refine zO _ _ (⟨c117, by rw [hc117]; simp only [h116, false_or], rfl, rfl⟩)
       rintro E1 H1 ⟨c116, hc116, rfl, rfl⟩
       dsimp only [List.cons_append, List.nil_append]
       refine zO _ _ (⟨c116, by rw [hc116]; simp only [h115, false_or], rfl, rfl⟩)
      rintro E1 H1 ⟨c115, hc115, rfl, rfl⟩
      dsimp only [List.cons_append, List.nil_append]
      refine zO _ _ (⟨c115, by rw [hc115]; simp only [h114, false_or], rfl, rfl⟩)
     rintro E1 H1 ⟨c114, hc114, rfl, rfl⟩
     dsimp only [List.cons_append, List.nil_append]
     refine zO _ _ (⟨c114, by rw [hc114]; simp only [h113, false_or], rfl, rfl⟩)
    rintro E1 H1 ⟨c113, hc113, rfl, rfl⟩
    dsimp only [List.cons_append, List.nil_append]
    refine zO _ _ (⟨c113, by rw [hc113]; simp only [h112, false_or], rfl, rfl⟩)
   rintro E1 H1 ⟨c112, hc112, rfl, rfl⟩
   dsimp only [List.cons_append, List.nil_append]
   refine zO _ _ (⟨c112, by rw [hc112]; simp only [h111, false_or], rfl, rfl⟩)
  rintro E1 H1 ⟨c111, hc111, rfl, rfl⟩
  dsimp only [List.cons_append, List.nil_append]
  refine zO _ _ (⟨c111, by rw [hc111]; simp only [h110, false_or], rfl, rfl⟩)
 rintro E1 H1 ⟨c110, hc110, rfl, rfl⟩
 dsimp only [List.cons_append, List.nil_append]
 refine zl ?_
 refine yn (fun hb => ?_) (fun hb => ?_) <;> (try simp only [wN] at hb)
 ·skip
  rw [hc110] at hb
  have e : cls n = 3 := (if_neg (by simpa using ha)).trans (if_pos (by simpa using hb))
  refine zx (zm ?_)
  refine zc (zD (zl (y1 ?_)))
  refine wb (xi ?_)
  refine xK rfl rfl ⟨_, List.nil_sublist _, .nil⟩ (⟨by rw [e]; rfl, rfl⟩)
 rw [hc110] at hb
 have e : cls n = 1 := (if_neg (by simpa using ha)).trans (if_neg (by simpa using hb))
 refine yN (y5 (zl (zx (zm ?_))))
 refine zc (zD (zl (y1 ?_)))
 refine xK rfl rfl ⟨_, List.nil_sublist _, .nil⟩ (⟨by rw [e]; rfl, rfl⟩)
theorem rclass_fn (n : Int) : Sp Tryz.prog 121 [.val (.int .i64 n)] [] (Is (.val (.int .i64 (cls n)))) := by
 refine yv Tryz.func121 _ Tryz.ntmps121 (fun w0 R0 => ?_)
 refine zx (zm ?_)
 refine zc (zD (zl (zx (zx (zm ?_)))))
 refine za (zD (zl (yS (zx (zx (zm ?_))))))
 refine yd ?_
 refine zc (zD (zl ?_))
 refine xd [(3, _)] (fun E H => ∃ (c40 : Bool), (c40 = decide (n = 3 ∨ n = 7 ∨ n = 9 ∨ n = 16 ∨ n = 35 ∨ n = 39)) ∧ E = [(4, .val (.bool c40))] ∧ H = []) (fun h40 => ?_) (fun h40 => ?_) ?_ <;> try (try simp only [wN] at h40)
 ·skip
  refine yN ?_
  refine zX _ _ (⟨n == 3, by simp [h40], rfl, rfl⟩)
 ·skip
  refine zx (zm ?_)
  refine yd ?_
  refine zc (zD (zl ?_))
  refine xd [(3, _)] (fun E H => ∃ (c41 : Bool), (c41 = decide (n = 7 ∨ n = 9 ∨ n = 16 ∨ n = 35 ∨ n = 39)) ∧ E = [(4, .val (.bool c41))] ∧ H = []) (fun h41 => ?_) (fun h41 => ?_) ?_ <;> try (try simp only [wN] at h41)
  ·skip
   refine yN ?_
   refine zX _ _ (⟨n == 7, by simp [h41], rfl, rfl⟩)
  ·skip
   refine zx (zm ?_)
   refine yd ?_
   refine zc (zD (zl ?_))
   refine xd [(3, _)] (fun E H => ∃ (c42 : Bool), (c42 = decide (n = 9 ∨ n = 16 ∨ n = 35 ∨ n = 39)) ∧ E = [(4, .val (.bool c42))] ∧ H = []) (fun h42 => ?_) (fun h42 => ?_) ?_ <;> try (try simp only [wN] at h42)
   ·skip
    refine yN ?_
    refine zX _ _ (⟨n == 9, by simp [h42], rfl, rfl⟩)
   ·skip
    refine zx (zm ?_)
    refine yd ?_
    refine zc (zD (zl ?_))
    refine xd [(3, _)] (fun E H => ∃ (c43 : Bool), (c43 = decide (n = 16 ∨ n = 35 ∨ n = 39)) ∧ E = [(4, .val (.bool c43))] ∧ H = []) (fun h43 => ?_) (fun h43 => ?_) ?_ <;> try (try simp only [wN] at h43)
    ·skip
     refine yN ?_
     refine zX _ _ (⟨n == 16, by simp [h43], rfl, rfl⟩)
    ·skip
     refine zx (zm ?_)
     refine yd ?_
     refine zc (zD (zl ?_))
     refine xd [(3, _)] (fun E H => ∃ (c44 : Bool), (c44 = decide (n = 35 ∨ n = 39)) ∧ E = [(4, .val (.bool c44))] ∧ H = []) (fun h44 => ?_) (fun h44 => ?_) ?_ <;> try (try simp only [wN] at h44)
     ·skip
      refine yN ?_
      refine zX _ _ (⟨n == 35, by simp [h44], rfl, rfl⟩)
     ·skip
      refine zm ?_
      refine yd ?_
      refine zc (zD ?_)
      refine zX _ _ (⟨n == 39, by rw [Bool.eq_iff_iff]; simp [h44], rfl, rfl⟩)
     rintro E1 H1 ⟨c44, hc44, rfl, rfl⟩
     dsimp only [List.cons_append, List.nil_append]
     refine zX _ _ (⟨c44, by rw [hc44]; simp only [h43, false_or], rfl, rfl⟩)
    rintro E1 H1 ⟨c43, hc43, rfl, rfl⟩
    dsimp only [List.cons_append, List.nil_append]
    refine zX _ _ (⟨c43, by rw [hc43]; simp only [h42, false_or], rfl, rfl⟩)
   rintro E1 H1 ⟨c42, hc42, rfl, rfl⟩
   dsimp only [List.cons_append, List.nil_append]
   refine zX _ _ (⟨c42, by rw [hc42]; simp only [h41, false_or], rfl, rfl⟩)
  rintro E1 H1 ⟨c41, hc41, rfl, rfl⟩
  dsimp only [List.cons_append, List.nil_append]
  refine zX _ _ (⟨c41, by rw [hc41]; simp only [h40, false_or], rfl, rfl⟩)
 rintro E1 H1 ⟨c40, hc40, rfl, rfl⟩
 dsimp only [List.cons_append, List.nil_append]
 refine zl ?_
 refine yn (fun ha => ?_) (fun ha => ?_) <;> (try simp only [wN] at ha)
 ·skip
  rw [hc40] at ha
  have e : cls n = 2 := if_pos (by simpa using ha)
  refine zx (zm ?_)
  refine zc (zD (zl (y1 ?_)))
  refine wb (xi ?_)
  refine xK rfl rfl ⟨_, List.nil_sublist _, .nil⟩ (⟨by rw [e]; rfl, rfl⟩)
 rw [hc40] at ha
 refine zx (zx (zm ?_))
 refine yd ?_
 refine zc (zD (zl ?_))
 refine x0 [] (fun E H => ∃ (c110 : Bool), (c110 = decide (n = 6 ∨ n = 14 ∨ n = 23 ∨ n = 27 ∨ n = 28 ∨ n = 60 ∨ n = 252 ∨ n = 258 ∨ n = 292)) ∧ E = [(11, .val (.bool c110))] ∧ H = []) (fun h110 => ?_) (fun h110 => ?_) ?_ <;> try (try simp only [wN] at h110)
 ·skip
  refine yN ?_
  refine zO _ _ (⟨n == 6, by simp [h110], rfl, rfl⟩)
 ·skip
  refine zx (zm ?_)
  refine yd ?_
  refine zc (zD (zl ?_))
  refine x0 [] (fun E H => ∃ (c111 : Bool), (c111 = decide (n = 14 ∨ n = 23 ∨ n = 27 ∨ n = 28 ∨ n = 60 ∨ n = 252 ∨ n = 258 ∨ n = 292)) ∧ E = [(11, .val (.bool c111))] ∧ H = []) (fun h111 => ?_) (fun h111 => ?_) ?_ <;> try (try simp only [wN] at h111)
  ·skip
   refine yN ?_
   refine zO _ _ (⟨n == 14, by simp [h111], rfl, rfl⟩)
  ·skip
   refine zx (zm ?_)
   refine yd ?_
   refine zc (zD (zl ?_))
   refine x0 [] (fun E H => ∃ (c112 : Bool), (c112 = decide (n = 23 ∨ n = 27 ∨ n = 28 ∨ n = 60 ∨ n = 252 ∨ n = 258 ∨ n = 292)) ∧ E = [(11, .val (.bool c112))] ∧ H = []) (fun h112 => ?_) (fun h112 => ?_) ?_ <;> try (try simp only [wN] at h112)
   ·skip
    refine yN ?_
    refine zO _ _ (⟨n == 23, by simp [h112], rfl, rfl⟩)
   ·skip
    refine zx (zm ?_)
    refine yd ?_
    refine zc (zD (zl ?_))
    refine x0 [] (fun E H => ∃ (c113 : Bool), (c113 = decide (n = 27 ∨ n = 28 ∨ n = 60 ∨ n = 252 ∨ n = 258 ∨ n = 292)) ∧ E = [(11, .val (.bool c113))] ∧ H = []) (fun h113 => ?_) (fun h113 => ?_) ?_ <;> try (try simp only [wN] at h113)
    ·skip
     refine yN ?_
     refine zO _ _ (⟨n == 27, by simp [h113], rfl, rfl⟩)
    ·skip
     refine zx (zm ?_)
     refine yd ?_
     refine zc (zD (zl ?_))
     refine x0 [] (fun E H => ∃ (c114 : Bool), (c114 = decide (n = 28 ∨ n = 60 ∨ n = 252 ∨ n = 258 ∨ n = 292)) ∧ E = [(11, .val (.bool c114))] ∧ H = []) (fun h114 => ?_) (fun h114 => ?_) ?_ <;> try (try simp only [wN] at h114)
     ·skip
      refine yN ?_
      refine zO _ _ (⟨n == 28, by simp [h114], rfl, rfl⟩)
     ·skip
      refine zx (zm ?_)
      refine yd ?_
      refine zc (zD (zl ?_))
      refine x0 [] (fun E H => ∃ (c115 : Bool), (c115 = decide (n = 60 ∨ n = 252 ∨ n = 258 ∨ n = 292)) ∧ E = [(11, .val (.bool c115))] ∧ H = []) (fun h115 => ?_) (fun h115 => ?_) ?_ <;> try (try simp only [wN] at h115)
      ·skip
       refine yN ?_
       refine zO _ _ (⟨n == 60, by simp [h115], rfl, rfl⟩)
      ·skip
       refine zx (zm ?_)
       refine yd ?_
       refine zc (zD (zl ?_))
       refine x0 [] (fun E H => ∃ (c116 : Bool), (c116 = decide (n = 252 ∨ n = 258 ∨ n = 292)) ∧ E = [(11, .val (.bool c116))] ∧ H = []) (fun h116 => ?_) (fun h116 => ?_) ?_ <;> try (try simp only [wN] at h116)
       ·skip
        refine yN ?_
        refine zO _ _ (⟨n == 252, by simp [h116], rfl, rfl⟩)
       ·skip
        refine zx (zm ?_)
        refine yd ?_
        refine zc (zD (zl ?_))
        refine x0 [] (fun E H => ∃ (c117 : Bool), (c117 = decide (n = 258 ∨ n = 292)) ∧ E = [(11, .val (.bool c117))] ∧ H = []) (fun h117 => ?_) (fun h117 => ?_) ?_ <;> try (try simp only [wN] at h117)
        ·skip
         refine yN ?_
         refine zO _ _ (⟨n == 258, by simp [h117], rfl, rfl⟩)
        ·skip
         refine zm ?_
         refine yd ?_
         refine zc (zD ?_)
         refine zO _ _ (⟨n == 292, by rw [Bool.eq_iff_iff]; simp [h117], rfl, rfl⟩)
        rintro E1 H1 ⟨c117, hc117, rfl, rfl⟩
        dsimp only [List.cons_append, List.nil_append]
        refine zO _ _ (⟨c117, by rw [hc117]; simp only [h116, false_or], rfl, rfl⟩)
       rintro E1 H1 ⟨c116, hc116, rfl, rfl⟩
       dsimp only [List.cons_append, List.nil_append]
       refine zO _ _ (⟨c116, by rw [hc116]; simp only [h115, false_or], rfl, rfl⟩)
      rintro E1 H1 ⟨c115, hc115, rfl, rfl⟩
      dsimp only [List.cons_append, List.nil_append]
      refine zO _ _ (⟨c115, by rw [hc115]; simp only [h114, false_or], rfl, rfl⟩)
     rintro E1 H1 ⟨c114, hc114, rfl, rfl⟩
     dsimp only [List.cons_append, List.nil_append]
     refine zO _ _ (⟨c114, by rw [hc114]; simp only [h113, false_or], rfl, rfl⟩)
    rintro E1 H1 ⟨c113, hc113, rfl, rfl⟩
    dsimp only [List.cons_append, List.nil_append]
    refine zO _ _ (⟨c113, by rw [hc113]; simp only [h112, false_or], rfl, rfl⟩)
   rintro E1 H1 ⟨c112, hc112, rfl, rfl⟩
   dsimp only [List.cons_append, List.nil_append]
   refine zO _ _ (⟨c112, by rw [hc112]; simp only [h111, false_or], rfl, rfl⟩)
  rintro E1 H1 ⟨c111, hc111, rfl, rfl⟩
  dsimp only [List.cons_append, List.nil_append]
  refine zO _ _ (⟨c111, by rw [hc111]; simp only [h110, false_or], rfl, rfl⟩)
 rintro E1 H1 ⟨c110, hc110, rfl, rfl⟩
 dsimp only [List.cons_append, List.nil_append]
 refine zl ?_
 refine yn (fun hb => ?_) (fun hb => ?_) <;> (try simp only [wN] at hb)
 ·skip
  rw [hc110] at hb
  have e : cls n = 3 := (if_neg (by simpa using ha)).trans (if_pos (by simpa using hb))
  refine zx (zm ?_)
  refine zc (zD (zl (y1 ?_)))
  refine wb (xi ?_)
  refine xK rfl rfl ⟨_, List.nil_sublist _, .nil⟩ (⟨by rw [e]; rfl, rfl⟩)
 rw [hc110] at hb
 have e : cls n = 1 := (if_neg (by simpa using ha)).trans (if_neg (by simpa using hb))
 refine yN (y5 (zl (zx (zm ?_))))
 refine zc (zD (zl (y1 ?_)))
 refine xK rfl rfl ⟨_, List.nil_sublist _, .nil⟩ (⟨by rw [e]; rfl, rfl⟩)
def rq (c : Int) : Bool := decide (1 ≤ c) && decide (c ≤ 31)
def rs (c : Int) : Bool := decide (64 ≤ c)
theorem sreq_fn (c : Int) : Sp Tryz.prog 152 [.val (.int .i64 c)] [] (Is (.val (.bool (rq c)))) := by
 refine yv Tryz.func152 _ Tryz.ntmps152 (fun w0 R0 => ?_)
 refine zx (zm ?_)
 refine zc (zD (zl (zx (zm ?_))))
 refine za ?_
 refine xR ?_
 refine za ?_
 refine yu ?_
 refine AO.opG rfl rfl rfl (fun hp => xn 6 rfl (by exact hp)) ?_
 refine zN ?_
 refine zc (zD (zl (y1 ?_)))
 refine xK rfl rfl ⟨_, List.nil_sublist _, .nil⟩ (⟨rfl, rfl⟩)
theorem rsreq_fn (c : Int) : Sp Tryz.prog 63 [.val (.int .i64 c)] [] (Is (.val (.bool (rq c)))) := by
 refine yv Tryz.func63 _ Tryz.ntmps63 (fun w0 R0 => ?_)
 refine zx (zm ?_)
 refine zc (zD (zl (zx (zm ?_))))
 refine za ?_
 refine xR ?_
 refine za ?_
 refine yu ?_
 refine AO.opG rfl rfl rfl (fun hp => xn 6 rfl (by exact hp)) ?_
 refine zN ?_
 refine zc (zD (zl (y1 ?_)))
 refine xK rfl rfl ⟨_, List.nil_sublist _, .nil⟩ (⟨rfl, rfl⟩)
theorem sresp_fn (c : Int) : Sp Tryz.prog 153 [.val (.int .i64 c)] [] (Is (.val (.bool (rs c)))) := by
 refine yv Tryz.func153 _ Tryz.ntmps153 (fun w0 R0 => ?_)
 refine zx (zm ?_)
 refine zc (zD (zl (zx (zm ?_))))
 refine za ?_
 refine xR ?_
 refine zc (zD (zl (y1 ?_)))
 refine xK rfl rfl ⟨_, List.nil_sublist _, .nil⟩ (⟨rfl, rfl⟩)
theorem rsresp_fn (c : Int) : Sp Tryz.prog 83 [.val (.int .i64 c)] [] (Is (.val (.bool (rs c)))) := by
 refine yv Tryz.func83 _ Tryz.ntmps83 (fun w0 R0 => ?_)
 refine zx (zm ?_)
 refine zc (zD (zl (zx (zm ?_))))
 refine za ?_
 refine xR ?_
 refine zc (zD (zl (y1 ?_)))
 refine xK rfl rfl ⟨_, List.nil_sublist _, .nil⟩ (⟨rfl, rfl⟩)
theorem copied_fn (o : Opt) (h : o.val.length ≤ 140737488355328) : Sp Tryz.prog 155 [aggO o] [] (Is (aggO o)) := by
 refine yv Tryz.func155 _ Tryz.ntmps155 (fun w0 R0 => ?_)
 refine zx (zm ?_)
 refine ya ?_
 intro B1
 refine zd ?_
 intro B2
 refine zD (zl (zx ?_))
 refine yj 5 ?_
 simp only [List.take_succ_cons, List.take_zero, List.drop_succ_cons, List.drop_zero]
 refine yw ?_
 refine zU ?_
 refine yw ?_
 refine zU ?_
 refine FA.opN (O.appendNil rfl (by rfl) (by rfl) rfl rfl (by exact SrcA.ro TyD.ax (by (simp; done)) (Nat.le_of_ble_eq_true rfl)) (by (simp [AV.cells, AV.one, *]; done)) (by (unfold maxLen; omega)) (by omega)) rfl rfl rfl rfl ?_
 refine wg ?_
 simp only [chosen, List.nil_append, List.cons_append, List.append_nil]
 rintro _ _ ⟨V3, rfl, hV3, rfl⟩
 simp only [List.cons_append, List.nil_append]
 refine AO.g ?_
 refine yU 0 [7] ?_
 refine AO.u ?_
 dsimp only [List.map, List.eraseIdx, List.cons_append, List.nil_append]
 refine z8 ?_
 refine zb 0 rfl rfl rfl rfl rfl rfl (zD (zl (y1 ?_)))
 refine AQ.retCell rfl rfl (by repeat (exact List.Mem.head _)) (by rfl) rfl ⟨_, List.nil_sublist _, .nil⟩ (⟨rfl, rfl⟩)
end Go.Proofs.YtojomcdjcpmnkaaGreat.By

namespace Go.Proofs.YtojomcdjcpmnkaaGreat.By
open Go.RowKit L A
set_option linter.unusedVariables false
set_option maxRecDepth 20000
set_option linter.unusedSimpArgs false
attribute [local irreducible] AW AQ AO
theorem cls_in (n : Int) : 1 ≤ cls n ∧ cls n ≤ 3 := by unfold cls; (repeat' split) <;> omega
def inO (c : Int) (o : Opt) : Opt := if o.num = 6 ∧ rs c = true then ⟨o.num, []⟩ else o
def inL (c : Int) (os : List Opt) : List Opt := (os.filter fun o => decide (cls o.num ≠ 2)).map (inO c)
def outL (os : List Opt) : List Opt := os.filter fun o => decide (cls o.num = 2 ∨ o.num = 6)
def watchB (os : List Opt) : Bool := os.any fun o => decide (o.num = 6)
def badB (os : List Opt) : Bool := os.any fun o => decide (o.num = 9 ∨ o.num = 35)
theorem inL_snoc (c : Int) (os : List Opt) (o : Opt) : inL c (os ++ [o]) = if cls o.num ≠ 2 then inL c os ++ [inO c o] else inL c os := by
 unfold inL
 rw [List.filter_append, List.map_append]
 by_cases h : cls o.num = 2 <;> simp [h]
theorem outL_snoc (os : List Opt) (o : Opt) : outL (os ++ [o]) = if cls o.num = 2 ∨ o.num = 6 then outL os ++ [o] else outL os := by
 unfold outL
 rw [List.filter_append]
 by_cases h : cls o.num = 2 ∨ o.num = 6 <;> simp [h]
theorem watchB_snoc (os : List Opt) (o : Opt) : watchB (os ++ [o]) = (watchB os || decide (o.num = 6)) := by simp [watchB]
theorem badB_snoc (os : List Opt) (o : Opt) : badB (os ++ [o]) = (badB os || decide (o.num = 9 ∨ o.num = 35)) := by simp [badB]
theorem inL_len (c : Int) (os : List Opt) : (inL c os).length ≤ os.length := by rw [inL, List.length_map]; exact List.length_filter_le _ _
theorem outL_len (os : List Opt) : (outL os).length ≤ os.length := List.length_filter_le _ _
def outC (m : Msg) : Int := if rq m.code = true then (if watchB m.opts = true then 5 else 2) else (if watchB m.opts = true then 69 else 68)
def inM (m : Msg) : Msg := ⟨0, m.code, 0, [], inL m.code m.opts, m.pay⟩
def outM (m : Msg) : Msg := ⟨m.ty, outC m, m.id, m.tok, outL m.opts, []⟩
def splitR (m : Msg) : Msg × Msg × Int :=
 if ValM m ∧ (rq m.code = true ∨ rs m.code = true) then (if badB m.opts = true then (Msg.none, Msg.none, 15) else (inM m, outM m, 0)) else (Msg.none, Msg.none, 1)
abbrev res3 (r : Msg × Msg × Int) : AV := .tup [aggM r.1, aggM r.2.1, .val (.int .i64 r.2.2)]
theorem ret3M {m a b : Msg} {e : Int} (h : splitR m = (a, b, e)) : Is (res3 (splitR m)) (.tup [aggM a, aggM b, .val (.int .i64 e)]) [] := by rw [h]; exact ⟨rfl, rfl⟩
theorem ValM.sm {m : Msg} (h : ValM m) : m.tok.length ≤ 8 ∧ m.pay.length ≤ 4096 ∧ m.opts.length ≤ 32 ∧ ∀ k, k < m.opts.length → (oat m.opts k).val.length ≤ 1034 := by
 obtain ⟨⟨-, h2, h3, -, -, h6⟩, -⟩ := h
 exact ⟨by omega, by omega, by omega, fun k hk => by have := (AscO_at h3 hk).2.2; omega⟩
set_option maxHeartbeats 8000000 in
theorem split_fn (m : Msg) : Sp Tryz.prog 114 [aggM m] [] (Is (res3 (splitR m))) := by
 have bT : ∀ {b : Bool}, b = true → rq m.code = b → True := fun _ _ => trivial
 refine yv Tryz.func114 _ Tryz.ntmps114 (fun w0 R0 => ?_)
 refine zx (zm ?_)
 refine ya ?_
 intro B1
 refine zd ?_
 intro B2
 refine zd ?_
 intro B3
 refine zc (zD (zl (zx (zx (zm ?_)))))
 refine zG ?_
 refine wI (xl rfl Tryz.func119 rfl rfl rfl (enc_fn m)) ?_
 refine za ?_
 refine zW ?_
 refine zW ?_
 refine zc ?_
 refine zc (zD (zl (zx (zm ?_))))
 refine za ?_
 refine yX ?_
 refine za ?_
 refine zE ?_
 refine AO.opG rfl rfl rfl (fun hp => yy 22 rfl (by exact hp)) ?_
 refine AO.opG rfl rfl rfl (fun hp => wL 23 rfl (by exact hp) (xl rfl Tryz.func152 rfl rfl rfl (sreq_fn m.code))) ?_
 refine AO.opG rfl rfl rfl (fun hp => xX 24 rfl (by exact hp)) ?_
 refine AO.opG rfl rfl rfl (fun hp => wL 25 rfl (by exact hp) ze) ?_
 refine zE ?_
 refine AO.opG rfl rfl rfl (fun hp => yy 27 rfl (by exact hp)) ?_
 refine AO.opG rfl rfl rfl (fun hp => wL 28 rfl (by exact hp) (xl rfl Tryz.func153 rfl rfl rfl (sresp_fn m.code))) ?_
 refine AO.opG rfl rfl rfl (fun hp => xX 29 rfl (by exact hp)) ?_
 refine AO.opG rfl rfl rfl (fun hp => wl 26 rfl (by exact hp)) ?_
 refine zB (zD (zl ?_))
 refine yn (fun h => ?_) (fun h => ?_) <;> (try simp only [wN] at h)
 ·skip
  have e : splitR m = (Msg.none, Msg.none, 1) := if_neg (by
   rintro ⟨hv, hc⟩
   rw [encR_t hv] at h
   simp at h
   simp [h.1, h.2] at hc)
  refine zx (zm ?_)
  refine z8 ?_
  refine z8 ?_
  refine zb 1 rfl rfl rfl rfl rfl rfl ?_
  refine zb 0 rfl rfl rfl rfl rfl rfl ?_
  refine zc (zD (zl (y1 (xi ?_))))
  refine FnQ.coe z9 zI (ret3M e)
 have hv : ValM m := Classical.byContradiction fun hv => by rw [encR_f hv] at h; simp at h
 have hc : rq m.code = true ∨ rs m.code = true := by rw [encR_t hv] at h; simp at h; cases hq : rq m.code <;> simp_all
 obtain ⟨s1, s2, s3, s4⟩ := hv.sm
 refine yN (zl (zx ?_))
 refine yj 7 ?_
 simp only [List.take_succ_cons, List.take_zero, List.drop_succ_cons, List.drop_zero]
 refine yw ?_
 refine zU ?_
 refine yw ?_
 refine zU ?_
 refine wJ (OpW.frzR (O.appendNil rfl (by rfl) (by rfl) rfl rfl (by exact SrcA.ro TyD.ax (by (simp; done)) (Nat.le_of_ble_eq_true rfl)) (by (simp [AV.cells, AV.one, *]; done)) (by (unfold maxLen; omega)) (by omega))) ?_
 refine x8 ?_
 refine y8 ?_
 refine wg ?_
 simp only [chosen, List.nil_append, List.cons_append, List.append_nil]
 rintro _ _ ⟨B4, rfl, rfl⟩
 simp only [List.cons_append, List.nil_append]
 refine zb 0 rfl rfl rfl rfl rfl rfl (zD (zl (zx ?_)))
 refine yj 9 ?_
 simp only [List.take_succ_cons, List.take_zero, List.drop_succ_cons, List.drop_zero]
 refine yw ?_
 refine zU ?_
 refine yw ?_
 refine zU ?_
 refine yw ?_
 refine zU ?_
 refine wJ (OpW.frzR (O.appendNil rfl (by rfl) (by rfl) rfl rfl (by exact SrcA.ro TyD.ax (by (simp; done)) (Nat.le_of_ble_eq_true rfl)) (by (simp [AV.cells, AV.one, *]; done)) (by (unfold maxLen; omega)) (by omega))) ?_
 refine x8 ?_
 refine y8 ?_
 refine wg ?_
 simp only [chosen, List.nil_append, List.cons_append, List.append_nil]
 rintro _ _ ⟨B5, rfl, rfl⟩
 simp only [List.cons_append, List.nil_append]
 refine zb 0 rfl rfl rfl rfl rfl rfl (zD (zl (zx (zm ?_))))
 refine zc (zD (zl (zx (zx (zm ?_)))))
 refine zn ?_
 refine zp ?_
 refine zZ ?_
 refine za (zD (zl (yS ?_)))
 refine AW.g ?_
 refine G.nilRow 96 2 ?_
 refine AW.u ?_
 refine AW.g ?_
 refine G.nilRow 96 2 ?_
 refine AW.u ?_
 refine xJ [(1, _), (2, _), (3, _), (7, _), (8, _), (50, _), (51, _)] (fun nn E H => ∃ (k : Nat) (V V' : Value), (k ≤ m.opts.length) ∧ (V.oneCell' = true) ∧ (V'.oneCell' = true) ∧ (badB (m.opts.take k) = false) ∧ nn = m.opts.length - k ∧ E = [(9, .val (.bool (watchB (m.opts.take k)))), (52, .val (.int .i64 (k : Int)))] ∧ H = [.row V 96 2 (inL m.code (m.opts.take k)).length (optsA (inL m.code (m.opts.take k))), .row V' 96 2 (outL (m.opts.take k)).length (optsA (outL (m.opts.take k))), .blk B4 29 6 [.val (.int .i64 0), .val (.int .i64 m.code), .val (.int .i64 0), .val (.slice none 0 0), .val V, roB m.pay], .blk B5 29 6 [.val (.int .i64 m.ty), .val (.int .i64 0), .val (.int .i64 m.id), roB m.tok, .val V', .val (.slice none 0 0)], .blk B3 29 6 [.val (.int .i64 0), .val (.int .i64 0), .val (.int .i64 0), .val (.slice none 0 0), .val (.slice none 0 0), .val (.slice none 0 0)], .blk B2 29 6 [.val (.int .i64 0), .val (.int .i64 0), .val (.int .i64 0), .val (.slice none 0 0), .val (.slice none 0 0), .val (.slice none 0 0)], .blk B1 29 6 [.val (.int .i64 m.ty), .val (.int .i64 m.code), .val (.int .i64 m.id), roB m.tok, roO m.opts, roB m.pay]]) _ (⟨0, _, _, by omega, rfl, rfl, rfl, rfl, rfl, rfl⟩) ?_
 rintro nn E H ⟨k, V, V', hk, hV, hV', hb, rfl, rfl, rfl⟩
 dsimp only [List.cons_append, List.nil_append]
 have hl1 := inL_len m.code (m.opts.take k)
 have hl2 := outL_len (m.opts.take k)
 rw [List.length_take] at hl1 hl2
 refine zx (zm ?_)
 refine zH (zD (zl (zx ?_)))
 refine yn (fun h2 => ?_) (fun h2 => ?_) <;> (try simp only [wN] at h2)
 ·skip
  have hkk : k < m.opts.length := by omega
  have hv4 : (oat m.opts k).val.length ≤ 140737488355328 := by have := s4 k hkk; omega
  have hci := cls_in (oat m.opts k).num
  refine yN (zl (zx (yS (zx (zm ?_)))))
  refine yh ?_
  refine y0 ?_
  refine zd ?_
  intro B6
  refine zb 0 rfl rfl rfl rfl rfl rfl (zD (zl (zx (zx (zm ?_)))))
  refine zn ?_
  refine zo ?_
  refine yd ?_
  refine za ?_
  refine zE ?_
  refine AO.opG rfl rfl rfl (fun hp => zu 60 rfl (by exact hp)) ?_
  refine AO.opG rfl rfl rfl (fun hp => y9 61 rfl (by exact hp)) ?_
  refine zB (zD (zl ?_))
  refine yn (fun h3 => ?_) (fun h3 => ?_) <;> (try simp only [wN] at h3)
  ·skip
   have e : splitR m = (Msg.none, Msg.none, 15) := by
    rw [splitR, if_pos ⟨hv, hc⟩, if_pos]
    exact List.any_eq_true.2 ⟨oat m.opts k, getD_mem _ hkk, by simpa using h3⟩
   refine zx (zm ?_)
   refine z8 ?_
   refine z8 ?_
   refine zb 6 rfl rfl rfl rfl rfl rfl ?_
   refine zb 5 rfl rfl rfl rfl rfl rfl ?_
   refine zc (zD (zl (y1 (xi ?_))))
   refine wb (xi ?_)
   refine AQ.loopR ?_
   refine wb (xi ?_)
   refine FnQ.coe yr zI (ret3M e)
  refine yN (zl (zx (zm ?_)))
  refine zn ?_
  refine zo ?_
  refine wI (xl rfl Tryz.func154 rfl rfl rfl (class_fn _)) ?_
  refine zc (zD (zl (zx (zx (zm ?_)))))
  refine za ?_
  refine wI (O.and_ rfl rfl rfl (andI64 1 (by decide) (by decide) (m := 2) (by decide) (by omega))) ?_
  refine yX (zD (zl ?_))
  have hb' : badB (m.opts.take (k + 1)) = false := by rw [take_snoc Opt.none hkk, badB_snoc, hb, Bool.false_or]; exact decide_eq_false (fun hx => hx.elim h3.1 h3.2)
  have hw' : watchB (m.opts.take (k + 1)) = (watchB (m.opts.take k) || decide ((oat m.opts k).num = 6)) := by rw [take_snoc Opt.none hkk, watchB_snoc]
  have hin := inL_snoc m.code (m.opts.take k) (oat m.opts k)
  have hou := outL_snoc (m.opts.take k) (oat m.opts k)
  rw [← take_snoc Opt.none hkk] at hin hou
  refine xd [(1, _), (2, _), (3, _), (7, _), (8, _), (9, _), (11, _), (12, _), (50, _), (51, _), (52, _)] (fun E H => ∃ (W : Value), (W.oneCell' = true) ∧ E = [] ∧ H = [.blk B6 96 2 [.val (.int .i64 (oat m.opts k).num), roB (oat m.opts k).val], .row W 96 2 (inL m.code (m.opts.take (k + 1))).length (optsA (inL m.code (m.opts.take (k + 1)))), .row V' 96 2 (outL (m.opts.take k)).length (optsA (outL (m.opts.take k))), .blk B4 29 6 [.val (.int .i64 0), .val (.int .i64 m.code), .val (.int .i64 0), .val (.slice none 0 0), .val W, roB m.pay], .blk B5 29 6 [.val (.int .i64 m.ty), .val (.int .i64 0), .val (.int .i64 m.id), roB m.tok, .val V', .val (.slice none 0 0)], .blk B3 29 6 [.val (.int .i64 0), .val (.int .i64 0), .val (.int .i64 0), .val (.slice none 0 0), .val (.slice none 0 0), .val (.slice none 0 0)], .blk B2 29 6 [.val (.int .i64 0), .val (.int .i64 0), .val (.int .i64 0), .val (.slice none 0 0), .val (.slice none 0 0), .val (.slice none 0 0)], .blk B1 29 6 [.val (.int .i64 m.ty), .val (.int .i64 m.code), .val (.int .i64 m.id), roB m.tok, roO m.opts, roB m.pay]]) (fun h71 => ?_) (fun h71 => ?_) ?_ <;> try (try simp only [wN] at h71)
  ·skip
   rw [if_pos (by omega)] at hin
   refine zx (zm ?_)
   refine zM ?_
   refine wI (xl rfl Tryz.func155 rfl rfl rfl (copied_fn (oat m.opts k) hv4)) ?_
   refine zd ?_
   intro B7
   refine zb 0 rfl rfl rfl rfl rfl rfl (zD (zl (zx (zx (zm ?_)))))
   refine zn ?_
   refine zp ?_
   refine yd ?_
   refine za ?_
   refine zE ?_
   refine AO.opG rfl rfl rfl (fun hp => yy 78 rfl (by exact hp)) ?_
   refine AO.opG rfl rfl rfl (fun hp => wL 79 rfl (by exact hp) (xl rfl Tryz.func153 rfl rfl rfl (sresp_fn m.code))) ?_
   refine zN (zD (zl ?_))
   refine yn (fun h81 => ?_) (fun h81 => ?_) <;> (try simp only [wN] at h81)
   ·skip
    have hi2 : inO m.code (oat m.opts k) = ⟨(oat m.opts k).num, []⟩ := if_pos h81
    rw [hi2] at hin
    refine zm ?_
    refine zn ?_
    refine zb 0 rfl rfl rfl rfl rfl rfl (zD (zl (zm ?_)))
    refine zn ?_
    refine zp ?_
    refine zM ?_
    refine zK ?_
    intro B8
    refine AO.g ?_
    refine wB 0 86 rfl rfl ⟨Nat.le_refl _, by unfold maxLen; omega⟩ ?_
    refine xF 86 ?_
    refine AO.u ?_
    dsimp only [List.eraseIdx]
    refine zy 2 rfl rfl rfl rfl (by rfl) (by rfl) rfl rfl rfl (by exact SrcA.ro TyD.ax (by rfl) (Nat.le_of_ble_eq_true rfl)) (by rfl) (by (unfold maxLen; omega)) ?_
    intro V9 hV9
    refine zn ?_
    refine yT 4 rfl rfl rfl rfl rfl rfl (zD ?_)
    refine AQ.g ?_
    refine G.coeRow 2 _ (optsA (inL m.code (m.opts.take k)) ++ [.val (.int .i64 (oat m.opts k).num), roB []]) rfl rfl (CoeL.app CoeL.refl (CoeL.cons Coe.rfl (CoeL.cons Coe.nil CoeL.nil))) ?_
    refine AQ.u ?_
    refine AQ.midI _ _ (⟨_, ‹_›, rfl, by rw [hin, optsA_snoc, List.length_append]⟩) (by repeat (first | exact envNil | refine envCons rfl ?_)) (by repeat (exact envNil)) (by repeat (first | exact subPnil | refine subPcons 1 rfl ?_))
   have hi2 : inO m.code (oat m.opts k) = oat m.opts k := if_neg (fun hh => by have := h81 hh.1; rw [hh.2] at this; cases this)
   rw [hi2] at hin
   refine yN (zl (zm ?_))
   refine zn ?_
   refine zp ?_
   refine zM ?_
   refine zK ?_
   intro B10
   refine AO.g ?_
   refine wB 0 86 rfl rfl ⟨Nat.le_refl _, by unfold maxLen; omega⟩ ?_
   refine xF 86 ?_
   refine AO.u ?_
   dsimp only [List.eraseIdx]
   refine zy 2 rfl rfl rfl rfl (by rfl) (by rfl) rfl rfl rfl (by exact SrcA.ro TyD.ax (by rfl) (Nat.le_of_ble_eq_true rfl)) (by rfl) (by (unfold maxLen; omega)) ?_
   intro V11 hV11
   refine zn ?_
   refine yT 4 rfl rfl rfl rfl rfl rfl (zD ?_)
   refine AQ.midI _ _ (⟨_, ‹_›, rfl, by rw [hin, optsA_snoc, List.length_append]⟩) (by repeat (first | exact envNil | refine envCons rfl ?_)) (by repeat (exact envNil)) (by repeat (first | exact subPnil | refine subPcons 1 rfl ?_))
  ·skip
   rw [if_neg (by omega)] at hin
   refine yN ?_
   refine yI _ _ (⟨V, hV, rfl, by rw [hin]⟩)
  rintro E1 H1 ⟨W, hW, rfl, rfl⟩
  dsimp only [List.cons_append, List.nil_append]
  refine zl (zx (zx (zm ?_)))
  refine za ?_
  refine yd ?_
  refine za ?_
  refine zE ?_
  refine AO.opG rfl rfl rfl (fun hp => zu 92 rfl (by exact hp)) ?_
  refine AO.opG rfl rfl rfl (fun hp => y9 93 rfl (by exact hp)) ?_
  refine zB (zD (zl ?_))
  refine xd [(1, _), (2, _), (3, _), (7, _), (8, _), (9, _), (11, _), (50, _), (51, _), (52, _)] (fun E H => ∃ (W' : Value), (W'.oneCell' = true) ∧ E = [] ∧ H = [.blk B6 96 2 [.val (.int .i64 (oat m.opts k).num), roB (oat m.opts k).val], .row W 96 2 (inL m.code (m.opts.take (k + 1))).length (optsA (inL m.code (m.opts.take (k + 1)))), .row W' 96 2 (outL (m.opts.take (k + 1))).length (optsA (outL (m.opts.take (k + 1)))), .blk B4 29 6 [.val (.int .i64 0), .val (.int .i64 m.code), .val (.int .i64 0), .val (.slice none 0 0), .val W, roB m.pay], .blk B5 29 6 [.val (.int .i64 m.ty), .val (.int .i64 0), .val (.int .i64 m.id), roB m.tok, .val W', .val (.slice none 0 0)], .blk B3 29 6 [.val (.int .i64 0), .val (.int .i64 0), .val (.int .i64 0), .val (.slice none 0 0), .val (.slice none 0 0), .val (.slice none 0 0)], .blk B2 29 6 [.val (.int .i64 0), .val (.int .i64 0), .val (.int .i64 0), .val (.slice none 0 0), .val (.slice none 0 0), .val (.slice none 0 0)], .blk B1 29 6 [.val (.int .i64 m.ty), .val (.int .i64 m.code), .val (.int .i64 m.id), roB m.tok, roO m.opts, roB m.pay]]) (fun h95 => ?_) (fun h95 => ?_) ?_ <;> try (try simp only [wN] at h95)
  ·skip
   rw [if_pos h95] at hou
   refine yj 5 ?_
   simp only [List.take_succ_cons, List.take_zero, List.drop_succ_cons, List.drop_zero]
   refine yw ?_
   refine zU ?_
   refine wJ (zC rfl rfl) ?_
   refine wJ (xl rfl Tryz.func155 rfl rfl rfl (copied_fn (oat m.opts k) hv4)) ?_
   refine wJ (OpW.frz (z7 rfl rfl rfl) (by (unfold maxLen; omega))) ?_
   refine wg ?_
   simp only [chosen, List.nil_append, List.cons_append, List.append_nil]
   refine zy 2 rfl rfl rfl rfl (by rfl) (by rfl) rfl rfl rfl (by exact SrcA.ro TyD.ax (by rfl) (Nat.le_of_ble_eq_true rfl)) (by rfl) (by (unfold maxLen; omega)) ?_
   intro V12 hV12
   refine zn ?_
   refine yT 4 rfl rfl rfl rfl rfl rfl (zD ?_)
   refine yI _ _ (⟨_, ‹_›, rfl, by rw [hou, optsA_snoc, List.length_append]⟩)
  ·skip
   rw [if_neg (by omega)] at hou
   refine yN ?_
   refine yI _ _ (⟨V', hV', rfl, by rw [hou]⟩)
  rintro E1 H1 ⟨W', hW', rfl, rfl⟩
  dsimp only [List.cons_append, List.nil_append]
  refine zl (zm ?_)
  refine za ?_
  refine za ?_
  refine zE ?_
  refine AO.opG rfl rfl rfl (fun hp => zu 105 rfl (by exact hp)) ?_
  refine AO.opG rfl rfl rfl (fun hp => y9 106 rfl (by exact hp)) ?_
  refine zB ?_
  refine zc (zD (y5 (zl (zm ?_))))
  refine zr ?_
  refine za (zD ?_)
  refine zF _ _ _ (by omega) (⟨k + 1, W, W', by omega, hW, hW', hb', rfl, by rw [hw'], rfl⟩)
 obtain rfl : k = m.opts.length := by omega
 rw [List.take_length] at hb hl1 hl2 ⊢
 have hnb : ¬ badB m.opts = true := by rw [hb]; simp
 have e0 : splitR m = (inM m, outM m, 0) := by rw [splitR, if_pos ⟨hv, hc⟩, if_neg hnb]
 refine AW.g ?_
 refine G.freezeCell 0 1 4 rfl rfl rfl ?_
 refine AW.u ?_
 refine AW.g ?_
 refine G.freezeCell 0 1 4 rfl rfl rfl ?_
 refine AW.u ?_
 refine xD ?_
 refine xr ?_
 refine xA ?_
 refine yZ (zl (zx (yS (zx (zm ?_)))))
 refine zn ?_
 refine zp ?_
 refine wI (xl rfl Tryz.func152 rfl rfl rfl (sreq_fn m.code)) ?_
 refine za ?_
 refine yu ?_
 refine zN ?_
 refine zc (zD (zl ?_))
 refine yn (fun ha => ?_) (fun ha => ?_) <;> (try simp only [wN] at ha)
 ·skip
  have e1 : outC m = 5 := by rw [outC, if_pos ha.1, if_pos ha.2]
  have e : splitR m = (inM m, ⟨m.ty, 5, m.id, m.tok, outL m.opts, []⟩, 0) := by rw [e0, outM, e1]
  refine zm ?_
  refine zn ?_
  refine zb 1 rfl rfl rfl rfl rfl rfl (zD (y5 (zl (zx ?_))))
  refine xf [(0, false), (1, false), (2, true), (3, true), (4, false)] ?_
  dsimp only [List.eraseIdx]
  refine yF ?_
  refine ym ?_
  refine wk _ (fun w0 R0 => ?_)
  refine zb 0 rfl rfl rfl rfl rfl rfl (AM.okN ?_)
  dsimp only [putE]
  refine wk _ (fun w0 R0 => ?_)
  refine zb 1 rfl rfl rfl rfl rfl rfl (AM.okN ?_)
  dsimp only [putE]
  refine wM rfl zh ?_
  refine AM.nil ?_
  dsimp only [List.cons_append, List.nil_append]
  refine zl (y1 ?_)
  refine FnQ.coe zL zI (ret3M e)
 refine zx (zm ?_)
 refine zn ?_
 refine zp ?_
 refine wI (xl rfl Tryz.func152 rfl rfl rfl (sreq_fn m.code)) ?_
 refine zc (zD (zl ?_))
 refine yn (fun hd => ?_) (fun hd => ?_) <;> (try simp only [wN] at hd)
 ·skip
  have e1 : outC m = 2 := by rw [outC, if_pos hd, if_neg (by rw [ha hd]; simp)]
  have e : splitR m = (inM m, ⟨m.ty, 2, m.id, m.tok, outL m.opts, []⟩, 0) := by rw [e0, outM, e1]
  refine zm ?_
  refine zn ?_
  refine zb 1 rfl rfl rfl rfl rfl rfl (zD (y5 (zl (zx ?_))))
  refine xf [(0, false), (1, false), (2, true), (3, true), (4, false)] ?_
  dsimp only [List.eraseIdx]
  refine yF ?_
  refine ym ?_
  refine wk _ (fun w0 R0 => ?_)
  refine zb 0 rfl rfl rfl rfl rfl rfl (AM.okN ?_)
  dsimp only [putE]
  refine wk _ (fun w0 R0 => ?_)
  refine zb 1 rfl rfl rfl rfl rfl rfl (AM.okN ?_)
  dsimp only [putE]
  refine wM rfl zh ?_
  refine AM.nil ?_
  dsimp only [List.cons_append, List.nil_append]
  refine zl (y1 ?_)
  refine FnQ.coe zL zI (ret3M e)
 refine zx (zm ?_)
 refine za ?_
 refine zc (zD (zl ?_))
 refine yn (fun hf => ?_) (fun hf => ?_) <;> (try simp only [wN] at hf)
 ·skip
  have e1 : outC m = 69 := by rw [outC, if_neg (by rw [hd]; simp), if_pos hf]
  have e : splitR m = (inM m, ⟨m.ty, 69, m.id, m.tok, outL m.opts, []⟩, 0) := by rw [e0, outM, e1]
  refine zm ?_
  refine zn ?_
  refine zb 1 rfl rfl rfl rfl rfl rfl (zD (y5 (zl (zx ?_))))
  refine xf [(0, false), (1, false), (2, true), (3, true), (4, false)] ?_
  dsimp only [List.eraseIdx]
  refine yF ?_
  refine ym ?_
  refine wk _ (fun w0 R0 => ?_)
  refine zb 0 rfl rfl rfl rfl rfl rfl (AM.okN ?_)
  dsimp only [putE]
  refine wk _ (fun w0 R0 => ?_)
  refine zb 1 rfl rfl rfl rfl rfl rfl (AM.okN ?_)
  dsimp only [putE]
  refine wM rfl zh ?_
  refine AM.nil ?_
  dsimp only [List.cons_append, List.nil_append]
  refine zl (y1 ?_)
  refine FnQ.coe zL zI (ret3M e)
 have e1 : outC m = 68 := by rw [outC, if_neg (by rw [hd]; simp), if_neg (by rw [hf]; simp)]
 have e : splitR m = (inM m, ⟨m.ty, 68, m.id, m.tok, outL m.opts, []⟩, 0) := by rw [e0, outM, e1]
 refine zm ?_
 refine zn ?_
 refine zb 1 rfl rfl rfl rfl rfl rfl (zD (y5 (zl (zx ?_))))
 refine xf [(0, false), (1, false), (2, true), (3, true), (4, false)] ?_
 dsimp only [List.eraseIdx]
 refine yF ?_
 refine ym ?_
 refine wk _ (fun w0 R0 => ?_)
 refine zb 0 rfl rfl rfl rfl rfl rfl (AM.okN ?_)
 dsimp only [putE]
 refine wk _ (fun w0 R0 => ?_)
 refine zb 1 rfl rfl rfl rfl rfl rfl (AM.okN ?_)
 dsimp only [putE]
 refine wM rfl zh ?_
 refine AM.nil ?_
 dsimp only [List.cons_append, List.nil_append]
 refine zl (y1 ?_)
 refine FnQ.coe zL zI (ret3M e)
end Go.Proofs.YtojomcdjcpmnkaaGreat.By

namespace Go.Proofs.YtojomcdjcpmnkaaGreat.By
open Go.RowKit L A
set_option linter.unusedVariables false
set_option maxRecDepth 20000
set_option linter.unusedSimpArgs false
attribute [local irreducible] AW AQ AO
def ltO (os : List Opt) (n : Int) : List Opt := os.filter fun o => decide (o.num < n)
def gtO (os : List Opt) (n : Int) : List Opt := os.filter fun o => decide (n < o.num)
def eqO (n : Int) (vs : List (List UInt8)) : List Opt := vs.map fun v => ⟨n, v⟩
def setO (os : List Opt) (n : Int) (vs : List (List UInt8)) : List Opt := ltO os n ++ eqO n vs ++ gtO os n
theorem ltO_snoc (os : List Opt) (o : Opt) (n : Int) : ltO (os ++ [o]) n = if o.num < n then ltO os n ++ [o] else ltO os n := by
 unfold ltO
 rw [List.filter_append]
 by_cases h : o.num < n <;> simp [h]
theorem gtO_snoc (os : List Opt) (o : Opt) (n : Int) : gtO (os ++ [o]) n = if n < o.num then gtO os n ++ [o] else gtO os n := by
 unfold gtO
 rw [List.filter_append]
 by_cases h : n < o.num <;> simp [h]
theorem ltO_len (os : List Opt) (n : Int) : (ltO os n).length ≤ os.length := List.length_filter_le _ _
theorem gtO_len (os : List Opt) (n : Int) : (gtO os n).length ≤ os.length := List.length_filter_le _ _
theorem eqO_len (n : Int) (vs : List (List UInt8)) : (eqO n vs).length = vs.length := by simp [eqO]
theorem setO_mem {os : List Opt} {n : Int} {vs : List (List UInt8)} {o : Opt} (h : o ∈ setO os n vs) : o ∈ os ∨ ∃ v ∈ vs, o = ⟨n, v⟩ := by
 unfold setO ltO gtO eqO at h
 simp only [List.mem_append, List.mem_filter, List.mem_map] at h
 rcases h with (h | ⟨v, h, rfl⟩) | h
 ·exact .inl h.1
 ·exact .inr ⟨v, h, rfl⟩
 exact .inl h.1
theorem setO_len (os : List Opt) (n : Int) (vs : List (List UInt8)) : (setO os n vs).length ≤ os.length + os.length + vs.length := by
 have := ltO_len os n
 have := gtO_len os n
 simp only [setO, List.length_append, eqO_len]; omega
set_option maxHeartbeats 4000000 in
theorem set_fn (m : Msg) (n : Int) (vs : List (List UInt8)) (h1 : m.tok.length ≤ 140737488355328) (h2 : m.pay.length ≤ 140737488355328) (h3 : m.opts.length ≤ 100000) (h4 : vs.length ≤ 100000) (hat : ∀ o ∈ m.opts, o.val.length ≤ 140737488355328) (hvs : ∀ v ∈ vs, v.length ≤ 140737488355328) :
  Sp Tryz.prog 25 [aggM m, .val (.int .i64 n), roBs vs] [] (Is (aggM ⟨m.ty, m.code, m.id, m.tok, setO m.opts n vs, m.pay⟩)) := by
 have hat2 : ∀ o ∈ setO m.opts n vs, o.val.length ≤ 140737488355328 := fun o ho => by
  rcases setO_mem ho with h | ⟨v, h, rfl⟩
  ·exact hat o h
  exact hvs v h
 have hsl := setO_len m.opts n vs
 refine yv Tryz.func25 _ Tryz.ntmps25 (fun w0 R0 => ?_)
 refine zx (zm ?_)
 refine ya ?_
 intro B1
 refine zd ?_
 intro B2
 refine zD (zl (zx (zm ?_)))
 refine zc (zD (zl (zx (zx (zm ?_)))))
 refine zn ?_
 refine zp ?_
 refine zZ ?_
 refine za (zD (zl (yS ?_)))
 refine AW.g ?_
 refine G.nilRow 96 2 ?_
 refine AW.u ?_
 refine zg [(1, _), (2, _), (3, _), (6, _), (15, _), (16, _)] (fun nn E H => ∃ (k : Nat) (V : Value), (k ≤ m.opts.length) ∧ (V.oneCell' = true) ∧ nn = m.opts.length - k ∧ E = [(7, .val V), (17, .val (.int .i64 (k : Int)))] ∧ H = [.row V 96 2 (ltO (m.opts.take k) n).length (optsA (ltO (m.opts.take k) n)), .blk B2 29 6 [.val (.int .i64 0), .val (.int .i64 0), .val (.int .i64 0), .val (.slice none 0 0), .val (.slice none 0 0), .val (.slice none 0 0)], .blk B1 29 6 [.val (.int .i64 m.ty), .val (.int .i64 m.code), .val (.int .i64 m.id), roB m.tok, roO m.opts, roB m.pay]]) _ (⟨0, _, by omega, rfl, rfl, rfl, rfl⟩) ?_
 rintro nn E H ⟨k, V, h5, hV, rfl, rfl, rfl⟩
 dsimp only [List.cons_append, List.nil_append]
 have hl := ltO_len (m.opts.take k) n
 rw [List.length_take] at hl
 refine zx (zm ?_)
 refine zH (zD (zl (zx ?_)))
 refine yn (fun h6 => ?_) (fun h6 => ?_) <;> (try simp only [wN] at h6)
 ·skip
  have hk : k < m.opts.length := by omega
  have hsc := ltO_snoc (m.opts.take k) (oat m.opts k) n
  rw [← take_snoc Opt.none hk] at hsc
  refine yN (zl (zx (yS (zx (zm ?_)))))
  refine yh ?_
  refine y0 ?_
  refine zd ?_
  intro B3
  refine zb 0 rfl rfl rfl rfl rfl rfl (zD (zl (zx (zm ?_))))
  refine zn ?_
  refine zo ?_
  refine za ?_
  refine zH (zD (zl ?_))
  refine yn (fun h7 => ?_) (fun h7 => ?_) <;> (try simp only [wN] at h7)
  ·skip
   rw [if_pos h7] at hsc
   refine zm ?_
   refine za ?_
   refine zM ?_
   refine zK ?_
   intro B4
   refine AO.g ?_
   refine wB 0 27 rfl rfl ⟨Nat.le_refl _, by unfold maxLen; omega⟩ ?_
   refine xF 27 ?_
   refine AO.u ?_
   dsimp only [List.eraseIdx]
   refine zy 1 rfl rfl rfl rfl (by rfl) (by rfl) rfl rfl rfl (by exact SrcA.ro TyD.ax (by rfl) (Nat.le_of_ble_eq_true rfl)) (by rfl) (by (unfold maxLen; omega)) ?_
   intro V5 hV5
   refine zc (zD (y5 (zl (zm ?_))))
   refine zr ?_
   refine za (zD ?_)
   refine zF _ _ _ (by omega) (⟨k + 1, _, by omega, ‹_›, rfl, rfl, by rw [hsc, optsA_snoc, List.length_append]⟩)
  rw [if_neg (by omega)] at hsc
  refine yN (y5 (zl (zm ?_)))
  refine zr ?_
  refine za (zD ?_)
  refine zF _ _ _ (by omega) (⟨k + 1, _, by omega, hV, rfl, rfl, by rw [hsc]⟩)
 obtain rfl : k = m.opts.length := by omega
 rw [List.take_length] at hl ⊢
 refine xD ?_
 refine xr ?_
 refine xA ?_
 refine yZ (zl (zx (zx (zm ?_))))
 refine za ?_
 refine zZ ?_
 refine za (zD (zl (yS ?_)))
 refine zg [(1, _), (3, _), (6, _), (30, _), (31, _)] (fun nn E H => ∃ (j : Nat) (V : Value), (j ≤ vs.length) ∧ (V.oneCell' = true) ∧ nn = vs.length - j ∧ E = [(7, .val V), (32, .val (.int .i64 (j : Int)))] ∧ H = [.row V 96 2 (ltO m.opts n ++ eqO n (vs.take j)).length (optsA (ltO m.opts n ++ eqO n (vs.take j))), .blk B2 29 6 [.val (.int .i64 0), .val (.int .i64 0), .val (.int .i64 0), .val (.slice none 0 0), .val (.slice none 0 0), .val (.slice none 0 0)], .blk B1 29 6 [.val (.int .i64 m.ty), .val (.int .i64 m.code), .val (.int .i64 m.id), roB m.tok, roO m.opts, roB m.pay]]) _ (⟨0, _, by omega, hV, rfl, rfl, by rw [show ltO m.opts n ++ eqO n (vs.take 0) = ltO m.opts n by simp [eqO]]⟩) ?_
 rintro nn E H ⟨j, V, h8, hV, rfl, rfl, rfl⟩
 dsimp only [List.cons_append, List.nil_append]
 have hl2 : (ltO m.opts n ++ eqO n (vs.take j)).length = (ltO m.opts n).length + j := by rw [List.length_append, eqO_len, List.length_take]; omega
 refine zx (zm ?_)
 refine zH (zD (zl (zx ?_)))
 refine yn (fun h9 => ?_) (fun h9 => ?_) <;> (try simp only [wN] at h9)
 ·skip
  have hj : j < vs.length := by omega
  have hsc : ltO m.opts n ++ eqO n (vs.take (j + 1)) = (ltO m.opts n ++ eqO n (vs.take j)) ++ [⟨n, vat vs j⟩] := by
   rw [take_snoc [] hj]; simp [eqO]
  refine yN (zl (zx (yS (zx (zm ?_)))))
  refine yh ?_
  refine wI (O.loadR rfl rfl (by exact bsA_at (by omega) (by omega))) ?_
  refine zc (zD (zl (zm ?_)))
  refine za ?_
  refine za ?_
  refine za ?_
  refine z8 ?_
  refine zK ?_
  intro B6
  refine AO.g ?_
  refine wB 0 40 rfl rfl ⟨Nat.le_refl _, by unfold maxLen; omega⟩ ?_
  refine xF 40 ?_
  refine AO.u ?_
  dsimp only [List.eraseIdx]
  refine zy 0 rfl rfl rfl rfl (by rfl) (by rfl) rfl rfl rfl (by exact SrcA.ro TyD.ax (by rfl) (Nat.le_of_ble_eq_true rfl)) (by rfl) (by (unfold maxLen; omega)) ?_
  intro V7 hV7
  refine zc (zD (y5 (zl (zm ?_))))
  refine zr ?_
  refine za (zD ?_)
  refine zj _ _ _ (by omega) (⟨j + 1, _, by omega, ‹_›, rfl, rfl, by rw [hsc, optsA_snoc, List.length_append]⟩)
 obtain rfl : j = vs.length := by omega
 rw [List.take_length] at hl2 ⊢
 refine xD ?_
 refine xr ?_
 refine xA ?_
 refine yZ (zl (zx (zx (zm ?_))))
 refine zn ?_
 refine zp ?_
 refine zZ ?_
 refine za (zD (zl (yS ?_)))
 refine zg [(1, _), (3, _), (6, _), (44, _), (45, _)] (fun nn E H => ∃ (i : Nat) (V : Value), (i ≤ m.opts.length) ∧ (V.oneCell' = true) ∧ nn = m.opts.length - i ∧ E = [(7, .val V), (46, .val (.int .i64 (i : Int)))] ∧ H = [.row V 96 2 (ltO m.opts n ++ eqO n vs ++ gtO (m.opts.take i) n).length (optsA (ltO m.opts n ++ eqO n vs ++ gtO (m.opts.take i) n)), .blk B2 29 6 [.val (.int .i64 0), .val (.int .i64 0), .val (.int .i64 0), .val (.slice none 0 0), .val (.slice none 0 0), .val (.slice none 0 0)], .blk B1 29 6 [.val (.int .i64 m.ty), .val (.int .i64 m.code), .val (.int .i64 m.id), roB m.tok, roO m.opts, roB m.pay]]) _ (⟨0, _, by omega, hV, rfl, rfl, by rw [show ltO m.opts n ++ eqO n vs ++ gtO (m.opts.take 0) n = ltO m.opts n ++ eqO n vs by simp [gtO]]⟩) ?_
 rintro nn E H ⟨i, V, h10, hV, rfl, rfl, rfl⟩
 dsimp only [List.cons_append, List.nil_append]
 have hl3 := gtO_len (m.opts.take i) n
 rw [List.length_take] at hl3
 have hl4 : (ltO m.opts n ++ eqO n vs ++ gtO (m.opts.take i) n).length = (ltO m.opts n ++ eqO n vs).length + (gtO (m.opts.take i) n).length := List.length_append
 refine zx (zm ?_)
 refine zH (zD (zl (zx ?_)))
 refine yn (fun h11 => ?_) (fun h11 => ?_) <;> (try simp only [wN] at h11)
 ·skip
  have hk : i < m.opts.length := by omega
  have hsc := gtO_snoc (m.opts.take i) (oat m.opts i) n
  rw [← take_snoc Opt.none hk] at hsc
  refine yN (zl (zx (yS (zx (zm ?_)))))
  refine yh ?_
  refine y0 ?_
  refine zd ?_
  intro B8
  refine zb 0 rfl rfl rfl rfl rfl rfl (zD (zl (zx (zm ?_))))
  refine zn ?_
  refine zo ?_
  refine za ?_
  refine y7 (zD (zl ?_))
  refine yn (fun h12 => ?_) (fun h12 => ?_) <;> (try simp only [wN] at h12)
  ·skip
   rw [if_pos h12] at hsc
   refine zm ?_
   refine za ?_
   refine zM ?_
   refine zK ?_
   intro B9
   refine AO.g ?_
   refine wB 0 56 rfl rfl ⟨Nat.le_refl _, by unfold maxLen; omega⟩ ?_
   refine xF 56 ?_
   refine AO.u ?_
   dsimp only [List.eraseIdx]
   refine zy 1 rfl rfl rfl rfl (by rfl) (by rfl) rfl rfl rfl (by exact SrcA.ro TyD.ax (by rfl) (Nat.le_of_ble_eq_true rfl)) (by rfl) (by (unfold maxLen; omega)) ?_
   intro V10 hV10
   refine zc (zD (y5 (zl (zm ?_))))
   refine zr ?_
   refine za (zD ?_)
   refine zF _ _ _ (by omega) (⟨i + 1, _, by omega, ‹_›, rfl, rfl, by rw [hsc, ← List.append_assoc, optsA_snoc, List.length_append (bs := [_])]⟩)
  rw [if_neg (by omega)] at hsc
  refine yN (y5 (zl (zm ?_)))
  refine zr ?_
  refine za (zD ?_)
  refine zF _ _ _ (by omega) (⟨i + 1, _, by omega, hV, rfl, rfl, by rw [hsc]⟩)
 obtain rfl : i = m.opts.length := by omega
 rw [List.take_length]
 refine AW.g ?_
 refine z6 0 [7] ?_
 refine AW.u ?_
 try dsimp only [List.map, List.eraseIdx, List.cons_append, List.nil_append]
 refine xD ?_
 refine xr ?_
 refine xA ?_
 refine yZ (zl (zx (zm ?_)))
 refine zG ?_
 refine za ?_
 refine wI (xl rfl Tryz.func75 rfl rfl rfl (with_fn m (setO m.opts n vs) h1 h2 (by omega) hat2)) ?_
 refine zb 0 rfl rfl rfl rfl rfl rfl (zD (zl (y1 ?_)))
 refine AQ.retCell rfl rfl (by repeat (exact List.Mem.head _)) (by (dsimp only [List.set, List.cons_append, List.nil_append, List.take, List.drop]; rfl)) rfl ⟨_, List.nil_sublist _, .nil⟩ (⟨rfl, rfl⟩)
end Go.Proofs.YtojomcdjcpmnkaaGreat.By

namespace Go.Proofs.YtojomcdjcpmnkaaGreat.By
open Go.RowKit L A Dk
set_option linter.unusedVariables false
set_option maxRecDepth 20000
set_option linter.unusedSimpArgs false
attribute [local irreducible] AW AQ AO
theorem AscO_iff : ∀ {l : Int} {os : List Opt}, AscO l os ↔ os.Pairwise (fun a b => a.num ≤ b.num) ∧ ∀ o ∈ os, l ≤ o.num ∧ o.num ≤ 65535 ∧ (o.val.length : Int) ≤ 1034
 | l, [] => by simp [AscO]
 | l, o :: os => by
  rw [AscO, AscO_iff, List.pairwise_cons]
  simp only [List.mem_cons, forall_eq_or_imp]
  constructor
  ·rintro ⟨h1, h2, h3, h4, h5⟩
   exact ⟨⟨fun a ha => (h5 a ha).1, h4⟩, ⟨h1, h2, h3⟩, fun a ha => ⟨Int.le_trans h1 (h5 a ha).1, (h5 a ha).2⟩⟩
  rintro ⟨⟨h1, h2⟩, ⟨h3, h4, h5⟩, h6⟩
  exact ⟨h3, h4, h5, h2, fun a ha => ⟨h1 a ha, (h6 a ha).2⟩⟩
theorem setO_asc {os : List Opt} {n : Int} {vs : List (List UInt8)} (h : AscO 0 os) (hn : 0 ≤ n ∧ n ≤ 65535) (hv : ∀ v ∈ vs, (v.length : Int) ≤ 1034) : AscO 0 (setO os n vs) := by
 rw [AscO_iff] at h ⊢
 obtain ⟨h1, h2⟩ := h
 refine ⟨?_, fun o ho => ?_⟩
 ·unfold setO ltO gtO eqO
  rw [List.pairwise_append, List.pairwise_append]
  refine ⟨⟨h1.filter _, ?_, ?_⟩, h1.filter _, ?_⟩
  ·rw [List.pairwise_map]
   exact List.Pairwise.imp (R := fun _ _ => True) (fun _ => Int.le_refl _) (List.pairwise_of_forall (fun _ _ => trivial))
  ·intro a ha b hb
   simp only [List.mem_filter, decide_eq_true_eq, List.mem_map] at ha hb
   obtain ⟨v, -, rfl⟩ := hb
   simp only; omega
  intro a ha b hb
  simp only [List.mem_append, List.mem_filter, decide_eq_true_eq, List.mem_map] at ha hb
  rcases ha with ha | ⟨v, -, rfl⟩
  ·omega
  simp only; omega
 rcases setO_mem ho with ho | ⟨v, hv', rfl⟩
 ·exact h2 o ho
 exact ⟨hn.1, hn.2, hv v hv'⟩
theorem setO_count (n : Int) : ∀ os : List Opt, (ltO os n).length + (allV os n).length + (gtO os n).length = os.length
 | [] => rfl
 | o :: os => by
  have := setO_count n os
  unfold ltO allV gtO at *
  simp only [List.filter_cons, List.length_map] at *
  rcases Int.lt_trichotomy o.num n with h | h | h
  ·rw [if_pos (by simpa using h), if_neg (by simp; omega), if_neg (by simp; omega)]; simp only [List.length_cons]; omega
  ·rw [if_neg (by simp; omega), if_pos (by simpa using h), if_neg (by simp; omega)]; simp only [List.length_cons]; omega
  rw [if_neg (by simp; omega), if_neg (by simp; omega), if_pos (by simpa using h)]; simp only [List.length_cons]; omega
theorem setO_more (os : List Opt) (n : Int) (v : List UInt8) : (setO os n (allV os n ++ [v])).length = os.length + 1 := by
 have := setO_count n os
 simp only [setO, List.length_append, eqO_len, List.length_cons, List.length_nil]; omega
theorem allV_mem {os : List Opt} {n : Int} {v : List UInt8} (h : v ∈ allV os n) : ∃ o ∈ os, o.val = v := by
 unfold allV at h
 obtain ⟨o, ho, rfl⟩ := List.mem_map.1 h
 exact ⟨o, (List.mem_filter.1 ho).1, rfl⟩
def CodeOk (c : Int) : Prop := 0 ≤ c ∧ c ≤ 255 ∧ ClsOk c
def OptsOk (n : Nat) (os : List Opt) : Prop := AscO 0 os ∧ os.length ≤ n ∧ ∀ o ∈ os, o.val.length ≤ 5
theorem OptsOk.add {c : Nat} {os : List Opt} (h : OptsOk c os) {n : Int} (hn : 0 ≤ n ∧ n ≤ 65535) {v : List UInt8} (hv : v.length ≤ 5) : OptsOk (c + 1) (setO os n (allV os n ++ [v])) := by
 have hm : ∀ w ∈ allV os n ++ [v], w.length ≤ 5 := fun w hw => by
  rcases List.mem_append.1 hw with hw | hw
  ·obtain ⟨o, ho, rfl⟩ := allV_mem hw
   exact h.2.2 o ho
  obtain rfl : w = v := by simpa using hw
  exact hv
 refine ⟨setO_asc h.1 hn fun w hw => by have := hm w hw; omega, by rw [setO_more]; have := h.2.1; omega, fun o ho => ?_⟩
 rcases setO_mem ho with ho | ⟨w, hw, rfl⟩
 ·exact h.2.2 o ho
 exact hm w hw
theorem set_of {m : Msg} {n : Int} {vs : List (List UInt8)} {N : Nat} {xs : List AV} (e1 : N = vs.length) (e2 : xs = bsA vs) (h1 : m.tok.length ≤ 140737488355328) (h2 : m.pay.length ≤ 140737488355328) (h3 : m.opts.length ≤ 100000) (h4 : vs.length ≤ 100000) (hat : ∀ o ∈ m.opts, o.val.length ≤ 140737488355328) (hvs : ∀ v ∈ vs, v.length ≤ 140737488355328) :
  Sp Tryz.prog 25 [aggM m, .val (.int .i64 n), .ro false N xs] [] (Is (aggM ⟨m.ty, m.code, m.id, m.tok, setO m.opts n vs, m.pay⟩)) := by
 subst e1; subst e2
 exact set_fn m n vs h1 h2 h3 h4 hat hvs
theorem OptsOk.big {n : Nat} {os : List Opt} (h : OptsOk n os) : ∀ o ∈ os, o.val.length ≤ 140737488355328 := fun o ho => by have := h.2.2 o ho; omega
theorem OptsOk.vals {n : Nat} {os : List Opt} (h : OptsOk n os) {x : Int} {v : List UInt8} (hv : v.length ≤ 5) : ∀ w ∈ allV os x ++ [v], w.length ≤ 140737488355328 := fun w hw => by
 rcases List.mem_append.1 hw with hw | hw
 ·obtain ⟨o, ho, rfl⟩ := allV_mem hw
  have := h.2.2 o ho; omega
 obtain rfl : w = v := by simpa using hw
 omega
def MsgOk (c : Int) (m : Msg) : Prop := ValM m ∧ m.code = c ∧ m.tok.length ≤ 8 ∧ m.pay.length ≤ 20 ∧ m.opts.length ≤ 5 ∧ ∀ o ∈ m.opts, o.val.length ≤ 5
theorem MsgOk.sm {c : Int} {m : Msg} (h : MsgOk c m) : SmM m := ⟨by have := h.2.2.1; omega, by have := h.2.2.2.1; omega, by have := h.2.2.2.2.1; omega, fun o ho => by have := h.2.2.2.2.2 o ho; omega⟩
theorem raw_small {m : Msg} (h1 : m.tok.length ≤ 8) (h2 : m.pay.length ≤ 20) (h3 : m.opts.length ≤ 5) (ha : AscO 0 m.opts) (h4 : ∀ o ∈ m.opts, o.val.length ≤ 5) : (raw m).length ≤ 4096 := by
 have key : ∀ (os : List Opt) (l : Int), (∀ o ∈ os, o.val.length ≤ 5) → (rawO l os).length ≤ os.length * 10 := by
  intro os
  induction os with
  | nil => intro l _; simp [rawO]
  | cons o os ih =>
   intro l h
   have g1 := ih o.num fun p hp => h p (List.mem_cons_of_mem _ hp)
   have g2 := hdr_len (o.num - l) o.val.length
   have g3 := h o (List.mem_cons_self ..)
   simp only [rawO, List.length_append, List.length_cons]; omega
 have g1 := key m.opts 0 h4
 have g2 : (if m.pay = [] then [] else (255 : UInt8) :: m.pay).length ≤ m.pay.length + 1 := by split <;> simp
 simp only [raw, headM, List.length_append, List.length_cons, List.length_nil] at g2 ⊢
 omega
theorem MsgOk.mk {t c i : Int} {x p : List UInt8} {os : List Opt} (ht : 0 ≤ t ∧ t < 2) (hc : CodeOk c) (hc0 : c ≠ 0) (hi : 0 ≤ i ∧ i < 65536) (hx : x.length ≤ 4) (ho : OptsOk 5 os) (hp : p.length ≤ 20) : MsgOk c ⟨t, c, i, x, os, p⟩ := by
 refine ⟨⟨⟨⟨ht.1, by simp only; omega, hc.1, hc.2.1, hc.2.2⟩, ⟨hi.1, by simp only; omega, by simp only; omega, by have := ho.2.1; simp only; omega⟩, ho.1, fun h => absurd h hc0, fun h => by simp only at h; omega, by simp only; omega⟩, ?_⟩, rfl, by simp only; omega, hp, ho.2.1, ho.2.2⟩
 have := raw_small (m := ⟨t, c, i, x, os, p⟩) (by simp only; omega) hp ho.2.1 ho.1 ho.2.2
 omega
theorem MsgOk.zero {t i : Int} (ht : 0 ≤ t ∧ t < 4) (hi : 0 ≤ i ∧ i < 65536) : MsgOk 0 ⟨t, 0, i, [], [], []⟩ := by
 refine ⟨⟨⟨⟨ht.1, by simp only; omega, by simp, by simp, .inl rfl⟩, ⟨hi.1, by simp only; omega, by simp, by simp⟩, trivial, fun _ => by simp, fun _ => rfl, by simp⟩, ?_⟩, rfl, by simp, by simp, by simp, by simp⟩
 have := raw_small (m := ⟨t, 0, i, [], [], []⟩) (by simp) (by simp) (by simp) trivial (by simp)
 omega
end Go.Proofs.YtojomcdjcpmnkaaGreat.By

namespace Go.Proofs.YtojomcdjcpmnkaaGreat.By
open Go.RowKit L A Dk
set_option linter.unusedVariables false
set_option maxRecDepth 20000
set_option linter.unusedSimpArgs false
attribute [local irreducible] AW AQ AO
def SmallM (m : Msg) : Prop := (m.opts.length ≤ 20 ∧ m.tok.length ≤ 900 ∧ m.pay.length ≤ 900) ∧ ∀ k, k < m.opts.length → (oat m.opts k).val.length ≤ 900
instance (m : Msg) : Decidable (SmallM m) := by unfold SmallM; infer_instance
theorem small_fn (b : List UInt8) : Sp Tryz.prog 53 [roB b] [] (Is (.val (.bool (decide ((b.length : Int) ≤ 900))))) := by
 refine yv Tryz.func53 _ Tryz.ntmps53 (fun w0 R0 => ?_)
 refine zx (zm ?_)
 refine zc (zD (zl (zx (zm ?_))))
 refine za ?_
 refine zZ ?_
 refine wG ?_
 refine zc (zD (zl (y1 ?_)))
 refine xK rfl rfl ⟨_, List.nil_sublist _, .nil⟩ (⟨rfl, rfl⟩)
set_option maxHeartbeats 4000000 in
theorem smallM_fn (m : Msg) (hp : m.opts.length ≤ maxLen) : Sp Tryz.prog 9 [aggM m] [] (Is (.val (.bool (decide (SmallM m))))) := by
 unfold maxLen at hp
 refine yv Tryz.func9 _ Tryz.ntmps9 (fun w0 R0 => ?_)
 refine zx (zm ?_)
 refine ya ?_
 intro B1
 refine zc (zD (zl (zx (zx (zm ?_)))))
 refine zn ?_
 refine zo ?_
 refine zZ ?_
 refine za (zD (zl (yS ?_)))
 refine zg [(1, _), (6, _), (7, _)] (fun nn E H => ∃ (k : Nat), (k ≤ m.opts.length) ∧ (∀ j, j < k → (oat m.opts j).val.length ≤ 900) ∧ nn = m.opts.length - k ∧ E = [(8, .val (.int .i64 (k : Int)))] ∧ H = [.blk B1 29 6 [.val (.int .i64 m.ty), .val (.int .i64 m.code), .val (.int .i64 m.id), roB m.tok, roO m.opts, roB m.pay]]) _ (⟨0, by omega, by omega, rfl, rfl, rfl⟩) ?_
 rintro nn E H ⟨k, hk, hh, rfl, rfl, rfl⟩
 dsimp only [List.cons_append, List.nil_append]
 refine zx (zm ?_)
 refine zH (zD (zl (zx ?_)))
 refine yn (fun h2 => ?_) (fun h2 => ?_) <;> (try simp only [wN] at h2)
 ·skip
  have hk2 : k < m.opts.length := by omega
  refine yN (zl (zx (yS (zx (zm ?_)))))
  refine yh ?_
  refine y0 ?_
  refine zd ?_
  intro B2
  refine zb 0 rfl rfl rfl rfl rfl rfl (zD (zl (zx (zm ?_))))
  refine zn ?_
  refine zo ?_
  refine wI (xl rfl Tryz.func53 rfl rfl rfl (small_fn _)) ?_
  refine xu (zD (zl ?_))
  refine yn (fun h3 => ?_) (fun h3 => ?_) <;> (try simp only [wN] at h3)
  ·skip
   have e : decide (SmallM m) = false := decide_eq_false fun hl => by have := hl.2 k hk2; omega
   refine zx (zm ?_)
   refine zc (zD (zl (y1 ?_)))
   refine wb (xi ?_)
   refine AQ.loopR ?_
   refine wb (xi ?_)
   refine xK rfl rfl ⟨_, List.nil_sublist _, .nil⟩ (⟨by rw [e]; rfl, rfl⟩)
  refine yN (y5 (zl (zm ?_)))
  refine zr ?_
  refine za (zD ?_)
  refine zF _ _ _ (by omega) (⟨k + 1, by omega, fun j hj => (Nat.lt_or_ge j k).elim (hh j) (fun h5 => by rw [show j = k by omega]; omega), rfl, rfl, rfl⟩)
 obtain rfl : k = m.opts.length := by omega
 refine xD ?_
 refine xr ?_
 refine xA ?_
 refine yZ (zl (zx (zm ?_)))
 refine zn ?_
 refine zo ?_
 refine zZ ?_
 refine wG ?_
 refine za ?_
 refine zE ?_
 refine AO.opG rfl rfl rfl (fun hp => zu 22 rfl (by exact hp)) ?_
 refine AO.opG rfl rfl rfl (fun hp => wL 23 rfl (by exact hp) (xl rfl Tryz.func53 rfl rfl rfl (small_fn _))) ?_
 refine zN ?_
 refine za ?_
 refine zE ?_
 refine AO.opG rfl rfl rfl (fun hp => zu 27 rfl (by exact hp)) ?_
 refine AO.opG rfl rfl rfl (fun hp => wL 28 rfl (by exact hp) (xl rfl Tryz.func53 rfl rfl rfl (small_fn _))) ?_
 refine zN ?_
 refine zc (zD (zl (y1 ?_)))
 have e : decide (SmallM m) = (decide ((m.opts.length : Int) ≤ 20) && decide ((m.tok.length : Int) ≤ 900) && decide ((m.pay.length : Int) ≤ 900)) := dec_eq (by
  simp only [SmallM, Bool.and_eq_true, decide_eq_true_eq]
  exact ⟨fun h => by have := h.1; omega, fun h => ⟨by omega, hh⟩⟩)
 refine xK rfl rfl ⟨_, List.nil_sublist _, .nil⟩ (⟨congrArg (fun z => AV.val (.bool z)) e.symm, rfl⟩)
def drL : List Int := [1, 3, 4, 6, 7, 11, 12, 14, 15, 16, 17, 23, 27, 39, 60, 252, 258, 292, 300]
theorem dr_at {z : Int} (h0 : 0 ≤ z) (h1 : z < 19) {j : Nat} (hj : j = z.toNat * 1) : ([.val (.int .i64 1), .val (.int .i64 3), .val (.int .i64 4), .val (.int .i64 6), .val (.int .i64 7), .val (.int .i64 11), .val (.int .i64 12), .val (.int .i64 14), .val (.int .i64 15), .val (.int .i64 16), .val (.int .i64 17), .val (.int .i64 23), .val (.int .i64 27), .val (.int .i64 39), .val (.int .i64 60), .val (.int .i64 252), .val (.int .i64 258), .val (.int .i64 292), .val (.int .i64 300)] : List AV)[j]? = some (.val (.int .i64 (drL.getD z.toNat 0))) := by
 subst hj
 rw [Nat.mul_one]
 have h2 : z.toNat < 19 := by omega
 have : ∀ k, k < 19 → ([1, 3, 4, 6, 7, 11, 12, 14, 15, 16, 17, 23, 27, 39, 60, 252, 258, 292, 300] : List Int)[k]? = some (drL.getD k 0) := by decide
 have := congrArg (Option.map (fun n : Int => AV.val (.int .i64 n))) (this _ h2)
 rw [← List.getElem?_map] at this
 exact this
theorem dr_mem {z : Int} (h0 : 0 ≤ z) (h1 : z < 19) : drL.getD z.toNat 0 ∈ drL := by
 have : ∀ k, k < 19 → drL.getD k 0 ∈ drL := by decide
 exact this _ (by omega)
theorem dr_in {n : Int} (h : n ∈ drL) : 0 ≤ n ∧ n ≤ 65535 := by
 have : ∀ n ∈ drL, 0 ≤ n ∧ n ≤ 65535 := by decide
 exact this n h
def Dr (n : Nat) (os : List Opt) : Prop := OptsOk n os ∧ ∀ o ∈ os, o.num ∈ drL
theorem Dr.add {c : Nat} {os : List Opt} (h : Dr c os) {n : Int} (hn : n ∈ drL) {v : List UInt8} (hv : v.length ≤ 5) : Dr (c + 1) (setO os n (allV os n ++ [v])) :=
 ⟨h.1.add (dr_in hn) hv, fun o ho => by
  rcases setO_mem ho with ho | ⟨w, hw, rfl⟩
  ·exact h.2 o ho
  exact hn⟩
theorem all_rowF (ty code id : Int) (tok : List UInt8) (os : List Opt) (pay : List UInt8) (n : Int) (h3 : os.length ≤ 1000000) (hat : ∀ o ∈ os, o.val.length ≤ 140737488355328) : Sp Tryz.prog 71 [aggM ⟨ty, code, id, tok, os, pay⟩, .val (.int .i64 n)] []
  (fun v' Hn => ∃ v : Value, v' = .val v ∧ v.oneCell' = true ∧ Hn = [.row v 22 1 (allV os n).length (bsA (allV os n))] ∧ (allV os n).length ≤ os.length) :=
 (all_row ⟨ty, code, id, tok, os, pay⟩ n h3 hat).mono fun r H' ⟨v, h1, h2, h3⟩ => ⟨v, h1, h2, h3, allV_len _ _⟩
abbrev wO (m : Msg) (os : List Opt) : Msg := ⟨m.ty, m.code, m.id, m.tok, os, m.pay⟩
set_option maxHeartbeats 4000000 in
theorem dressed_any (b : Nat) (l : List Int) (k : Nat) (m : Msg) (hl : l.length ≤ maxLen) (hk : k ≤ l.length) (hm : m.opts = []) (ht : m.tok.length ≤ 1000) (hp : m.pay.length ≤ 1000) :
  Sp Tryz.prog 56 [ptr b, aggM m] [deck b l k] (Gen b l fun r => ∃ os, Dr 5 os ∧ r = aggM (wO m os)) := by
 obtain ⟨ty, code, id, tok, opts, pay⟩ := m
 simp only at hm ht hp
 subst hm
 refine yv Tryz.func56 _ Tryz.ntmps56 (fun w0 R0 => ?_)
 refine zx (zm ?_)
 refine ya ?_
 intro B1
 refine zd ?_
 intro B2
 refine zD (zl (zx (zx (zm ?_))))
 refine za ?_
 refine AO.callMG 2 rfl rfl Tryz.func33 rfl rfl rfl rfl rfl rfl (next_any _ l _ _ hl (by assumption) (by omega) (by omega)) ?_
 rintro _ _ ⟨⟨z3, hz03, hz13, rfl⟩, kd3, hkd3, rfl⟩
 dsimp only [List.cons_append, List.nil_append, List.eraseIdx]
 refine zc (zD (zl (yS ?_)))
 obtain ⟨c0, rfl⟩ : ∃ c : Nat, z3 = (c : Int) := ⟨z3.toNat, by omega⟩
 refine zg [(0, _), (3, _), (4, _)] (fun nn E H => ∃ (c : Nat) (os : List Opt) (kk : Nat), (c ≤ 5) ∧ (Dr (5 - c) os) ∧ (kk ≤ l.length) ∧ c = nn ∧ E = [(5, .val (.int .i64 (c : Int)))] ∧ H = [deck b l kk, .blk B2 29 6 [.val (.int .i64 0), .val (.int .i64 0), .val (.int .i64 0), .val (.slice none 0 0), .val (.slice none 0 0), .val (.slice none 0 0)], .blk B1 29 6 [.val (.int .i64 ty), .val (.int .i64 code), .val (.int .i64 id), roB tok, roO os, roB pay]]) _ (⟨c0, [], kd3, by omega, ⟨⟨trivial, by simp, by simp⟩, by simp⟩, hkd3, rfl, rfl, rfl⟩) ?_
 rintro nn E H ⟨c, os, kk, hc, ho, hkk, rfl, rfl, rfl⟩
 dsimp only [List.cons_append, List.nil_append]
 have hol := ho.1.2.1
 have hal := fun x => allV_len os x
 refine zx (zx (zm ?_))
 refine za ?_
 refine y7 (zD (zl ?_))
 refine yn (fun h => ?_) (fun h => ?_) <;> (try simp only [wN] at h)
 ·skip
  obtain ⟨j, rfl⟩ : ∃ j, c = j + 1 := ⟨c - 1, by omega⟩
  refine yN (zl (zx (yS (zx (zm ?_)))))
  refine zK ?_
  intro B4
  refine AO.g ?_
  refine wB 0 13 rfl rfl ⟨Nat.le_refl _, by unfold maxLen; omega⟩ ?_
  refine xF 13 ?_
  refine AO.u ?_
  dsimp only [List.eraseIdx]
  refine za ?_
  refine AO.callMG 0 rfl rfl Tryz.func33 rfl rfl rfl rfl rfl rfl (next_any _ l _ _ hl (by assumption) (by omega) (by omega)) ?_
  rintro _ _ ⟨⟨z5, hz05, hz15, rfl⟩, kd5, hkd5, rfl⟩
  dsimp only [List.cons_append, List.nil_append, List.eraseIdx]
  refine yh ?_
  refine wI (O.loadR rfl rfl (by exact dr_at (by assumption) (by assumption) rfl)) ?_
  refine zc (zD (zl ?_))
  refine AW.regionS [[(0, false), (1, false), (2, false), (3, false), (5, false), (4, true), (6, true), (7, false), (8, true)], [(9, false)], [(10, true)]] (by kernel_rfl) (by kernel_rfl) ?_
  refine AMS.go (by exact (by exact splitBlk 0 0 rfl rfl splitNil)) ?_
  try dsimp only [List.eraseIdx]
  refine ym ?_
  refine xo ?_
  refine ym ?_
  refine xo ?_
  refine xo ?_
  refine wk _ (fun w0 R0 => ?_)
  refine AO.opN (xl rfl Tryz.func71 rfl rfl rfl (all_rowF ty code id tok os pay _ (by omega) ho.1.big)) rfl rfl rfl ?_
  rintro _ _ ⟨V6, rfl, hV6, rfl, hb6⟩
  simp only [List.cons_append, List.nil_append]
  refine AM.ok ?_
  dsimp only [putE]
  refine wk _ (fun w0 R0 => ?_)
  refine AO.callMG 1 rfl rfl Tryz.func24 rfl rfl rfl rfl rfl rfl (bytes_any _ l _ 4 hl (by assumption) (by omega)) ?_
  rintro _ _ ⟨⟨x7, hx7, rfl⟩, kd7, hkd7, rfl⟩
  dsimp only [List.cons_append, List.nil_append, List.eraseIdx]
  refine AM.ok ?_
  dsimp only [putE]
  refine wM rfl (OpW.frz (z7 rfl rfl rfl) (by (unfold maxLen; omega))) ?_
  refine wk _ (fun w0 R0 => ?_)
  refine zy 1 rfl rfl rfl rfl (by rfl) (by rfl) rfl rfl rfl (by exact SrcA.ro TyD.ax (by rfl) (Nat.le_of_ble_eq_true rfl)) (by rfl) (by (unfold maxLen; omega)) ?_
  intro V8 hV8
  refine AO.g ?_
  refine yU 1 [26] ?_
  refine AO.u ?_
  dsimp only [List.map, List.eraseIdx, List.cons_append, List.nil_append]
  refine AM.ok ?_
  dsimp only [putE]
  refine AM.nil ?_
  try dsimp only [List.cons_append, List.nil_append]
  refine AMS.go (by exact splitNil) ?_
  try dsimp only [List.eraseIdx]
  refine wM rfl (O.call rfl Tryz.func25 rfl rfl rfl (set_of (m := ⟨ty, code, id, tok, os, pay⟩) (n := drL.getD z5.toNat 0) (vs := allV os (drL.getD z5.toNat 0) ++ [x7]) (N := (allV os (drL.getD z5.toNat 0)).length + 1) (xs := bsA (allV os (drL.getD z5.toNat 0)) ++ [roB x7]) (by rw [List.length_append]; rfl) (bsA_snoc _ _).symm (by show tok.length ≤ _; omega) (by show pay.length ≤ _; omega) (by show os.length ≤ 100000; omega) (by rw [List.length_append]; simp only [List.length_cons, List.length_nil]; omega) ho.1.big (ho.1.vals (by omega)))) ?_
  refine AM.nil ?_
  try dsimp only [List.cons_append, List.nil_append]
  refine AMS.go (by exact (by exact splitBlk 3 2 rfl rfl splitNil)) ?_
  try dsimp only [List.eraseIdx]
  refine wk _ (fun w0 R0 => ?_)
  refine zb 0 rfl rfl rfl rfl rfl rfl (AM.okN ?_)
  dsimp only [putE]
  refine AM.nil ?_
  try dsimp only [List.cons_append, List.nil_append]
  refine AMS.nil (y5 (zl (zm ?_)))
  refine za ?_
  refine yl ?_
  refine zc (zD ?_)
  rw [show ((j + 1 : Nat) : Int) - 1 = (j : Int) by omega]
  have hadd := ho.add (dr_mem hz05 hz15) (v := x7) (by omega)
  rw [show 5 - (j + 1) + 1 = 5 - j by omega] at hadd
  refine xe _ _ _ (by omega) (⟨j, _, _, by omega, hadd, ‹_›, rfl, rfl, rfl⟩)
 obtain rfl : c = 0 := by omega
 refine xD ?_
 refine xr ?_
 refine xA ?_
 refine yZ (zl (zx (zm ?_)))
 refine zG ?_
 refine zb 1 rfl rfl rfl rfl rfl rfl (zD (zl (y1 ?_)))
 refine AQ.retCell rfl rfl (by repeat (first | exact List.Mem.head _ | refine List.Mem.tail _ ?_)) (by (dsimp only [List.set, List.cons_append, List.nil_append, List.take, List.drop]; rfl)) rfl ⟨_, by repeat (first | exact List.Sublist.slnil | refine List.Sublist.cons_cons _ ?_ | refine List.Sublist.cons _ ?_), List.Perm.refl _⟩ (⟨⟨os, ho, rfl⟩, kk, hkk, rfl⟩)
def rqL : List Int := [69, 68, 65, 132, 129, 160, 95]
theorem rp_at {z : Int} (h0 : 0 ≤ z) (h1 : z < 7) {j : Nat} (hj : j = z.toNat * 1) : ([.val (.int .i64 69), .val (.int .i64 68), .val (.int .i64 65), .val (.int .i64 132), .val (.int .i64 129), .val (.int .i64 160), .val (.int .i64 95)] : List AV)[j]? = some (.val (.int .i64 (rqL.getD z.toNat 0))) := by
 subst hj
 rcases (show z = 0 ∨ z = 1 ∨ z = 2 ∨ z = 3 ∨ z = 4 ∨ z = 5 ∨ z = 6 by omega) with rfl | rfl | rfl | rfl | rfl | rfl | rfl <;> rfl
def DM (q : Bool) (m : Msg) : Prop := (0 ≤ m.ty ∧ m.ty ≤ 2) ∧ (if q = true then 1 ≤ m.code ∧ m.code ≤ 7 else m.code ∈ rqL) ∧ (0 ≤ m.id ∧ m.id < 65536) ∧ (m.tok.length ≤ 4 ∧ m.pay.length ≤ 20) ∧ Dr 5 m.opts
def IsDM (q : Bool) (r : AV) : Prop := ∃ m, DM q m ∧ r = aggM m
theorem DM.code {q : Bool} {m : Msg} (h : DM q m) : CodeOk m.code ∧ rq m.code = q ∧ rs m.code = !q := by
 obtain ⟨-, h, -⟩ := h
 cases q
 ·rw [if_neg (by simp)] at h
  have : ∀ c ∈ rqL, (0 ≤ c ∧ c ≤ 255 ∧ (c / 32 = 0 ∨ c / 32 = 2 ∨ c / 32 = 4 ∨ c / 32 = 5)) ∧ rq c = false ∧ rs c = true := by decide
  exact this _ h
 rw [if_pos rfl] at h
 refine ⟨⟨by omega, by omega, ?_⟩, ?_, ?_⟩
 ·unfold ClsOk; omega
 ·unfold rq; rw [decide_eq_true h.1, decide_eq_true (show m.code ≤ 31 by omega)]; rfl
 unfold rs; exact decide_eq_false (by omega)
theorem DM.val {q : Bool} {m : Msg} (h : DM q m) : ValM m := by
 obtain ⟨c1, -, -⟩ := h.code
 obtain ⟨h1, h2, h3, h4, h5⟩ := h
 have hn0 : m.code ≠ 0 := by
  cases q
  ·rw [if_neg (by simp)] at h2
   have : ∀ c ∈ rqL, c ≠ 0 := by decide
   exact this _ h2
  rw [if_pos rfl] at h2; omega
 refine ⟨⟨⟨h1.1, by omega, c1.1, c1.2.1, c1.2.2⟩, ⟨h3.1, by omega, by omega, by have := h5.1.2.1; omega⟩, h5.1.1, fun h => absurd h hn0, fun h => by omega, by omega⟩, ?_⟩
 have := raw_small (m := m) (by omega) h4.2 h5.1.2.1 h5.1.1 h5.1.2.2
 omega
theorem CoeM {ty code id : Int} {x p : List UInt8} : Coe (.agg [.val (.int .i64 ty), .val (.int .i64 code), .val (.int .i64 id), roB x, .val (.slice none 0 0), roB p]) (aggM ⟨ty, code, id, x, [], p⟩) :=
 Coe.agg (.cons .rfl (.cons .rfl (.cons .rfl (.cons .rfl (.cons .nil (.cons .rfl .nil))))))
set_option maxHeartbeats 4000000 in
theorem request_any (b : Nat) (l : List Int) (k : Nat) (hl : l.length ≤ maxLen) (hk : k ≤ l.length) : Sp Tryz.prog 13 [ptr b] [deck b l k] (Gen b l (IsDM true)) := by
 skip
 refine yv Tryz.func13 _ Tryz.ntmps13 (fun w0 R0 => ?_)
 refine zx (zm ?_)
 refine zd ?_
 intro B1
 refine zD (zl (zx (zm ?_)))
 refine za ?_
 refine AO.callMG 1 rfl rfl Tryz.func33 rfl rfl rfl rfl rfl rfl (next_any _ l _ _ hl (by assumption) (by omega) (by omega)) ?_
 rintro _ _ ⟨⟨z2, hz02, hz12, rfl⟩, kd2, hkd2, rfl⟩
 dsimp only [List.cons_append, List.nil_append, List.eraseIdx]
 refine za ?_
 refine AO.callMG 0 rfl rfl Tryz.func33 rfl rfl rfl rfl rfl rfl (next_any _ l _ _ hl (by assumption) (by omega) (by omega)) ?_
 rintro _ _ ⟨⟨z3, hz03, hz13, rfl⟩, kd3, hkd3, rfl⟩
 dsimp only [List.cons_append, List.nil_append, List.eraseIdx]
 refine zr ?_
 refine za ?_
 refine AO.callMG 0 rfl rfl Tryz.func33 rfl rfl rfl rfl rfl rfl (next_any _ l _ _ hl (by assumption) (by omega) (by omega)) ?_
 rintro _ _ ⟨⟨z4, hz04, hz14, rfl⟩, kd4, hkd4, rfl⟩
 dsimp only [List.cons_append, List.nil_append, List.eraseIdx]
 refine za ?_
 refine AO.callMG 0 rfl rfl Tryz.func24 rfl rfl rfl rfl rfl rfl (bytes_any _ l _ 4 hl (by assumption) (by omega)) ?_
 rintro _ _ ⟨⟨x5, hx5, rfl⟩, kd5, hkd5, rfl⟩
 dsimp only [List.cons_append, List.nil_append, List.eraseIdx]
 refine za ?_
 refine AO.callMG 0 rfl rfl Tryz.func24 rfl rfl rfl rfl rfl rfl (bytes_any _ l _ 20 hl (by assumption) (by omega)) ?_
 rintro _ _ ⟨⟨x6, hx6, rfl⟩, kd6, hkd6, rfl⟩
 dsimp only [List.cons_append, List.nil_append, List.eraseIdx]
 refine z8 ?_
 refine zd ?_
 intro B7
 refine zb 0 rfl rfl rfl rfl rfl rfl (zD (zl (zx (zm ?_))))
 refine za ?_
 refine zM ?_
 refine AO.g ?_
 refine G.coe 17 rfl CoeM ?_
 refine AO.u ?_
 refine AO.callMG 1 rfl rfl Tryz.func56 rfl rfl rfl rfl rfl rfl (dressed_any _ l _ ⟨z2, 1 + z3, z4, x5, [], x6⟩ hl (by assumption) rfl (by simp only; omega) (by simp only; omega)) ?_
 rintro _ _ ⟨⟨os8, hos8, rfl⟩, kd8, hkd8, rfl⟩
 dsimp only [List.cons_append, List.nil_append, List.eraseIdx]
 refine zb 2 rfl rfl rfl rfl rfl rfl (zD (zl (y1 ?_)))
 have hdm : DM true ⟨z2, 1 + z3, z4, x5, os8, x6⟩ := ⟨⟨hz02, by simp only; omega⟩, by rw [if_pos rfl]; simp only; omega, ⟨hz04, hz14⟩, ⟨hx5, hx6⟩, hos8⟩
 refine AQ.retCell rfl rfl (by repeat (first | exact List.Mem.head _ | refine List.Mem.tail _ ?_)) (by (dsimp only [List.set, List.cons_append, List.nil_append, List.take, List.drop]; rfl)) rfl ⟨_, by repeat (first | exact List.Sublist.slnil | refine List.Sublist.cons_cons _ ?_ | refine List.Sublist.cons _ ?_), List.Perm.refl _⟩ (⟨⟨_, hdm, rfl⟩, _, hkd8, rfl⟩)
 skip
theorem response_any (b : Nat) (l : List Int) (k : Nat) (hl : l.length ≤ maxLen) (hk : k ≤ l.length) : Sp Tryz.prog 15 [ptr b] [deck b l k] (Gen b l (IsDM false)) := by
 skip
 refine yv Tryz.func15 _ Tryz.ntmps15 (fun w0 R0 => ?_)
 refine zx (zm ?_)
 refine zd ?_
 intro B1
 refine zD (zl (zx ?_))
 refine AW.regionA _ (Al.mk' (i := 14) (d := 3) (T := 29) _ rfl rfl rfl rfl rfl (by (dsimp only [List.set, List.cons_append, List.nil_append, List.take, List.drop]; done)) (by rfl)) [(0, false), (2, false), (3, false), (7, false), (9, false), (11, false), (1, true), (4, true), (5, false), (6, false), (8, true), (10, true), (12, true), (13, false), (14, true), (15, true)] (by kernel_rfl) (by kernel_rfl) (by exact (by exact splitBlk 0 1 rfl rfl splitNil)) ?_
 dsimp only [List.eraseIdx]
 refine AN.op rfl ze rfl rfl rfl ?_
 refine AN.op rfl (OpW.frz (z7 rfl rfl rfl) (by (unfold maxLen; omega))) rfl rfl rfl ?_
 refine AN.op rfl ze rfl rfl rfl ?_
 refine AN.op rfl ze rfl rfl rfl ?_
 refine AN.op rfl ze rfl rfl rfl ?_
 refine AN.op rfl ze rfl rfl rfl ?_
 refine AN.main _ rfl rfl (fun w0 R0 => ?_)
 refine AO.callMG 0 rfl rfl Tryz.func33 rfl rfl rfl rfl rfl rfl (next_any _ l _ _ hl (by assumption) (by omega) (by omega)) ?_
 rintro _ _ ⟨⟨z2, hz02, hz12, rfl⟩, kd2, hkd2, rfl⟩
 dsimp only [List.cons_append, List.nil_append, List.eraseIdx]
 refine AM.ok ?_
 dsimp only [putE]
 refine AN.main _ rfl rfl (fun w0 R0 => ?_)
 refine AO.callMG 0 rfl rfl Tryz.func33 rfl rfl rfl rfl rfl rfl (next_any _ l _ _ hl (by assumption) (by omega) (by omega)) ?_
 rintro _ _ ⟨⟨z3, hz03, hz13, rfl⟩, kd3, hkd3, rfl⟩
 dsimp only [List.cons_append, List.nil_append, List.eraseIdx]
 refine AM.ok ?_
 dsimp only [putE]
 refine AN.op rfl (yG rfl rfl rfl) rfl rfl rfl ?_
 refine AN.op rfl (O.loadR rfl rfl (by exact rp_at (by assumption) (by assumption) rfl)) rfl rfl rfl ?_
 refine AN.main _ rfl rfl (fun w0 R0 => ?_)
 refine AO.callMG 0 rfl rfl Tryz.func33 rfl rfl rfl rfl rfl rfl (next_any _ l _ _ hl (by assumption) (by omega) (by omega)) ?_
 rintro _ _ ⟨⟨z4, hz04, hz14, rfl⟩, kd4, hkd4, rfl⟩
 dsimp only [List.cons_append, List.nil_append, List.eraseIdx]
 refine AM.ok ?_
 dsimp only [putE]
 refine AN.main _ rfl rfl (fun w0 R0 => ?_)
 refine AO.callMG 0 rfl rfl Tryz.func24 rfl rfl rfl rfl rfl rfl (bytes_any _ l _ 4 hl (by assumption) (by omega)) ?_
 rintro _ _ ⟨⟨x5, hx5, rfl⟩, kd5, hkd5, rfl⟩
 dsimp only [List.cons_append, List.nil_append, List.eraseIdx]
 refine AM.ok ?_
 dsimp only [putE]
 refine AN.main _ rfl rfl (fun w0 R0 => ?_)
 refine AO.callMG 0 rfl rfl Tryz.func24 rfl rfl rfl rfl rfl rfl (bytes_any _ l _ 20 hl (by assumption) (by omega)) ?_
 rintro _ _ ⟨⟨x6, hx6, rfl⟩, kd6, hkd6, rfl⟩
 dsimp only [List.cons_append, List.nil_append, List.eraseIdx]
 refine AM.ok ?_
 dsimp only [putE]
 refine AN.op rfl (y4 rfl rfl rfl) rfl rfl rfl ?_
 refine AN.box rfl ?_
 intro B7
 dsimp only [Al.he]
 refine AN.main _ rfl rfl (fun w0 R0 => ?_)
 refine zb 0 rfl rfl rfl rfl rfl rfl (AM.okN ?_)
 dsimp only [putE]
 refine AN.nil ?_
 dsimp only [List.cons_append, List.nil_append]
 refine zl (zx (zm ?_))
 refine za ?_
 refine zM ?_
 refine AO.g ?_
 refine G.coe 19 rfl CoeM ?_
 refine AO.u ?_
 refine AO.callMG 1 rfl rfl Tryz.func56 rfl rfl rfl rfl rfl rfl (dressed_any _ l _ ⟨z2, rqL.getD z3.toNat 0, z4, x5, [], x6⟩ hl (by assumption) rfl (by simp only; omega) (by simp only; omega)) ?_
 rintro _ _ ⟨⟨os8, hos8, rfl⟩, kd8, hkd8, rfl⟩
 dsimp only [List.cons_append, List.nil_append, List.eraseIdx]
 refine zb 2 rfl rfl rfl rfl rfl rfl (zD (zl (y1 ?_)))
 have hcc : rqL.getD z3.toNat 0 ∈ rqL := by
  have : ∀ k, k < 7 → rqL.getD k 0 ∈ rqL := by decide
  exact this _ (by omega)
 have hdm : DM false ⟨z2, rqL.getD z3.toNat 0, z4, x5, os8, x6⟩ := ⟨⟨hz02, by simp only; omega⟩, by rw [if_neg (by simp)]; exact hcc, ⟨hz04, hz14⟩, ⟨hx5, hx6⟩, hos8⟩
 refine AQ.retCell rfl rfl (by repeat (first | exact List.Mem.head _ | refine List.Mem.tail _ ?_)) (by (dsimp only [List.set, List.cons_append, List.nil_append, List.take, List.drop]; rfl)) rfl ⟨_, by repeat (first | exact List.Sublist.slnil | refine List.Sublist.cons_cons _ ?_ | refine List.Sublist.cons _ ?_), List.Perm.refl _⟩ (⟨⟨_, hdm, rfl⟩, _, hkd8, rfl⟩)
end Go.Proofs.YtojomcdjcpmnkaaGreat.By

namespace Go.Proofs.YtojomcdjcpmnkaaGreat.By
open Go.RowKit L A Dk
set_option linter.unusedVariables false
set_option maxRecDepth 20000
set_option linter.unusedSimpArgs false
attribute [local irreducible] AW AQ AO
end Go.Proofs.YtojomcdjcpmnkaaGreat.By

namespace Go.Proofs.YtojomcdjcpmnkaaGreat.By
open Go.RowKit L A
set_option linter.unusedVariables false
set_option maxRecDepth 20000
set_option linter.unusedSimpArgs false
attribute [local irreducible] AW AQ AO
set_option maxHeartbeats 4000000 in
theorem owned_fn (m : Msg) (os : List Opt) (h1 : m.tok.length ≤ 140737488355328) (h2 : m.pay.length ≤ 140737488355328) (h3 : os.length ≤ 1000000) (hat : ∀ o ∈ os, o.val.length ≤ 140737488355328) :
  Sp Tryz.prog 161 [aggM m, roO os] [] (Is (aggM ⟨m.ty, m.code, m.id, m.tok, os, m.pay⟩)) := by
 refine yv Tryz.func161 _ Tryz.ntmps161 (fun w0 R0 => ?_)
 refine zx (zm ?_)
 refine ya ?_
 intro B1
 refine zd ?_
 intro B2
 refine zD (zl (zx ?_))
 refine yj 7 ?_
 simp only [List.take_succ_cons, List.take_zero, List.drop_succ_cons, List.drop_zero]
 refine yw ?_
 refine zU ?_
 refine wJ (xl rfl Tryz.func138 rfl rfl rfl (clone_fn _ (by assumption))) ?_
 refine yw ?_
 refine zU ?_
 refine wJ (xl rfl Tryz.func138 rfl rfl rfl (clone_fn _ (by assumption))) ?_
 refine yw ?_
 refine wg ?_
 simp only [chosen, List.nil_append, List.cons_append, List.append_nil]
 refine zb 1 rfl rfl rfl rfl rfl rfl ?_
 refine zn ?_
 refine zb 1 rfl rfl rfl rfl rfl rfl (zD (zl (zx (zm ?_))))
 refine zn ?_
 refine zb 1 rfl rfl rfl rfl rfl rfl (zD (zl (zx (zx (zm ?_)))))
 refine za ?_
 refine zZ ?_
 refine za (zD (zl (yS ?_)))
 refine AW.g ?_
 refine G.nilRow 96 2 ?_
 refine AW.u ?_
 refine zg [(2, _), (4, _), (16, _), (17, _)] (fun nn E H => ∃ (k : Nat) (V : Value), (k ≤ os.length) ∧ (V.oneCell' = true) ∧ nn = os.length - k ∧ E = [(18, .val (.int .i64 (k : Int)))] ∧ H = [.row V 96 2 k (optsA (os.take k)), .blk B2 29 6 [.val (.int .i64 0), .val (.int .i64 0), .val (.int .i64 0), .val (.slice none 0 0), .val (.slice none 0 0), .val (.slice none 0 0)], .blk B1 29 6 [.val (.int .i64 m.ty), .val (.int .i64 m.code), .val (.int .i64 m.id), roB m.tok, .val V, roB m.pay]]) _ (⟨0, _, by omega, rfl, rfl, rfl, rfl⟩) ?_
 rintro nn E H ⟨k, V, h4, hV, rfl, rfl, rfl⟩
 dsimp only [List.cons_append, List.nil_append]
 refine zx (zm ?_)
 refine zH (zD (zl (zx ?_)))
 refine yn (fun h5 => ?_) (fun h5 => ?_) <;> (try simp only [wN] at h5)
 ·skip
  have hk : k < os.length := by omega
  have hv : (oat os k).val.length ≤ 140737488355328 := hat _ (getD_mem Opt.none hk)
  have hsc : optsA (os.take (k + 1)) = optsA (os.take k) ++ [.val (.int .i64 (oat os k).num), roB (oat os k).val] := by rw [take_snoc Opt.none hk, optsA_snoc]
  refine yN (zl (zx (yS (zx (zm ?_)))))
  refine yh ?_
  refine y0 ?_
  refine zd ?_
  intro B3
  refine zb 0 rfl rfl rfl rfl rfl rfl (zD (zl ?_))
  refine yj 9 ?_
  simp only [List.take_succ_cons, List.take_zero, List.drop_succ_cons, List.drop_zero]
  refine yw ?_
  refine zU ?_
  refine yw ?_
  refine yq ?_
  refine yw ?_
  refine yq ?_
  refine wJ (xl rfl Tryz.func138 rfl rfl rfl (clone_fn _ (by assumption))) ?_
  refine x8 ?_
  refine wJ (OpW.frz (z7 rfl rfl rfl) (by (unfold maxLen; omega))) ?_
  refine wg ?_
  simp only [chosen, List.nil_append, List.cons_append, List.append_nil]
  refine zy 1 rfl rfl rfl rfl (by rfl) (by rfl) rfl rfl rfl (by exact SrcA.ro TyD.ax (by rfl) (Nat.le_of_ble_eq_true rfl)) (by rfl) (by (unfold maxLen; omega)) ?_
  intro V4 hV4
  refine zn ?_
  refine yT 3 rfl rfl rfl rfl rfl rfl (zD (y5 (zl (zm ?_))))
  refine zr ?_
  refine za (zD ?_)
  refine zF _ _ _ (by omega) (⟨k + 1, _, by omega, ‹_›, rfl, rfl, by rw [hsc]⟩)
 obtain rfl : k = os.length := by omega
 rw [List.take_length]
 refine AW.g ?_
 refine G.freezeCell 0 1 4 rfl rfl rfl ?_
 refine AW.u ?_
 refine xD ?_
 refine xr ?_
 refine xA ?_
 refine yZ (zl (zx (zm ?_)))
 refine zG ?_
 refine zb 0 rfl rfl rfl rfl rfl rfl (zD (zl (y1 ?_)))
 refine AQ.retCell rfl rfl (by repeat (exact List.Mem.head _)) (by (dsimp only [List.set, List.cons_append, List.nil_append, List.take, List.drop]; rfl)) rfl ⟨_, List.nil_sublist _, .nil⟩ (⟨rfl, rfl⟩)
theorem owned_of {m : Msg} {os : List Opt} {N : Nat} {xs : List AV} (e1 : N = os.length) (e2 : xs = optsA os) (h1 : m.tok.length ≤ 140737488355328) (h2 : m.pay.length ≤ 140737488355328) (h3 : os.length ≤ 1000000) (hat : ∀ o ∈ os, o.val.length ≤ 140737488355328) :
  Sp Tryz.prog 161 [aggM m, .ro false N xs] [] (Is (aggM ⟨m.ty, m.code, m.id, m.tok, os, m.pay⟩)) := by
 subst e1; subst e2; exact owned_fn m os h1 h2 h3 hat
set_option maxHeartbeats 4000000 in
theorem oset_fn (m : Msg) (n : Int) (vs : List (List UInt8)) (h1 : m.tok.length ≤ 140737488355328) (h2 : m.pay.length ≤ 140737488355328) (h3 : m.opts.length ≤ 100000) (h4 : vs.length ≤ 100000) (hat : ∀ o ∈ m.opts, o.val.length ≤ 140737488355328) (hvs : ∀ v ∈ vs, v.length ≤ 140737488355328) :
  Sp Tryz.prog 118 [aggM m, .val (.int .i64 n), roBs vs] [] (Is (aggM ⟨m.ty, m.code, m.id, m.tok, setO m.opts n vs, m.pay⟩)) := by
 have hat2 : ∀ o ∈ setO m.opts n vs, o.val.length ≤ 140737488355328 := fun o ho => by
  rcases setO_mem ho with h | ⟨v, h, rfl⟩
  ·exact hat o h
  exact hvs v h
 have hsl := setO_len m.opts n vs
 refine yv Tryz.func118 _ Tryz.ntmps118 (fun w0 R0 => ?_)
 refine zx (zm ?_)
 refine ya ?_
 intro B1
 refine zd ?_
 intro B2
 refine zD (zl (zx (zm ?_)))
 refine zc ?_
 refine zc (zD (zl (zx (zx (zm ?_)))))
 refine zn ?_
 refine zp ?_
 refine zZ ?_
 refine za (zD (zl (yS ?_)))
 refine AW.g ?_
 refine G.nilRow 96 2 ?_
 refine AW.u ?_
 refine AW.g ?_
 refine G.nilRow 96 2 ?_
 refine AW.u ?_
 refine zg [(1, _), (2, _), (3, _), (6, _), (14, _), (15, _)] (fun nn E H => ∃ (k : Nat) (V V' : Value), (k ≤ m.opts.length) ∧ (V.oneCell' = true) ∧ (V'.oneCell' = true) ∧ nn = m.opts.length - k ∧ E = [(7, .val V), (8, .val V'), (16, .val (.int .i64 (k : Int)))] ∧ H = [.row V 96 2 (ltO (m.opts.take k) n).length (optsA (ltO (m.opts.take k) n)), .row V' 96 2 (gtO (m.opts.take k) n).length (optsA (gtO (m.opts.take k) n)), .blk B2 29 6 [.val (.int .i64 0), .val (.int .i64 0), .val (.int .i64 0), .val (.slice none 0 0), .val (.slice none 0 0), .val (.slice none 0 0)], .blk B1 29 6 [.val (.int .i64 m.ty), .val (.int .i64 m.code), .val (.int .i64 m.id), roB m.tok, roO m.opts, roB m.pay]]) _ (⟨0, _, _, by omega, rfl, rfl, rfl, rfl, rfl⟩) ?_
 rintro nn E H ⟨k, V, V', h5, hV, hV', rfl, rfl, rfl⟩
 dsimp only [List.cons_append, List.nil_append]
 have hl1 := ltO_len (m.opts.take k) n
 have hl2 := gtO_len (m.opts.take k) n
 rw [List.length_take] at hl1 hl2
 refine zx (zm ?_)
 refine zH (zD (zl (zx ?_)))
 refine yn (fun h6 => ?_) (fun h6 => ?_) <;> (try simp only [wN] at h6)
 ·skip
  have hk : k < m.opts.length := by omega
  have hsc := ltO_snoc (m.opts.take k) (oat m.opts k) n
  have hsg := gtO_snoc (m.opts.take k) (oat m.opts k) n
  rw [← take_snoc Opt.none hk] at hsc hsg
  refine yN (zl (zx (yS (zx (zm ?_)))))
  refine yh ?_
  refine y0 ?_
  refine zd ?_
  intro B3
  refine zb 0 rfl rfl rfl rfl rfl rfl (zD (zl (yS (zx (zm ?_)))))
  refine zn ?_
  refine zo ?_
  refine za ?_
  refine zH ?_
  refine zc (zD (zl ?_))
  refine yn (fun h7 => ?_) (fun h7 => ?_) <;> (try simp only [wN] at h7)
  ·skip
   rw [if_pos h7] at hsc
   rw [if_neg (by omega)] at hsg
   refine zm ?_
   refine za ?_
   refine zM ?_
   refine zK ?_
   intro B4
   refine AO.g ?_
   refine wB 0 27 rfl rfl ⟨Nat.le_refl _, by unfold maxLen; omega⟩ ?_
   refine xF 27 ?_
   refine AO.u ?_
   dsimp only [List.eraseIdx]
   refine zy 1 rfl rfl rfl rfl (by rfl) (by rfl) rfl rfl rfl (by exact SrcA.ro TyD.ax (by rfl) (Nat.le_of_ble_eq_true rfl)) (by rfl) (by (unfold maxLen; omega)) ?_
   intro V5 hV5
   refine zc (zD (y5 (y5 (zl (zm ?_)))))
   refine zr ?_
   refine za (zD ?_)
   refine zF _ _ _ (by omega) (⟨k + 1, _, V', by omega, ‹_›, hV', rfl, rfl, by rw [hsc, hsg, optsA_snoc, List.length_append]⟩)
  rw [if_neg (by omega)] at hsc
  refine zx (zm ?_)
  refine zn ?_
  refine zo ?_
  refine za ?_
  refine y7 ?_
  refine zc (zD (zl ?_))
  refine yn (fun h8 => ?_) (fun h8 => ?_) <;> (try simp only [wN] at h8)
  ·skip
   rw [if_pos h8] at hsg
   refine zm ?_
   refine za ?_
   refine zM ?_
   refine zK ?_
   intro B6
   refine AO.g ?_
   refine wB 0 36 rfl rfl ⟨Nat.le_refl _, by unfold maxLen; omega⟩ ?_
   refine xF 36 ?_
   refine AO.u ?_
   dsimp only [List.eraseIdx]
   refine zy 2 rfl rfl rfl rfl (by rfl) (by rfl) rfl rfl rfl (by exact SrcA.ro TyD.ax (by rfl) (Nat.le_of_ble_eq_true rfl)) (by rfl) (by (unfold maxLen; omega)) ?_
   intro V7 hV7
   refine zc (zD (y5 (y5 (zl (zm ?_)))))
   refine zr ?_
   refine za (zD ?_)
   refine zF _ _ _ (by omega) (⟨k + 1, V, _, by omega, hV, ‹_›, rfl, rfl, by rw [hsc, hsg, optsA_snoc, List.length_append]⟩)
  rw [if_neg (by omega)] at hsg
  refine yN (y5 (y5 (zl (zm ?_))))
  refine zr ?_
  refine za (zD ?_)
  refine zF _ _ _ (by omega) (⟨k + 1, V, V', by omega, hV, hV', rfl, rfl, by rw [hsc, hsg]⟩)
 obtain rfl : k = m.opts.length := by omega
 rw [List.take_length] at hl1 hl2 ⊢
 refine xD ?_
 refine xr ?_
 refine xA ?_
 refine yZ (zl (zx (zx (zm ?_))))
 refine za ?_
 refine zZ ?_
 refine za (zD (zl (yS ?_)))
 refine zg [(1, _), (3, _), (6, _), (8, _), (39, _), (40, _)] (fun nn E H => ∃ (j : Nat) (V : Value), (j ≤ vs.length) ∧ (V.oneCell' = true) ∧ nn = vs.length - j ∧ E = [(7, .val V), (41, .val (.int .i64 (j : Int)))] ∧ H = [.row V 96 2 (ltO m.opts n ++ eqO n (vs.take j)).length (optsA (ltO m.opts n ++ eqO n (vs.take j))), .row V' 96 2 (gtO m.opts n).length (optsA (gtO m.opts n)), .blk B2 29 6 [.val (.int .i64 0), .val (.int .i64 0), .val (.int .i64 0), .val (.slice none 0 0), .val (.slice none 0 0), .val (.slice none 0 0)], .blk B1 29 6 [.val (.int .i64 m.ty), .val (.int .i64 m.code), .val (.int .i64 m.id), roB m.tok, roO m.opts, roB m.pay]]) _ (⟨0, _, by omega, hV, rfl, rfl, by rw [show ltO m.opts n ++ eqO n (vs.take 0) = ltO m.opts n by simp [eqO]]⟩) ?_
 rintro nn E H ⟨j, V, h8, hV, rfl, rfl, rfl⟩
 dsimp only [List.cons_append, List.nil_append]
 have hl3 : (ltO m.opts n ++ eqO n (vs.take j)).length = (ltO m.opts n).length + j := by rw [List.length_append, eqO_len, List.length_take]; omega
 refine zx (zm ?_)
 refine zH (zD (zl (zx ?_)))
 refine yn (fun h9 => ?_) (fun h9 => ?_) <;> (try simp only [wN] at h9)
 ·skip
  have hj : j < vs.length := by omega
  have hsc : ltO m.opts n ++ eqO n (vs.take (j + 1)) = (ltO m.opts n ++ eqO n (vs.take j)) ++ [⟨n, vat vs j⟩] := by
   rw [take_snoc [] hj]; simp [eqO]
  refine yN (zl (zx (yS (zx (zm ?_)))))
  refine yh ?_
  refine wI (O.loadR rfl rfl (by exact bsA_at (by omega) (by omega))) ?_
  refine zc (zD (zl (zm ?_)))
  refine za ?_
  refine za ?_
  refine za ?_
  refine z8 ?_
  refine zK ?_
  intro B8
  refine AO.g ?_
  refine wB 0 49 rfl rfl ⟨Nat.le_refl _, by unfold maxLen; omega⟩ ?_
  refine xF 49 ?_
  refine AO.u ?_
  dsimp only [List.eraseIdx]
  refine zy 0 rfl rfl rfl rfl (by rfl) (by rfl) rfl rfl rfl (by exact SrcA.ro TyD.ax (by rfl) (Nat.le_of_ble_eq_true rfl)) (by rfl) (by (unfold maxLen; omega)) ?_
  intro V9 hV9
  refine zc (zD (y5 (zl (zm ?_))))
  refine zr ?_
  refine za (zD ?_)
  refine zj _ _ _ (by omega) (⟨j + 1, _, by omega, ‹_›, rfl, rfl, by rw [hsc, optsA_snoc, List.length_append]⟩)
 obtain rfl : j = vs.length := by omega
 rw [List.take_length] at hl3 ⊢
 have hlen : (ltO m.opts n ++ eqO n vs).length + (gtO m.opts n).length = (setO m.opts n vs).length := by rw [setO, List.length_append (bs := gtO m.opts n)]
 have hcell : optsA (ltO m.opts n ++ eqO n vs) ++ optsA (gtO m.opts n) = optsA (setO m.opts n vs) := by rw [setO, optsA_app (ltO m.opts n ++ eqO n vs)]
 have hone := optsA_one (gtO m.opts n)
 refine xD ?_
 refine xr ?_
 refine xA ?_
 refine yZ (zl (zx ?_))
 refine AW.regionS [[(0, false), (1, false), (2, false), (3, true)], [(4, false)], [(5, true)]] (by kernel_rfl) (by kernel_rfl) ?_
 refine AMS.go (by exact (splitAt' 0 rfl (splitAt' 0 rfl splitNil))) ?_
 try dsimp only [List.eraseIdx]
 refine ym ?_
 refine xo ?_
 refine xo ?_
 refine wk _ (fun w0 R0 => ?_)
 refine zy 0 rfl rfl rfl rfl (by rfl) (by rfl) rfl rfl rfl (by exact SrcA.row TyD.ax (by repeat (first | exact List.Mem.head _ | refine List.Mem.tail _ ?_)) (by (simp; done))) (by assumption) (by (unfold maxLen; omega)) ?_
 intro V10 hV10
 refine AO.g ?_
 refine yU 0 [55] ?_
 refine AO.u ?_
 dsimp only [List.map, List.eraseIdx, List.cons_append, List.nil_append]
 refine AM.ok ?_
 dsimp only [putE]
 refine AM.nil ?_
 try dsimp only [List.cons_append, List.nil_append]
 refine AMS.go (by exact splitNil) ?_
 try dsimp only [List.eraseIdx]
 refine wM rfl (O.call rfl Tryz.func161 rfl rfl rfl (owned_of (m := m) (os := setO m.opts n vs) hlen hcell h1 h2 (by omega) hat2)) ?_
 refine AM.nil ?_
 try dsimp only [List.cons_append, List.nil_append]
 refine AMS.go (by exact (by exact splitBlk 6 1 rfl rfl splitNil)) ?_
 try dsimp only [List.eraseIdx]
 refine wk _ (fun w0 R0 => ?_)
 refine zb 0 rfl rfl rfl rfl rfl rfl (AM.okN ?_)
 dsimp only [putE]
 refine AM.nil ?_
 try dsimp only [List.cons_append, List.nil_append]
 refine AMS.nil (zl (y1 ?_))
 refine AQ.retCell rfl rfl (by repeat (exact List.Mem.head _)) (by (dsimp only [List.set, List.cons_append, List.nil_append, List.take, List.drop]; rfl)) rfl ⟨_, List.nil_sublist _, .nil⟩ (⟨rfl, rfl⟩)
end Go.Proofs.YtojomcdjcpmnkaaGreat.By

namespace Go.Proofs.YtojomcdjcpmnkaaGreat.By
open Go.RowKit L A
set_option linter.unusedVariables false
set_option maxRecDepth 20000
set_option linter.unusedSimpArgs false
attribute [local irreducible] AW AQ AO
structure Bd where
 ctx : List UInt8
 kid : List UInt8
 piv : Int
abbrev cBd (b : Bd) : List AV := [roB b.ctx, roB b.kid, .val (.int .i64 b.piv)]
abbrev aggBd (b : Bd) : AV := .agg (cBd b)
def Bd.none : Bd := ⟨[], [], 0⟩
abbrev NumOk (n : Int) : Prop := 0 ≤ n ∧ n ≤ 1099511627775
theorem num_e (n : Int) : (decide (0 ≤ n) && decide (n ≤ 1099511627775)) = decide (NumOk n) := by
 rw [Bool.eq_iff_iff]; simp
theorem bad_e (n : Int) : (decide (n < 0) || decide (1099511627775 < n)) = decide (¬NumOk n) := by
 rw [Bool.eq_iff_iff]; simp only [Bool.or_eq_true, decide_eq_true_eq]; omega
theorem onum_fn (n : Int) : Sp Tryz.prog 58 [.val (.int .i64 n)] [] (Is (.val (.bool (decide (NumOk n))))) := by
 have e := num_e n
 refine yv Tryz.func58 _ Tryz.ntmps58 (fun w0 R0 => ?_)
 refine zx (zm ?_)
 refine zc (zD (zl (zx (zm ?_))))
 refine za ?_
 refine xR ?_
 refine za ?_
 refine yu ?_
 refine AO.opG rfl rfl rfl (fun hp => xn 6 rfl (by exact hp)) ?_
 refine zN ?_
 refine zc (zD (zl (y1 ?_)))
 refine xK rfl rfl ⟨_, List.nil_sublist _, .nil⟩ (⟨congrArg (fun z => AV.val (.bool z)) e, rfl⟩)
theorem rbad_fn (n : Int) : Sp Tryz.prog 64 [.val (.int .i64 n)] [] (Is (.val (.bool (decide (¬NumOk n))))) := by
 have e := bad_e n
 refine yv Tryz.func64 _ Tryz.ntmps64 (fun w0 R0 => ?_)
 refine zx (zm ?_)
 refine zc (zD (zl (zx (zm ?_))))
 refine za ?_
 refine zH ?_
 refine za ?_
 refine yu ?_
 refine AO.opG rfl rfl rfl (fun hp => yM 6 rfl (by exact hp)) ?_
 refine zB ?_
 refine zc (zD (zl (y1 ?_)))
 refine xK rfl rfl ⟨_, List.nil_sublist _, .nil⟩ (⟨congrArg (fun z => AV.val (.bool z)) e, rfl⟩)
abbrev ReqC (n : Int) : Prop := 1 ≤ n ∧ n ≤ 31
theorem oreq_fn (n : Int) : Sp Tryz.prog 57 [.val (.int .i64 n)] [] (Is (.val (.bool (decide (ReqC n))))) := by
 have e : (decide (1 ≤ n) && decide (n ≤ 31)) = decide (ReqC n) := by rw [Bool.eq_iff_iff]; simp
 refine yv Tryz.func57 _ Tryz.ntmps57 (fun w0 R0 => ?_)
 refine zx (zm ?_)
 refine zc (zD (zl (zx (zm ?_))))
 refine za ?_
 refine xR ?_
 refine za ?_
 refine yu ?_
 refine AO.opG rfl rfl rfl (fun hp => xn 6 rfl (by exact hp)) ?_
 refine zN ?_
 refine zc (zD (zl (y1 ?_)))
 refine xK rfl rfl ⟨_, List.nil_sublist _, .nil⟩ (⟨congrArg (fun z => AV.val (.bool z)) e, rfl⟩)
theorem ocopied_fn (l : List UInt8) (hl : l.length ≤ 1000000) : Sp Tryz.prog 62 [roB l] [] (Is (roB l)) := by
 refine yv Tryz.func62 _ Tryz.ntmps62 (fun w0 R0 => ?_)
 refine zx (zm ?_)
 refine zc (zD (zl (zx (zm ?_))))
 refine za ?_
 refine ww (O.appendNil rfl (by rfl) (by rfl) rfl rfl (by exact SrcA.ro TyD.ax (by (simp; done)) (Nat.le_of_ble_eq_true rfl)) (by (simp [AV.cells, AV.one, *]; done)) (by (unfold maxLen; omega)) (by omega)) ?_
 intro V1 hV1
 refine zc (zD (zl (y1 ?_)))
 refine AQ.g ?_
 refine z6 0 [2] ?_
 refine AQ.u ?_
 try dsimp only [List.map, List.eraseIdx, List.cons_append, List.nil_append]
 refine xK rfl rfl ⟨_, List.nil_sublist _, .nil⟩ (⟨rfl, rfl⟩)
/-! ### The nonce of a response -/
/-! ### What the option says -/
end Go.Proofs.YtojomcdjcpmnkaaGreat.By

namespace Go.Proofs.YtojomcdjcpmnkaaGreat.By
open Go.RowKit L A
set_option linter.unusedVariables false
set_option maxRecDepth 20000
set_option linter.unusedSimpArgs false
attribute [local irreducible] AW AQ AO
set_option maxHeartbeats 8000000 in
theorem rsplit_fn (m : Msg) : Sp Tryz.prog 65 [aggM m] [] (Is (res3 (splitR m))) := by
 have bT : ∀ {b : Bool}, b = true → rq m.code = b → True := fun _ _ => trivial
 refine yv Tryz.func65 _ Tryz.ntmps65 (fun w0 R0 => ?_)
 refine zx (zm ?_)
 refine ya ?_
 intro B1
 refine zd ?_
 intro B2
 refine zd ?_
 intro B3
 refine zc (zD (zl (zx (zx (zm ?_)))))
 refine zn ?_
 refine zp ?_
 refine wI (xl rfl Tryz.func63 rfl rfl rfl (rsreq_fn m.code)) ?_
 refine xu ?_
 refine za ?_
 refine zE ?_
 refine AO.opG rfl rfl rfl (fun hp => yy 20 rfl (by exact hp)) ?_
 refine AO.opG rfl rfl rfl (fun hp => wL 21 rfl (by exact hp) (xl rfl Tryz.func83 rfl rfl rfl (rsresp_fn m.code))) ?_
 refine AO.opG rfl rfl rfl (fun hp => xX 22 rfl (by exact hp)) ?_
 refine zN (zD (zl ?_))
 refine yn (fun h => ?_) (fun h => ?_) <;> (try simp only [wN] at h)
 ·skip
  have e : splitR m = (Msg.none, Msg.none, 1) := if_neg (by
   rintro ⟨hv, hc⟩
   simp [h.1, h.2] at hc)
  refine zx (zm ?_)
  refine z8 ?_
  refine z8 ?_
  refine zb 1 rfl rfl rfl rfl rfl rfl ?_
  refine zb 0 rfl rfl rfl rfl rfl rfl ?_
  refine zc (zD (zl (y1 (xi ?_))))
  refine FnQ.coe z9 zI (ret3M e)
 have hc : rq m.code = true ∨ rs m.code = true := by cases hq : rq m.code <;> simp_all
 refine yN (zl (zx (zx (zm ?_))))
 refine zG ?_
 refine wI (xl rfl Tryz.func120 rfl rfl rfl (renc_fn m)) ?_
 refine za ?_
 refine zW ?_
 refine zW ?_
 refine zc ?_
 refine zc (zD (zl (zx (zm ?_))))
 refine za ?_
 refine yX (zD (zl ?_))
 refine yn (fun hx => ?_) (fun hx => ?_) <;> (try simp only [wN] at hx)
 ·skip
  have e : splitR m = (Msg.none, Msg.none, 1) := if_neg (fun hv => by rw [encR_t hv.1] at hx; exact hx rfl)
  refine zx (zm ?_)
  refine z8 ?_
  refine z8 ?_
  refine zb 1 rfl rfl rfl rfl rfl rfl ?_
  refine zb 0 rfl rfl rfl rfl rfl rfl ?_
  refine zc (zD (zl (y1 (xi ?_))))
  refine FnQ.coe z9 zI (ret3M e)
 have hv : ValM m := Classical.byContradiction fun hv => by rw [encR_f hv] at hx; cases hx
 obtain ⟨s1, s2, s3, s4⟩ := hv.sm
 refine yN (zl (zx ?_))
 refine yj 7 ?_
 simp only [List.take_succ_cons, List.take_zero, List.drop_succ_cons, List.drop_zero]
 refine yw ?_
 refine zU ?_
 refine yw ?_
 refine zU ?_
 refine wJ (xl rfl Tryz.func69 rfl rfl rfl (copy26_fn _ (by omega))) ?_
 refine x8 ?_
 refine y8 ?_
 refine wg ?_
 simp only [chosen, List.nil_append, List.cons_append, List.append_nil]
 rintro _ _ ⟨B4, rfl, rfl⟩
 simp only [List.cons_append, List.nil_append]
 refine zb 0 rfl rfl rfl rfl rfl rfl (zD (zl (zx ?_)))
 refine yj 9 ?_
 simp only [List.take_succ_cons, List.take_zero, List.drop_succ_cons, List.drop_zero]
 refine yw ?_
 refine zU ?_
 refine yw ?_
 refine zU ?_
 refine yw ?_
 refine zU ?_
 refine wJ (xl rfl Tryz.func69 rfl rfl rfl (copy26_fn _ (by omega))) ?_
 refine x8 ?_
 refine y8 ?_
 refine wg ?_
 simp only [chosen, List.nil_append, List.cons_append, List.append_nil]
 rintro _ _ ⟨B5, rfl, rfl⟩
 simp only [List.cons_append, List.nil_append]
 refine zb 0 rfl rfl rfl rfl rfl rfl (zD (zl (zx (zm ?_))))
 refine zc ?_
 refine zc (zD (zl (zx (zx (zm ?_)))))
 refine zn ?_
 refine zp ?_
 refine zZ ?_
 refine za (zD (zl (yS ?_)))
 refine AW.g ?_
 refine G.nilRow 96 2 ?_
 refine AW.u ?_
 refine AW.g ?_
 refine G.nilRow 96 2 ?_
 refine AW.u ?_
 refine xJ [(1, _), (2, _), (3, _), (7, _), (8, _), (51, _), (52, _)] (fun nn E H => ∃ (k : Nat) (V V' : Value), (k ≤ m.opts.length) ∧ (V.oneCell' = true) ∧ (V'.oneCell' = true) ∧ nn = m.opts.length - k ∧ E = [(9, .val (.bool (watchB (m.opts.take k)))), (10, .val (.bool (badB (m.opts.take k)))), (53, .val (.int .i64 (k : Int)))] ∧ H = [.row V 96 2 (inL m.code (m.opts.take k)).length (optsA (inL m.code (m.opts.take k))), .row V' 96 2 (outL (m.opts.take k)).length (optsA (outL (m.opts.take k))), .blk B4 29 6 [.val (.int .i64 0), .val (.int .i64 m.code), .val (.int .i64 0), .val (.slice none 0 0), .val V, roB m.pay], .blk B5 29 6 [.val (.int .i64 m.ty), .val (.int .i64 0), .val (.int .i64 m.id), roB m.tok, .val V', .val (.slice none 0 0)], .blk B3 29 6 [.val (.int .i64 0), .val (.int .i64 0), .val (.int .i64 0), .val (.slice none 0 0), .val (.slice none 0 0), .val (.slice none 0 0)], .blk B2 29 6 [.val (.int .i64 0), .val (.int .i64 0), .val (.int .i64 0), .val (.slice none 0 0), .val (.slice none 0 0), .val (.slice none 0 0)], .blk B1 29 6 [.val (.int .i64 m.ty), .val (.int .i64 m.code), .val (.int .i64 m.id), roB m.tok, roO m.opts, roB m.pay]]) _ (⟨0, _, _, by omega, rfl, rfl, rfl, rfl, rfl⟩) ?_
 rintro nn E H ⟨k, V, V', hk, hV, hV', rfl, rfl, rfl⟩
 dsimp only [List.cons_append, List.nil_append]
 have hl1 := inL_len m.code (m.opts.take k)
 have hl2 := outL_len (m.opts.take k)
 rw [List.length_take] at hl1 hl2
 refine zx (zm ?_)
 refine zH (zD (zl (zx ?_)))
 refine yn (fun h2 => ?_) (fun h2 => ?_) <;> (try simp only [wN] at h2)
 ·skip
  have hkk : k < m.opts.length := by omega
  have hv4 : (oat m.opts k).val.length ≤ 140737488355328 := by have := s4 k hkk; omega
  have hci := cls_in (oat m.opts k).num
  refine yN (zl (zx (yS (zx (zm ?_)))))
  refine yh ?_
  refine y0 ?_
  refine zd ?_
  intro B6
  refine zb 0 rfl rfl rfl rfl rfl rfl (zD (zl (zx (zm ?_))))
  refine zn ?_
  refine zo ?_
  refine wI (xl rfl Tryz.func121 rfl rfl rfl (rclass_fn _)) ?_
  refine zc (zD (zl (zx (zm ?_))))
  refine za ?_
  refine za ?_
  refine zE ?_
  refine AO.opG rfl rfl rfl (fun hp => zu 62 rfl (by exact hp)) ?_
  refine AO.opG rfl rfl rfl (fun hp => y9 63 rfl (by exact hp)) ?_
  refine zB ?_
  refine za ?_
  refine zE ?_
  refine AO.opG rfl rfl rfl (fun hp => zu 67 rfl (by exact hp)) ?_
  refine AO.opG rfl rfl rfl (fun hp => y9 68 rfl (by exact hp)) ?_
  refine zB ?_
  refine zc (zD (zl (zx (zx (zm ?_)))))
  refine za ?_
  refine yX (zD (zl ?_))
  have hb' : badB (m.opts.take (k + 1)) = (badB (m.opts.take k) || decide ((oat m.opts k).num = 9) || decide ((oat m.opts k).num = 35)) := by rw [take_snoc Opt.none hkk, badB_snoc, Bool.or_assoc]; congr 1; exact Bool.decide_or _ _
  have hw' : watchB (m.opts.take (k + 1)) = (watchB (m.opts.take k) || decide ((oat m.opts k).num = 6)) := by rw [take_snoc Opt.none hkk, watchB_snoc]
  have hin := inL_snoc m.code (m.opts.take k) (oat m.opts k)
  have hou := outL_snoc (m.opts.take k) (oat m.opts k)
  rw [← take_snoc Opt.none hkk] at hin hou
  refine xd [(1, _), (2, _), (3, _), (7, _), (8, _), (9, _), (10, _), (12, _), (13, _), (51, _), (52, _), (53, _)] (fun E H => ∃ (W : Value), (W.oneCell' = true) ∧ E = [] ∧ H = [.blk B6 96 2 [.val (.int .i64 (oat m.opts k).num), roB (oat m.opts k).val], .row W 96 2 (inL m.code (m.opts.take (k + 1))).length (optsA (inL m.code (m.opts.take (k + 1)))), .row V' 96 2 (outL (m.opts.take k)).length (optsA (outL (m.opts.take k))), .blk B4 29 6 [.val (.int .i64 0), .val (.int .i64 m.code), .val (.int .i64 0), .val (.slice none 0 0), .val W, roB m.pay], .blk B5 29 6 [.val (.int .i64 m.ty), .val (.int .i64 0), .val (.int .i64 m.id), roB m.tok, .val V', .val (.slice none 0 0)], .blk B3 29 6 [.val (.int .i64 0), .val (.int .i64 0), .val (.int .i64 0), .val (.slice none 0 0), .val (.slice none 0 0), .val (.slice none 0 0)], .blk B2 29 6 [.val (.int .i64 0), .val (.int .i64 0), .val (.int .i64 0), .val (.slice none 0 0), .val (.slice none 0 0), .val (.slice none 0 0)], .blk B1 29 6 [.val (.int .i64 m.ty), .val (.int .i64 m.code), .val (.int .i64 m.id), roB m.tok, roO m.opts, roB m.pay]]) (fun h71 => ?_) (fun h71 => ?_) ?_ <;> try (try simp only [wN] at h71)
  ·skip
   rw [if_pos (by omega)] at hin
   refine zx (zm ?_)
   refine zn ?_
   refine zo ?_
   refine wI (xl rfl Tryz.func69 rfl rfl rfl (copy26_fn _ (by assumption))) ?_
   refine zc (zD (zl (zx (zx (zm ?_)))))
   refine zn ?_
   refine zo ?_
   refine yd ?_
   refine za ?_
   refine zE ?_
   refine AO.opG rfl rfl rfl (fun hp => yy 80 rfl (by exact hp)) ?_
   refine AO.opG rfl rfl rfl (fun hp => wL 81 rfl (by exact hp) (xl rfl Tryz.func83 rfl rfl rfl (rsresp_fn m.code))) ?_
   refine zN (zD (zl ?_))
   refine yn (fun h81 => ?_) (fun h81 => ?_) <;> (try simp only [wN] at h81)
   ·skip
    have hi2 : inO m.code (oat m.opts k) = ⟨(oat m.opts k).num, []⟩ := if_pos h81
    rw [hi2] at hin
    refine zm ?_
    refine zc (zD (zl (zm ?_)))
    refine zn ?_
    refine zp ?_
    refine zn ?_
    refine zo ?_
    refine za ?_
    refine z8 ?_
    refine zK ?_
    intro B7
    refine AO.g ?_
    refine wB 0 90 rfl rfl ⟨Nat.le_refl _, by unfold maxLen; omega⟩ ?_
    refine xF 90 ?_
    refine AO.u ?_
    dsimp only [List.eraseIdx]
    refine zy 1 rfl rfl rfl rfl (by rfl) (by rfl) rfl rfl rfl (by exact SrcA.ro TyD.ax (by rfl) (Nat.le_of_ble_eq_true rfl)) (by rfl) (by (unfold maxLen; omega)) ?_
    intro V8 hV8
    refine zn ?_
    refine yT 3 rfl rfl rfl rfl rfl rfl (zD ?_)
    refine AQ.g ?_
    refine G.coeRow 1 _ (optsA (inL m.code (m.opts.take k)) ++ [.val (.int .i64 (oat m.opts k).num), roB []]) rfl rfl (CoeL.app CoeL.refl (CoeL.cons Coe.rfl (CoeL.cons Coe.nil CoeL.nil))) ?_
    refine AQ.u ?_
    refine yI _ _ (⟨_, ‹_›, rfl, by rw [hin, optsA_snoc, List.length_append]⟩)
   have hi2 : inO m.code (oat m.opts k) = oat m.opts k := if_neg (fun hh => by have := h81 hh.1; rw [hh.2] at this; cases this)
   rw [hi2] at hin
   refine yN (zl (zm ?_))
   refine zn ?_
   refine zp ?_
   refine zn ?_
   refine zo ?_
   refine za ?_
   refine z8 ?_
   refine zK ?_
   intro B9
   refine AO.g ?_
   refine wB 0 90 rfl rfl ⟨Nat.le_refl _, by unfold maxLen; omega⟩ ?_
   refine xF 90 ?_
   refine AO.u ?_
   dsimp only [List.eraseIdx]
   refine zy 1 rfl rfl rfl rfl (by rfl) (by rfl) rfl rfl rfl (by exact SrcA.ro TyD.ax (by rfl) (Nat.le_of_ble_eq_true rfl)) (by rfl) (by (unfold maxLen; omega)) ?_
   intro V10 hV10
   refine zn ?_
   refine yT 3 rfl rfl rfl rfl rfl rfl (zD ?_)
   refine yI _ _ (⟨_, ‹_›, rfl, by rw [hin, optsA_snoc, List.length_append]⟩)
  ·skip
   rw [if_neg (by omega)] at hin
   refine yN ?_
   refine yI _ _ (⟨V, hV, rfl, by rw [hin]⟩)
  rintro E1 H1 ⟨W, hW, rfl, rfl⟩
  dsimp only [List.cons_append, List.nil_append]
  refine zl (zx (zx (zm ?_)))
  refine za ?_
  refine yd ?_
  refine za ?_
  refine zE ?_
  refine AO.opG rfl rfl rfl (fun hp => zu 96 rfl (by exact hp)) ?_
  refine AO.opG rfl rfl rfl (fun hp => y9 97 rfl (by exact hp)) ?_
  refine zB (zD (zl ?_))
  refine xd [(1, _), (2, _), (3, _), (7, _), (8, _), (9, _), (10, _), (12, _), (51, _), (52, _), (53, _)] (fun E H => ∃ (W' : Value), (W'.oneCell' = true) ∧ E = [] ∧ H = [.blk B6 96 2 [.val (.int .i64 (oat m.opts k).num), roB (oat m.opts k).val], .row W 96 2 (inL m.code (m.opts.take (k + 1))).length (optsA (inL m.code (m.opts.take (k + 1)))), .row W' 96 2 (outL (m.opts.take (k + 1))).length (optsA (outL (m.opts.take (k + 1)))), .blk B4 29 6 [.val (.int .i64 0), .val (.int .i64 m.code), .val (.int .i64 0), .val (.slice none 0 0), .val W, roB m.pay], .blk B5 29 6 [.val (.int .i64 m.ty), .val (.int .i64 0), .val (.int .i64 m.id), roB m.tok, .val W', .val (.slice none 0 0)], .blk B3 29 6 [.val (.int .i64 0), .val (.int .i64 0), .val (.int .i64 0), .val (.slice none 0 0), .val (.slice none 0 0), .val (.slice none 0 0)], .blk B2 29 6 [.val (.int .i64 0), .val (.int .i64 0), .val (.int .i64 0), .val (.slice none 0 0), .val (.slice none 0 0), .val (.slice none 0 0)], .blk B1 29 6 [.val (.int .i64 m.ty), .val (.int .i64 m.code), .val (.int .i64 m.id), roB m.tok, roO m.opts, roB m.pay]]) (fun h95 => ?_) (fun h95 => ?_) ?_ <;> try (try simp only [wN] at h95)
  ·skip
   rw [if_pos h95] at hou
   refine yj 9 ?_
   simp only [List.take_succ_cons, List.take_zero, List.drop_succ_cons, List.drop_zero]
   refine yw ?_
   refine zU ?_
   refine yw ?_
   refine yq ?_
   refine yw ?_
   refine yq ?_
   refine wJ (xl rfl Tryz.func69 rfl rfl rfl (copy26_fn _ (by assumption))) ?_
   refine x8 ?_
   refine wJ (OpW.frz (z7 rfl rfl rfl) (by (unfold maxLen; omega))) ?_
   refine wg ?_
   simp only [chosen, List.nil_append, List.cons_append, List.append_nil]
   refine zy 2 rfl rfl rfl rfl (by rfl) (by rfl) rfl rfl rfl (by exact SrcA.ro TyD.ax (by rfl) (Nat.le_of_ble_eq_true rfl)) (by rfl) (by (unfold maxLen; omega)) ?_
   intro V11 hV11
   refine zn ?_
   refine yT 4 rfl rfl rfl rfl rfl rfl (zD ?_)
   refine yI _ _ (⟨_, ‹_›, rfl, by rw [hou, optsA_snoc, List.length_append]⟩)
  ·skip
   rw [if_neg (by omega)] at hou
   refine yN ?_
   refine yI _ _ (⟨V', hV', rfl, by rw [hou]⟩)
  rintro E1 H1 ⟨W', hW', rfl, rfl⟩
  dsimp only [List.cons_append, List.nil_append]
  refine zl (zm ?_)
  refine za ?_
  refine za ?_
  refine zE ?_
  refine AO.opG rfl rfl rfl (fun hp => zu 113 rfl (by exact hp)) ?_
  refine AO.opG rfl rfl rfl (fun hp => y9 114 rfl (by exact hp)) ?_
  refine zB ?_
  refine zc (zD (y5 (zl (zm ?_))))
  refine zr ?_
  refine za (zD ?_)
  refine zF _ _ _ (by omega) (⟨k + 1, W, W', by omega, hW, hW', rfl, by rw [hw', hb'], rfl⟩)
 obtain rfl : k = m.opts.length := by omega
 rw [List.take_length] at hl1 hl2 ⊢
 refine xD ?_
 refine xr ?_
 refine xA ?_
 refine yZ (zl (zx (zx (zm ?_))))
 refine za (zD (zl ?_))
 refine yn (fun hb => ?_) (fun hb => ?_) <;> (try simp only [wN] at hb)
 ·skip
  have e : splitR m = (Msg.none, Msg.none, 15) := by rw [splitR, if_pos ⟨hv, hc⟩, if_pos hb]
  refine zx (zm ?_)
  refine z8 ?_
  refine z8 ?_
  refine zb 5 rfl rfl rfl rfl rfl rfl ?_
  refine zb 4 rfl rfl rfl rfl rfl rfl ?_
  refine zc (zD (zl (y1 (xi ?_))))
  refine FnQ.coe yr zI (ret3M e)
 have hnb : ¬ badB m.opts = true := by rw [hb]; simp
 have e0 : splitR m = (inM m, outM m, 0) := by rw [splitR, if_pos ⟨hv, hc⟩, if_neg hnb]
 refine AW.g ?_
 refine G.freezeCell 0 1 4 rfl rfl rfl ?_
 refine AW.u ?_
 refine AW.g ?_
 refine G.freezeCell 0 1 4 rfl rfl rfl ?_
 refine AW.u (yN (zl (zx (yS (zx (zm ?_))))))
 refine zn ?_
 refine zp ?_
 refine wI (xl rfl Tryz.func63 rfl rfl rfl (rsreq_fn m.code)) ?_
 refine za ?_
 refine yu ?_
 refine zN ?_
 refine zc (zD (zl ?_))
 refine yn (fun ha => ?_) (fun ha => ?_) <;> (try simp only [wN] at ha)
 ·skip
  have e1 : outC m = 5 := by rw [outC, if_pos ha.1, if_pos ha.2]
  have e : splitR m = (inM m, ⟨m.ty, 5, m.id, m.tok, outL m.opts, []⟩, 0) := by rw [e0, outM, e1]
  refine zm ?_
  refine zn ?_
  refine zb 1 rfl rfl rfl rfl rfl rfl (zD (y5 (zl (zx ?_))))
  refine xf [(0, false), (1, false), (2, true), (3, true), (4, false)] ?_
  dsimp only [List.eraseIdx]
  refine yF ?_
  refine ym ?_
  refine wk _ (fun w0 R0 => ?_)
  refine zb 0 rfl rfl rfl rfl rfl rfl (AM.okN ?_)
  dsimp only [putE]
  refine wk _ (fun w0 R0 => ?_)
  refine zb 1 rfl rfl rfl rfl rfl rfl (AM.okN ?_)
  dsimp only [putE]
  refine wM rfl zh ?_
  refine AM.nil ?_
  dsimp only [List.cons_append, List.nil_append]
  refine zl (y1 ?_)
  refine FnQ.coe zL zI (ret3M e)
 refine zx (zm ?_)
 refine zn ?_
 refine zp ?_
 refine wI (xl rfl Tryz.func63 rfl rfl rfl (rsreq_fn m.code)) ?_
 refine zc (zD (zl ?_))
 refine yn (fun hd => ?_) (fun hd => ?_) <;> (try simp only [wN] at hd)
 ·skip
  have e1 : outC m = 2 := by rw [outC, if_pos hd, if_neg (by rw [ha hd]; simp)]
  have e : splitR m = (inM m, ⟨m.ty, 2, m.id, m.tok, outL m.opts, []⟩, 0) := by rw [e0, outM, e1]
  refine zm ?_
  refine zn ?_
  refine zb 1 rfl rfl rfl rfl rfl rfl (zD (y5 (zl (zx ?_))))
  refine xf [(0, false), (1, false), (2, true), (3, true), (4, false)] ?_
  dsimp only [List.eraseIdx]
  refine yF ?_
  refine ym ?_
  refine wk _ (fun w0 R0 => ?_)
  refine zb 0 rfl rfl rfl rfl rfl rfl (AM.okN ?_)
  dsimp only [putE]
  refine wk _ (fun w0 R0 => ?_)
  refine zb 1 rfl rfl rfl rfl rfl rfl (AM.okN ?_)
  dsimp only [putE]
  refine wM rfl zh ?_
  refine AM.nil ?_
  dsimp only [List.cons_append, List.nil_append]
  refine zl (y1 ?_)
  refine FnQ.coe zL zI (ret3M e)
 refine zx (zm ?_)
 refine za ?_
 refine zc (zD (zl ?_))
 refine yn (fun hf => ?_) (fun hf => ?_) <;> (try simp only [wN] at hf)
 ·skip
  have e1 : outC m = 69 := by rw [outC, if_neg (by rw [hd]; simp), if_pos hf]
  have e : splitR m = (inM m, ⟨m.ty, 69, m.id, m.tok, outL m.opts, []⟩, 0) := by rw [e0, outM, e1]
  refine zm ?_
  refine zn ?_
  refine zb 1 rfl rfl rfl rfl rfl rfl (zD (y5 (zl (zx ?_))))
  refine xf [(0, false), (1, false), (2, true), (3, true), (4, false)] ?_
  dsimp only [List.eraseIdx]
  refine yF ?_
  refine ym ?_
  refine wk _ (fun w0 R0 => ?_)
  refine zb 0 rfl rfl rfl rfl rfl rfl (AM.okN ?_)
  dsimp only [putE]
  refine wk _ (fun w0 R0 => ?_)
  refine zb 1 rfl rfl rfl rfl rfl rfl (AM.okN ?_)
  dsimp only [putE]
  refine wM rfl zh ?_
  refine AM.nil ?_
  dsimp only [List.cons_append, List.nil_append]
  refine zl (y1 ?_)
  refine FnQ.coe zL zI (ret3M e)
 have e1 : outC m = 68 := by rw [outC, if_neg (by rw [hd]; simp), if_neg (by rw [hf]; simp)]
 have e : splitR m = (inM m, ⟨m.ty, 68, m.id, m.tok, outL m.opts, []⟩, 0) := by rw [e0, outM, e1]
 refine zm ?_
 refine zn ?_
 refine zb 1 rfl rfl rfl rfl rfl rfl (zD (y5 (zl (zx ?_))))
 refine xf [(0, false), (1, false), (2, true), (3, true), (4, false)] ?_
 dsimp only [List.eraseIdx]
 refine yF ?_
 refine ym ?_
 refine wk _ (fun w0 R0 => ?_)
 refine zb 0 rfl rfl rfl rfl rfl rfl (AM.okN ?_)
 dsimp only [putE]
 refine wk _ (fun w0 R0 => ?_)
 refine zb 1 rfl rfl rfl rfl rfl rfl (AM.okN ?_)
 dsimp only [putE]
 refine wM rfl zh ?_
 refine AM.nil ?_
 dsimp only [List.cons_append, List.nil_append]
 refine zl (y1 ?_)
 refine FnQ.coe zL zI (ret3M e)
end Go.Proofs.YtojomcdjcpmnkaaGreat.By

namespace Go.Proofs.YtojomcdjcpmnkaaGreat.By
open Go.RowKit L A
set_option linter.unusedVariables false
set_option maxRecDepth 20000
set_option linter.unusedSimpArgs false
attribute [local irreducible] AW AQ AO
end Go.Proofs.YtojomcdjcpmnkaaGreat.By

namespace Go.Proofs.YtojomcdjcpmnkaaGreat.By
open Go.RowKit L A Dk
set_option linter.unusedVariables false
set_option maxRecDepth 20000
set_option linter.unusedSimpArgs false
attribute [local irreducible] AW AQ AO
end Go.Proofs.YtojomcdjcpmnkaaGreat.By

namespace Go.Proofs.YtojomcdjcpmnkaaGreat.By
open Go.RowKit L A Dk
set_option linter.unusedVariables false
set_option maxRecDepth 20000
set_option linter.unusedSimpArgs false
attribute [local irreducible] AW AQ AO
end Go.Proofs.YtojomcdjcpmnkaaGreat.By

namespace Go.Proofs.YtojomcdjcpmnkaaGreat.By
open Go.RowKit L A Dk
set_option linter.unusedVariables false
set_option maxRecDepth 20000
set_option linter.unusedSimpArgs false
attribute [local irreducible] AW AQ AO

end Go.Proofs.YtojomcdjcpmnkaaGreat.By

namespace Go.Proofs.YtojomcdjcpmnkaaGreat.By
open Go.RowKit L A Dk
set_option linter.unusedVariables false
set_option maxRecDepth 20000
set_option linter.unusedSimpArgs false
attribute [local irreducible] AW AQ AO
theorem retN {q : AV} {r : Int × Nat} {v : Int} {i : Nat} (h : r = (v, i)) (hq : q = .tup [.val (.int .i64 v), .val (.int .i64 (i : Int))]) : Is (.tup [.val (.int .i64 r.1), .val (.int .i64 (r.2 : Int))]) q [] := by subst h; exact ⟨hq, rfl⟩
end Go.Proofs.YtojomcdjcpmnkaaGreat.By

namespace Go.Proofs.YtojomcdjcpmnkaaGreat.By
open Go.RowKit L A
set_option linter.unusedVariables false
set_option maxRecDepth 20000
set_option linter.unusedSimpArgs false
attribute [local irreducible] AW AQ AO
def pkM (m : Msg) : Msg := ⟨0, m.code, 0, [], m.opts, m.pay⟩
def packR (m : Msg) : List UInt8 × Int :=
 if rq m.code = true ∨ rs m.code = true then (if (encR (pkM m)).2 = 0 then (u8 m.code :: (encR (pkM m)).1.drop 4, 0) else ([], (encR (pkM m)).2)) else ([], 1)
abbrev resP (r : List UInt8 × Int) : AV := .tup [roB r.1, .val (.int .i64 r.2)]
theorem retP {r : List UInt8 × Int} {a : List UInt8} {e : Int} (h : r = (a, e)) : Is (resP r) (.tup [roB a, .val (.int .i64 e)]) [] := by rw [h]; exact ⟨rfl, rfl⟩
def unB (b : List UInt8) : List UInt8 := 64 :: bt b 0 :: 0 :: 0 :: b.drop 1
noncomputable def unpackR (b : List UInt8) : Msg × Int :=
 if b = [] then (Msg.none, 2) else if rq ((bt b 0).toNat : Int) = true ∨ rs ((bt b 0).toNat : Int) = true then decS (unB b) else (Msg.none, 4)
theorem raw_len4 (m : Msg) : 4 ≤ (raw m).length := by simp only [raw, headM, List.length_append, List.length_cons, List.length_nil]; omega
theorem encR_len4 {m : Msg} (h : (encR m).2 = 0) : 4 ≤ (encR m).1.length ∧ (encR m).1.length ≤ 4096 := by
 by_cases hv : ValM m
 ·rw [encR_t hv]; exact ⟨raw_len4 m, by have := hv.2; simp only; omega⟩
 rw [encR_f hv] at h; cases h
set_option maxHeartbeats 4000000 in
theorem pack_fn (m : Msg) : Sp Tryz.prog 115 [aggM m] [] (Is (resP (packR m))) := by
 refine yv Tryz.func115 _ Tryz.ntmps115 (fun w0 R0 => ?_)
 refine zx (zm ?_)
 refine ya ?_
 intro B1
 refine zc ?_
 refine zc (zD (zl (zx (zx (zm ?_)))))
 refine zn ?_
 refine zo ?_
 refine wI (xl rfl Tryz.func152 rfl rfl rfl (sreq_fn m.code)) ?_
 refine xu ?_
 refine za ?_
 refine zE ?_
 refine AO.opG rfl rfl rfl (fun hp => zu 11 rfl (by exact hp)) ?_
 refine AO.opG rfl rfl rfl (fun hp => wL 12 rfl (by exact hp) (xl rfl Tryz.func153 rfl rfl rfl (sresp_fn m.code))) ?_
 refine AO.opG rfl rfl rfl (fun hp => xX 13 rfl (by exact hp)) ?_
 refine zN (zD (zl ?_))
 refine yn (fun h => ?_) (fun h => ?_) <;> (try simp only [wN] at h)
 ·skip
  have e : packR m = ([], 1) := if_neg (by rw [h.1, h.2]; simp)
  refine zx (zm ?_)
  refine zc ?_
  refine zc (zD (zl (y1 (xi ?_))))
  refine FnQ.coe yx ye (retP e)
 have hc : rq m.code = true ∨ rs m.code = true := by cases hq : rq m.code <;> simp_all
 refine yN (zl (zx (zm ?_)))
 refine zn ?_
 refine zo ?_
 refine zn ?_
 refine zo ?_
 refine zn ?_
 refine zo ?_
 refine z8 ?_
 refine wI (we rfl Tryz.func119 rfl rfl rfl (enc_fn (pkM m))) ?_
 refine za ?_
 refine zW ?_
 refine zW ?_
 refine zc ?_
 refine zc (zD (zl (zx (zx (zm ?_)))))
 refine za ?_
 refine yX (zD (zl ?_))
 refine yn (fun h2 => ?_) (fun h2 => ?_) <;> (try simp only [wN] at h2)
 ·skip
  have e : packR m = ([], (encR (pkM m)).2) := by rw [packR, if_pos hc, if_neg h2]
  refine zx (zm ?_)
  refine za ?_
  refine zc ?_
  refine zc (zD (zl (y1 (xi ?_))))
  refine FnQ.coe yx ye (retP e)
 have hl := encR_len4 h2
 have e : packR m = (u8 m.code :: (encR (pkM m)).1.drop 4, 0) := by rw [packR, if_pos hc, if_pos h2]
 refine yN (zl (zx ?_))
 refine yj 6 ?_
 simp only [List.take_succ_cons, List.take_zero, List.drop_succ_cons, List.drop_zero]
 refine yw ?_
 refine yq ?_
 refine wJ (O.conv rfl rfl wU8any) ?_
 refine FA.opN (z7 rfl rfl rfl) rfl rfl rfl rfl ?_
 refine zv ?_
 refine wJ (O.sliceFromB (k := 4) rfl rfl rfl (by rfl) (by omega)) ?_
 refine wg ?_
 simp only [chosen, List.nil_append, List.cons_append, List.append_nil]
 rintro _ _ ⟨B2, rfl, rfl⟩
 simp only [List.cons_append, List.nil_append]
 refine AO.g ?_
 refine G.closeRow (n := 1) (cap := 1) 0 rfl rfl rfl (Nat.le_refl _) (by (unfold maxLen; omega)) ?_
 refine AO.u ?_
 dsimp only [List.set]
 refine AO.append' (i := 0) rfl rfl rfl rfl (by rfl) (by rfl) rfl rfl rfl (by exact SrcA.ro TyD.ax (by (simp; done)) (Nat.le_of_ble_eq_true rfl)) (by (simp [AV.cells, AV.one, *]; done)) (by (unfold maxLen; simp only [List.length_take, List.length_drop, List.length_append, List.length_cons, List.length_nil, List.length_set, Nat.zero_add]; omega)) (by (simp only [List.length_take, List.length_drop, List.length_append, List.length_cons, List.length_nil, List.length_set, Nat.zero_add]; omega)) (by (dsimp only [List.set, List.cons_append, List.nil_append, List.take, List.drop]; done)) (fun _ => by (dsimp only [List.set]; done)) ?_
 intro V3 hV3
 refine zc ?_
 refine zc (zD (zl (y1 ?_)))
 refine AQ.g ?_
 refine z6 0 [2] ?_
 refine AQ.u ?_
 try dsimp only [List.map, List.eraseIdx, List.cons_append, List.nil_append]
 refine AQ.g ?_
 refine G.re 2 (roB (u8 m.code :: (encR (pkM m)).1.drop 4)) (congrArg some (roB_of (by rw [List.length_cons]; omega) rfl)) ?_
 refine AQ.u ?_
 refine FnQ.coe yx xw (retP e)
set_option maxHeartbeats 4000000 in
theorem rpack_fn (m : Msg) : Sp Tryz.prog 127 [aggM m] [] (Is (resP (packR m))) := by
 refine yv Tryz.func127 _ Tryz.ntmps127 (fun w0 R0 => ?_)
 refine zx (zm ?_)
 refine ya ?_
 intro B1
 refine zc ?_
 refine zc (zD (zl (zx (zx (zm ?_)))))
 refine zn ?_
 refine zo ?_
 refine wI (xl rfl Tryz.func63 rfl rfl rfl (rsreq_fn m.code)) ?_
 refine xu ?_
 refine za ?_
 refine zE ?_
 refine AO.opG rfl rfl rfl (fun hp => zu 11 rfl (by exact hp)) ?_
 refine AO.opG rfl rfl rfl (fun hp => wL 12 rfl (by exact hp) (xl rfl Tryz.func83 rfl rfl rfl (rsresp_fn m.code))) ?_
 refine AO.opG rfl rfl rfl (fun hp => xX 13 rfl (by exact hp)) ?_
 refine zN (zD (zl ?_))
 refine yn (fun h => ?_) (fun h => ?_) <;> (try simp only [wN] at h)
 ·skip
  have e : packR m = ([], 1) := if_neg (by rw [h.1, h.2]; simp)
  refine zx (zm ?_)
  refine zc ?_
  refine zc (zD (zl (y1 (xi ?_))))
  refine FnQ.coe yx ye (retP e)
 have hc : rq m.code = true ∨ rs m.code = true := by cases hq : rq m.code <;> simp_all
 refine yN (zl (zx (zm ?_)))
 refine zn ?_
 refine zo ?_
 refine zn ?_
 refine zo ?_
 refine zn ?_
 refine zo ?_
 refine z8 ?_
 refine wI (we rfl Tryz.func120 rfl rfl rfl (renc_fn (pkM m))) ?_
 refine za ?_
 refine zW ?_
 refine zW ?_
 refine zc ?_
 refine zc (zD (zl (zx (zx (zm ?_)))))
 refine za ?_
 refine yX (zD (zl ?_))
 refine yn (fun h2 => ?_) (fun h2 => ?_) <;> (try simp only [wN] at h2)
 ·skip
  have e : packR m = ([], (encR (pkM m)).2) := by rw [packR, if_pos hc, if_neg h2]
  refine zx (zm ?_)
  refine za ?_
  refine zc ?_
  refine zc (zD (zl (y1 (xi ?_))))
  refine FnQ.coe yx ye (retP e)
 have hl := encR_len4 h2
 have e : packR m = (u8 m.code :: (encR (pkM m)).1.drop 4, 0) := by rw [packR, if_pos hc, if_pos h2]
 refine yN (zl (zx ?_))
 refine yj 6 ?_
 simp only [List.take_succ_cons, List.take_zero, List.drop_succ_cons, List.drop_zero]
 refine yw ?_
 refine yq ?_
 refine wJ (O.conv rfl rfl wU8any) ?_
 refine FA.opN (z7 rfl rfl rfl) rfl rfl rfl rfl ?_
 refine zv ?_
 refine wJ (O.sliceFromB (k := 4) rfl rfl rfl (by rfl) (by omega)) ?_
 refine wg ?_
 simp only [chosen, List.nil_append, List.cons_append, List.append_nil]
 rintro _ _ ⟨B2, rfl, rfl⟩
 simp only [List.cons_append, List.nil_append]
 refine AO.g ?_
 refine G.closeRow (n := 1) (cap := 1) 0 rfl rfl rfl (Nat.le_refl _) (by (unfold maxLen; omega)) ?_
 refine AO.u ?_
 dsimp only [List.set]
 refine AO.append' (i := 0) rfl rfl rfl rfl (by rfl) (by rfl) rfl rfl rfl (by exact SrcA.ro TyD.ax (by (simp; done)) (Nat.le_of_ble_eq_true rfl)) (by (simp [AV.cells, AV.one, *]; done)) (by (unfold maxLen; simp only [List.length_take, List.length_drop, List.length_append, List.length_cons, List.length_nil, List.length_set, Nat.zero_add]; omega)) (by (simp only [List.length_take, List.length_drop, List.length_append, List.length_cons, List.length_nil, List.length_set, Nat.zero_add]; omega)) (by (dsimp only [List.set, List.cons_append, List.nil_append, List.take, List.drop]; done)) (fun _ => by (dsimp only [List.set]; done)) ?_
 intro V3 hV3
 refine zc ?_
 refine zc (zD (zl (y1 ?_)))
 refine AQ.g ?_
 refine z6 0 [2] ?_
 refine AQ.u ?_
 try dsimp only [List.map, List.eraseIdx, List.cons_append, List.nil_append]
 refine AQ.g ?_
 refine G.re 2 (roB (u8 m.code :: (encR (pkM m)).1.drop 4)) (congrArg some (roB_of (by rw [List.length_cons]; omega) rfl)) ?_
 refine AQ.u ?_
 refine FnQ.coe yx xw (retP e)
end Go.Proofs.YtojomcdjcpmnkaaGreat.By

namespace Go.Proofs.YtojomcdjcpmnkaaGreat.By
open Go.RowKit L A
set_option linter.unusedVariables false
set_option maxRecDepth 20000
set_option linter.unusedSimpArgs false
attribute [local irreducible] AW AQ AO
abbrev pt (b : Nat) : AV := .val (.pointer (some ⟨b, 0, none⟩))
abbrev stB (b : Nat) (f : Nat → UInt8) : HE := .blk b 185 16 (arB 16 f)
theorem stB_eq {b : Nat} {f g : Nat → UInt8} (h : ∀ q, q < 16 → f q = g q) : [stB b f] = [stB b g] := congrArg (fun x => [HE.blk b 185 16 x]) (arB_congr h)
theorem stB_eq1 {b : Nat} {f g : Nat → UInt8} (h : ∀ q, q < 16 → f q = g q) : stB b f = stB b g := congrArg (fun x => HE.blk b 185 16 x) (arB_congr h)
set_option maxHeartbeats 1000000 in
theorem sxor_fn (b : Nat) (f k : Nat → UInt8) : Sp Tryz.prog 206 [pt b, .agg (arB 16 k)] [stB b f] (IsM (.val (.tuple #[])) (stB b fun q => f q ^^^ k q)) := by
 refine yv Tryz.func206 _ Tryz.ntmps206 (fun w0 R0 => ?_)
 refine zx (zm ?_)
 refine ya ?_
 intro B1
 refine zD (zl (zx (zm ?_)))
 refine za (zD (zl (yS ?_)))
 refine zg [(0, _), (3, _)] (fun nn E H => ∃ (i : Nat), (i ≤ 16) ∧ nn = 16 - i ∧ E = [(5, .val (.int .i64 (i : Int)))] ∧ H = [.blk B1 185 16 (arB 16 k), stB b (fun q => if q < i then f q ^^^ k q else f q)]) _ (⟨0, by omega, rfl, rfl, rfl⟩) ?_
 rintro nn E H ⟨i, hi, rfl, rfl, rfl⟩
 dsimp only [List.cons_append, List.nil_append]
 refine zx (zm ?_)
 refine zH (zD (zl (zx ?_)))
 refine yn (fun h => ?_) (fun h => ?_) <;> (try simp only [wN] at h)
 ·skip
  refine yN (zl (zx (yS (zx (zm ?_)))))
  refine za ?_
  refine zc (zD (zl ?_))
  refine yj 11 ?_
  simp only [List.take_succ_cons, List.take_zero, List.drop_succ_cons, List.drop_zero]
  refine zv ?_
  refine zv ?_
  refine wJ (O.nilCheck rfl rfl) ?_
  refine yi ?_
  refine wJ (O.load rfl rfl (by repeat (first | exact List.Mem.head _ | refine List.Mem.tail _ ?_)) (by exact arB_get (k := i) (by omega) (by omega))) ?_
  refine zv ?_
  refine yi ?_
  refine wJ (O.load rfl rfl (by repeat (exact List.Mem.head _)) (by exact arB_get (k := i) (by omega) (by omega))) ?_
  refine xt ?_
  refine wJ (O.nilCheck rfl rfl) ?_
  refine yi ?_
  refine wg ?_
  simp only [chosen, List.nil_append, List.cons_append, List.append_nil]
  refine yf 1 rfl rfl rfl rfl rfl rfl (by rfl) (by rfl) (by exact Nat.ble_eq_true_of_le (by rw [arB_len]; omega)) (by exact arB_set (k := i) (by omega) _ (by omega)) (zD (y5 (zl (zm ?_))))
  refine zr ?_
  refine za (zD ?_)
  have e : stB b (fun q => if q = i then (if i < i then f i ^^^ k i else f i) ^^^ k i else if q < i then f q ^^^ k q else f q) = stB b (fun q => if q < i + 1 then f q ^^^ k q else f q) := stB_eq1 fun q _ => by
   rcases Nat.lt_trichotomy q i with h1 | rfl | h1
   ·rw [if_neg (by omega), if_pos h1, if_pos (by omega)]
   ·rw [if_pos rfl, if_neg (by omega), if_pos (by omega)]
   rw [if_neg (by omega), if_neg (by omega), if_neg (by omega)]
  refine zj _ _ _ (by omega) (⟨i + 1, by omega, rfl, rfl, congrArg (fun x => [HE.blk B1 185 16 (arB 16 k), x]) e⟩)
 obtain rfl : i = 16 := by omega
 refine xD ?_
 refine xr ?_
 refine xA ?_
 refine yZ ?_
 have e : [stB b (fun q => if q < 16 then f q ^^^ k q else f q)] = [stB b (fun q => f q ^^^ k q)] := stB_eq fun q hq => if_pos hq
 refine AQ.retN (AQ.ret0 rfl ⟨_, by repeat (first | exact List.Sublist.slnil | refine List.Sublist.cons_cons _ ?_ | refine List.Sublist.cons _ ?_), List.Perm.refl _⟩ (⟨rfl, e⟩))
theorem u8ix (v : UInt8) : 0 ≤ (v.toNat : Int) ∧ (v.toNat : Int) < ((256 : Nat) : Int) := by have := v.toNat_lt; omega
/-- A box: the substitute of each byte. -/
def BoxOf (xs : List AV) (o : Nat) (S : UInt8 → UInt8) : Prop := ∀ v : UInt8, xs[o + v.toNat]? = some (by8 (S v))
def shF (S : UInt8 → UInt8) (d : Nat) (f : Nat → UInt8) (i : Nat) : UInt8 := S (f (i % 4 + 4 * ((i / 4 + d * (i % 4)) % 4)))
theorem shF_at1 {i : Nat} (hi : i < 16) (f : Nat → UInt8) : (arB 16 f)[0 + ((i : Int) % 4 + 4 * (((i : Int) / 4 + 1 * ((i : Int) % 4)) % 4)).toNat * 1]? = some (by8 (f (i % 4 + 4 * ((i / 4 + 1 * (i % 4)) % 4)))) :=
 arB_get (by omega) (by
  have : ((i : Int) % 4 + 4 * (((i : Int) / 4 + 1 * ((i : Int) % 4)) % 4)) = ((i % 4 + 4 * ((i / 4 + 1 * (i % 4)) % 4) : Nat) : Int) := by push_cast; rfl
  rw [this, Int.toNat_natCast]; omega)
theorem box_at1 {xs : List AV} {o : Nat} {S : UInt8 → UInt8} (h : BoxOf xs o S) (v : UInt8) : xs[o + (v.toNat : Int).toNat * 1]? = some (by8 (S v)) := by rw [Int.toNat_natCast, Nat.mul_one]; exact h v
set_option maxHeartbeats 2000000 in
theorem shift1_fn (b : Nat) (f : Nat → UInt8) (xs : List AV) (o : Nat) (S : UInt8 → UInt8) (hS : BoxOf xs o S) : Sp Tryz.prog 207 [pt b, .rp xs o, .val (.int .i64 1)] [stB b f] (IsM (.val (.tuple #[])) (stB b (shF S 1 f))) := by
 refine yv Tryz.func207 _ Tryz.ntmps207 (fun w0 R0 => ?_)
 refine zx (zm ?_)
 refine za ?_
 refine wI (O.nilCheck rfl rfl) ?_
 refine zM ?_
 refine zd ?_
 intro B1
 refine AO.store (i := 0) rfl rfl rfl rfl rfl rfl (by rfl) (by rfl) (by rfl) (by exact splice_arB rfl) (by (dsimp only [List.set, List.cons_append, List.nil_append, List.take, List.drop]; done)) (zD (zl (zx (zm ?_))))
 refine za (zD (zl (yS ?_)))
 refine zg [(0, _), (1, _), (2, _), (6, _)] (fun nn E H => ∃ (i : Nat), (i ≤ 16) ∧ nn = 16 - i ∧ E = [(13, .val (.int .i64 (i : Int)))] ∧ H = [.blk B1 185 16 (arB 16 f), stB b (fun q => if q < i then shF S 1 f q else f q)]) _ (⟨0, by omega, rfl, rfl, rfl⟩) ?_
 rintro nn E H ⟨i, hi, rfl, rfl, rfl⟩
 dsimp only [List.cons_append, List.nil_append]
 refine zx (zm ?_)
 refine zH (zD (zl (zx ?_)))
 refine yn (fun h => ?_) (fun h => ?_) <;> (try simp only [wN] at h)
 ·skip
  have hi' : i < 16 := by omega
  refine yN (zl (zx (yS (zx (zm ?_)))))
  refine za ?_
  refine zc (zD (zl (zx (zm ?_))))
  refine za ?_
  refine xq ?_
  refine za ?_
  refine xI ?_
  refine zc ?_
  refine zc (zD (zl ?_))
  refine yj 19 ?_
  simp only [List.take_succ_cons, List.take_zero, List.drop_succ_cons, List.drop_zero]
  refine zv ?_
  refine zv ?_
  refine zv ?_
  refine zv ?_
  refine zv ?_
  refine zv ?_
  refine zv ?_
  refine yH ?_
  refine y2 ?_
  refine wJ xk ?_
  refine yH ?_
  refine y2 ?_
  refine yC ?_
  refine wJ (O.load rfl rfl (by repeat (exact List.Mem.head _)) (by exact shF_at1 hi' f)) ?_
  refine wJ (O.nilCheckR rfl rfl) ?_
  refine wJ (O.idxLR rfl rfl rfl (by exact u8ix _)) ?_
  refine wJ (O.loadR rfl rfl (by exact box_at1 hS _)) ?_
  refine wJ (O.nilCheck rfl rfl) ?_
  refine yC ?_
  refine wg ?_
  simp only [chosen, List.nil_append, List.cons_append, List.append_nil]
  refine yf 1 rfl rfl rfl rfl rfl rfl (by rfl) (by rfl) (by exact Nat.ble_eq_true_of_le (by rw [arB_len]; omega)) (by exact arB_set (k := i) (by omega) _ (by omega)) (zD (y5 (zl (zm ?_))))
  refine zr ?_
  refine za (zD ?_)
  have e : stB b (fun q => if q = i then shF S 1 f i else if q < i then shF S 1 f q else f q) = stB b (fun q => if q < i + 1 then shF S 1 f q else f q) := stB_eq1 fun q _ => by
   rcases Nat.lt_trichotomy q i with h1 | rfl | h1
   ·rw [if_neg (by omega), if_pos h1, if_pos (by omega)]
   ·rw [if_pos rfl, if_pos (by omega)]
   rw [if_neg (by omega), if_neg (by omega), if_neg (by omega)]
  refine zj _ _ _ (by omega) (⟨i + 1, by omega, rfl, rfl, congrArg (fun x => [HE.blk B1 185 16 (arB 16 f), x]) e⟩)
 obtain rfl : i = 16 := by omega
 refine xD ?_
 refine xr ?_
 refine xA ?_
 refine yZ ?_
 have e : [stB b (fun q => if q < 16 then shF S 1 f q else f q)] = [stB b (shF S 1 f)] := stB_eq fun q hq => if_pos hq
 refine AQ.retN (AQ.ret0 rfl ⟨_, by repeat (first | exact List.Sublist.slnil | refine List.Sublist.cons_cons _ ?_ | refine List.Sublist.cons _ ?_), List.Perm.refl _⟩ (⟨rfl, e⟩))
/-! mix -/
def mixK (f m : Nat → UInt8) (i : Nat) : Nat → UInt8
 | 0 => 0
 | k + 1 => mixK f m i k ^^^ prod (f (4 * (i / 4) + (i % 4 + k) % 4)) (m k)
def mixF (f m : Nat → UInt8) (i : Nat) : UInt8 := mixK f m i 4
theorem mix_at {i k : Nat} (hi : i < 16) (f : Nat → UInt8) : (arB 16 f)[0 + (4 * ((i : Int) / 4) + ((i : Int) % 4 + (k : Int)) % 4).toNat * 1]? = some (by8 (f (4 * (i / 4) + (i % 4 + k) % 4))) :=
 arB_get (by omega) (by
  have : (4 * ((i : Int) / 4) + ((i : Int) % 4 + (k : Int)) % 4) = ((4 * (i / 4) + (i % 4 + k) % 4 : Nat) : Int) := by push_cast; rfl
  rw [this, Int.toNat_natCast]; omega)
def mixU (f m : Nat → UInt8) (i k q : Nat) : UInt8 := if q = i then mixK f m i k else if q < i then mixF f m q else f q
set_option maxHeartbeats 2000000 in
theorem mix_fn (b : Nat) (f m : Nat → UInt8) : Sp Tryz.prog 208 [pt b, .agg (arB 4 m)] [stB b f] (IsM (.val (.tuple #[])) (stB b (mixF f m))) := by
 refine yv Tryz.func208 _ Tryz.ntmps208 (fun w0 R0 => ?_)
 refine zx (zm ?_)
 refine ya ?_
 intro B1
 refine zD (zl (zx (zm ?_)))
 refine za ?_
 refine wI (O.nilCheck rfl rfl) ?_
 refine zG ?_
 refine zd ?_
 intro B2
 refine AO.store (i := 0) rfl rfl rfl rfl rfl rfl (by rfl) (by rfl) (by rfl) (by exact splice_arB rfl) (by (dsimp only [List.set, List.cons_append, List.nil_append, List.take, List.drop]; done)) (zD (zl (zx (zm ?_))))
 refine za (zD (zl (yS ?_)))
 refine xJ [(0, _), (3, _), (4, _)] (fun nn E H => ∃ (i : Nat), (i ≤ 16) ∧ nn = 16 - i ∧ E = [(12, .val (.int .i64 (i : Int)))] ∧ H = [.blk B1 215 4 (arB 4 m), .blk B2 185 16 (arB 16 f), stB b (fun q => if q < i then mixF f m q else f q)]) _ (⟨0, by omega, rfl, rfl, rfl⟩) ?_
 rintro nn E H ⟨i, hi, rfl, rfl, rfl⟩
 dsimp only [List.cons_append, List.nil_append]
 refine zx (zm ?_)
 refine zH (zD (zl (zx ?_)))
 refine yn (fun h => ?_) (fun h => ?_) <;> (try simp only [wN] at h)
 ·skip
  have hi' : i < 16 := by omega
  refine yN (zl (zx (yS (zx (zm ?_)))))
  refine za ?_
  refine zc (zD (zl (zx (zm ?_))))
  refine za ?_
  refine xq ?_
  refine za ?_
  refine xI ?_
  refine zc ?_
  refine zc (zD (zl (zx (zm ?_))))
  refine za ?_
  refine za ?_
  refine wI (O.nilCheck rfl rfl) ?_
  refine xb ?_
  refine yf 2 rfl rfl rfl rfl rfl rfl (by rfl) (by rfl) (by exact Nat.ble_eq_true_of_le (by rw [arB_len]; omega)) (by exact arB_set (k := i) (by omega) 0 (by omega)) (zD (zl (zx (zm ?_))))
  refine za (zD (zl (yS ?_)))
  have e0 : stB b (fun q => if q = i then 0 else if q < i then mixF f m q else f q) = stB b (mixU f m i 0) := rfl
  refine zg [(0, _), (3, _), (4, _), (5, _), (6, _), (7, _), (12, _)] (fun nn E H => ∃ (k : Nat), (k ≤ 4) ∧ nn = 4 - k ∧ E = [(23, .val (.int .i64 (k : Int)))] ∧ H = [.blk B1 215 4 (arB 4 m), .blk B2 185 16 (arB 16 f), stB b (mixU f m i k)]) _ (⟨0, by omega, rfl, rfl, rfl⟩) ?_
  rintro nn E H ⟨k, hk, rfl, rfl, rfl⟩
  dsimp only [List.cons_append, List.nil_append]
  refine zx (zm ?_)
  refine zH (zD (zl (zx ?_)))
  refine yn (fun h2 => ?_) (fun h2 => ?_) <;> (try simp only [wN] at h2)
  ·skip
   have hk' : k < 4 := by omega
   refine yN (zl (zx (yS (zx (zm ?_)))))
   refine za ?_
   refine zc (zD (zl ?_))
   refine yj 21 ?_
   simp only [List.take_succ_cons, List.take_zero, List.drop_succ_cons, List.drop_zero]
   refine zv ?_
   refine zv ?_
   refine wJ (O.nilCheck rfl rfl) ?_
   refine yC ?_
   refine wJ (O.load rfl rfl (by repeat (first | exact List.Mem.head _ | refine List.Mem.tail _ ?_)) (by exact arB_get (k := i) (by omega) (by omega))) ?_
   refine zv ?_
   refine yH ?_
   refine zv ?_
   refine zv ?_
   refine y2 ?_
   refine wJ xk ?_
   refine y2 ?_
   refine yC ?_
   refine wJ (O.load rfl rfl (by repeat (first | exact List.Mem.head _ | refine List.Mem.tail _ ?_)) (by exact mix_at hi' f)) ?_
   refine zv ?_
   refine yC ?_
   refine wJ (O.load rfl rfl (by repeat (exact List.Mem.head _)) (by exact arB_get (k := k) (by omega) (by omega))) ?_
   refine wJ (xl rfl Tryz.func212 rfl rfl rfl (product_fn _ _)) ?_
   refine xt ?_
   refine wJ (O.nilCheck rfl rfl) ?_
   refine yC ?_
   refine wg ?_
   simp only [chosen, List.nil_append, List.cons_append, List.append_nil]
   refine yf 2 rfl rfl rfl rfl rfl rfl (by rfl) (by rfl) (by exact Nat.ble_eq_true_of_le (by rw [arB_len]; omega)) (by exact arB_set (k := i) (by omega) _ (by omega)) (zD (y5 (zl (zm ?_))))
   refine zr ?_
   refine za (zD ?_)
   have e : stB b (fun q => if q = i then mixU f m i k i ^^^ prod (f (4 * (i / 4) + (i % 4 + k) % 4)) (m k) else mixU f m i k q) = stB b (mixU f m i (k + 1)) := stB_eq1 fun q _ => by
    unfold mixU
    by_cases h1 : q = i
    ·rw [if_pos h1, if_pos h1, if_pos rfl]; rfl
    rw [if_neg h1, if_neg h1, if_neg h1]
   refine zj _ _ _ (by omega) (⟨k + 1, by omega, rfl, rfl, congrArg (fun x => [HE.blk B1 215 4 (arB 4 m), HE.blk B2 185 16 (arB 16 f), x]) e⟩)
  obtain rfl : k = 4 := by omega
  refine xD ?_
  refine xr ?_
  refine xA ?_
  refine yZ (y5 (zl (zm ?_)))
  refine zr ?_
  refine za (zD ?_)
  have e : stB b (mixU f m i 4) = stB b (fun q => if q < i + 1 then mixF f m q else f q) := stB_eq1 fun q _ => by
   unfold mixU
   rcases Nat.lt_trichotomy q i with h1 | rfl | h1
   ·rw [if_neg (by omega), if_pos h1, if_pos (by omega)]
   ·rw [if_pos rfl, if_pos (by omega)]; rfl
   rw [if_neg (by omega), if_neg (by omega), if_neg (by omega)]
  refine zj _ _ _ (by omega) (⟨i + 1, by omega, rfl, rfl, congrArg (fun x => [HE.blk B1 215 4 (arB 4 m), HE.blk B2 185 16 (arB 16 f), x]) e⟩)
 obtain rfl : i = 16 := by omega
 refine xD ?_
 refine xr ?_
 refine xA ?_
 refine yZ ?_
 have e : [stB b (fun q => if q < 16 then mixF f m q else f q)] = [stB b (mixF f m)] := stB_eq fun q hq => if_pos hq
 refine AQ.retN (AQ.ret0 rfl ⟨_, by repeat (first | exact List.Sublist.slnil | refine List.Sublist.cons_cons _ ?_ | refine List.Sublist.cons _ ?_), List.Perm.refl _⟩ (⟨rfl, e⟩))
end Go.Proofs.YtojomcdjcpmnkaaGreat.By

namespace Go.Proofs.YtojomcdjcpmnkaaGreat.By
open Go.RowKit L A
set_option linter.unusedVariables false
set_option linter.unusedSimpArgs false
attribute [local irreducible] AW AQ AO
set_option maxRecDepth 20000
def PW : List UInt8 := [1, 3, 5, 15, 17, 51, 85, 255, 26, 46, 114, 150, 161, 248, 19, 53, 95, 225, 56, 72, 216, 115, 149, 164, 247, 2, 6, 10, 30, 34, 102, 170, 229, 52, 92, 228, 55, 89, 235, 38, 106, 190, 217, 112, 144, 171, 230, 49, 83, 245, 4, 12, 20, 60, 68, 204, 79, 209, 104, 184, 211, 110, 178, 205, 76, 212, 103, 169, 224, 59, 77, 215, 98, 166, 241, 8, 24, 40, 120, 136, 131, 158, 185, 208, 107, 189, 220, 127, 129, 152, 179, 206, 73, 219, 118, 154, 181, 196, 87, 249, 16, 48, 80, 240, 11, 29, 39, 105, 187, 214, 97, 163, 254, 25, 43, 125, 135, 146, 173, 236, 47, 113, 147, 174, 233, 32, 96, 160, 251, 22, 58, 78, 210, 109, 183, 194, 93, 231, 50, 86, 250, 21, 63, 65, 195, 94, 226, 61, 71, 201, 64, 192, 91, 237, 44, 116, 156, 191, 218, 117, 159, 186, 213, 100, 172, 239, 42, 126, 130, 157, 188, 223, 122, 142, 137, 128, 155, 182, 193, 88, 232, 35, 101, 175, 234, 37, 111, 177, 200, 67, 197, 84, 252, 31, 33, 99, 165, 244, 7, 9, 27, 45, 119, 153, 176, 203, 70, 202, 69, 207, 74, 222, 121, 139, 134, 145, 168, 227, 62, 66, 198, 81, 243, 14, 18, 54, 90, 238, 41, 123, 141, 140, 143, 138, 133, 148, 167, 242, 13, 23, 57, 75, 221, 124, 132, 151, 162, 253, 28, 36, 108, 180, 199, 82, 246, 1]
def SB : List UInt8 := [99, 124, 119, 123, 242, 107, 111, 197, 48, 1, 103, 43, 254, 215, 171, 118, 202, 130, 201, 125, 250, 89, 71, 240, 173, 212, 162, 175, 156, 164, 114, 192, 183, 253, 147, 38, 54, 63, 247, 204, 52, 165, 229, 241, 113, 216, 49, 21, 4, 199, 35, 195, 24, 150, 5, 154, 7, 18, 128, 226, 235, 39, 178, 117, 9, 131, 44, 26, 27, 110, 90, 160, 82, 59, 214, 179, 41, 227, 47, 132, 83, 209, 0, 237, 32, 252, 177, 91, 106, 203, 190, 57, 74, 76, 88, 207, 208, 239, 170, 251, 67, 77, 51, 133, 69, 249, 2, 127, 80, 60, 159, 168, 81, 163, 64, 143, 146, 157, 56, 245, 188, 182, 218, 33, 16, 255, 243, 210, 205, 12, 19, 236, 95, 151, 68, 23, 196, 167, 126, 61, 100, 93, 25, 115, 96, 129, 79, 220, 34, 42, 144, 136, 70, 238, 184, 20, 222, 94, 11, 219, 224, 50, 58, 10, 73, 6, 36, 92, 194, 211, 172, 98, 145, 149, 228, 121, 231, 200, 55, 109, 141, 213, 78, 169, 108, 86, 244, 234, 101, 122, 174, 8, 186, 120, 37, 46, 28, 166, 180, 198, 232, 221, 116, 31, 75, 189, 139, 138, 112, 62, 181, 102, 72, 3, 246, 14, 97, 53, 87, 185, 134, 193, 29, 158, 225, 248, 152, 17, 105, 217, 142, 148, 155, 30, 135, 233, 206, 85, 40, 223, 140, 161, 137, 13, 191, 230, 66, 104, 65, 153, 45, 15, 176, 84, 187, 22]
def IV : List UInt8 := [82, 9, 106, 213, 48, 54, 165, 56, 191, 64, 163, 158, 129, 243, 215, 251, 124, 227, 57, 130, 155, 47, 255, 135, 52, 142, 67, 68, 196, 222, 233, 203, 84, 123, 148, 50, 166, 194, 35, 61, 238, 76, 149, 11, 66, 250, 195, 78, 8, 46, 161, 102, 40, 217, 36, 178, 118, 91, 162, 73, 109, 139, 209, 37, 114, 248, 246, 100, 134, 104, 152, 22, 212, 164, 92, 204, 93, 101, 182, 146, 108, 112, 72, 80, 253, 237, 185, 218, 94, 21, 70, 87, 167, 141, 157, 132, 144, 216, 171, 0, 140, 188, 211, 10, 247, 228, 88, 5, 184, 179, 69, 6, 208, 44, 30, 143, 202, 63, 15, 2, 193, 175, 189, 3, 1, 19, 138, 107, 58, 145, 17, 65, 79, 103, 220, 234, 151, 242, 207, 206, 240, 180, 230, 115, 150, 172, 116, 34, 231, 173, 53, 133, 226, 249, 55, 232, 28, 117, 223, 110, 71, 241, 26, 113, 29, 41, 197, 137, 111, 183, 98, 14, 170, 24, 190, 27, 252, 86, 62, 75, 198, 210, 121, 32, 154, 219, 192, 254, 120, 205, 90, 244, 31, 221, 168, 51, 136, 7, 199, 49, 177, 18, 16, 89, 39, 128, 236, 95, 96, 81, 127, 169, 25, 181, 74, 13, 45, 229, 122, 159, 147, 201, 156, 239, 160, 224, 59, 77, 174, 42, 245, 176, 200, 235, 187, 60, 131, 83, 153, 97, 23, 43, 4, 126, 186, 119, 214, 38, 225, 105, 20, 99, 85, 33, 12, 125]
def LG : List Nat := [255, 0, 25, 1, 50, 2, 26, 198, 75, 199, 27, 104, 51, 238, 223, 3, 100, 4, 224, 14, 52, 141, 129, 239, 76, 113, 8, 200, 248, 105, 28, 193, 125, 194, 29, 181, 249, 185, 39, 106, 77, 228, 166, 114, 154, 201, 9, 120, 101, 47, 138, 5, 33, 15, 225, 36, 18, 240, 130, 69, 53, 147, 218, 142, 150, 143, 219, 189, 54, 208, 206, 148, 19, 92, 210, 241, 64, 70, 131, 56, 102, 221, 253, 48, 191, 6, 139, 98, 179, 37, 226, 152, 34, 136, 145, 16, 126, 110, 72, 195, 163, 182, 30, 66, 58, 107, 40, 84, 250, 133, 61, 186, 43, 121, 10, 21, 155, 159, 94, 202, 78, 212, 172, 229, 243, 115, 167, 87, 175, 88, 168, 80, 244, 234, 214, 116, 79, 174, 233, 213, 231, 230, 173, 232, 44, 215, 117, 122, 235, 22, 11, 245, 89, 203, 95, 176, 156, 169, 81, 160, 127, 12, 246, 111, 23, 196, 73, 236, 216, 67, 31, 45, 164, 118, 123, 183, 204, 187, 62, 90, 251, 96, 177, 134, 59, 82, 161, 108, 170, 85, 41, 157, 151, 178, 135, 144, 97, 190, 220, 252, 188, 149, 207, 205, 55, 63, 91, 209, 83, 57, 132, 60, 65, 162, 109, 71, 20, 42, 158, 93, 86, 242, 211, 171, 68, 17, 146, 217, 35, 32, 46, 137, 180, 124, 184, 38, 119, 153, 227, 165, 103, 74, 237, 222, 197, 49, 254, 24, 13, 99, 140, 128, 192, 247, 112, 7]
def pw (i : Nat) : UInt8 := PW.getD i 0
def sb (v : UInt8) : UInt8 := SB.getD v.toNat 0
def iv (v : UInt8) : UInt8 := IV.getD v.toNat 0
def lg (v : UInt8) : Nat := LG.getD v.toNat 0
def tA (i : Nat) : UInt8 := if i < 255 then pw i else 0
def tB (i : Nat) : UInt8 := if i < 255 then pw ((255 - i) % 255) else 0
def tC (i k : Nat) : UInt8 := match k with
 | 0 => tB i ^^^ 99
 | k + 1 => tC i k ^^^ rotB (tB i) (k + 1)
theorem pw_step : ∀ i, i < 255 → pw (i + 1) = pw i ^^^ dbl (pw i) := by decide +kernel
theorem tab_a : ∀ i, i < 256 → lg (tA i) = i ∧ sb (tA i) = tC i 4 ∧ iv (tC i 4) = tA i := by decide +kernel
theorem tab_l : ∀ n, n < 256 → tA (lg (UInt8.ofNat n)) = UInt8.ofNat n ∧ lg (UInt8.ofNat n) < 256 := by decide +kernel
theorem iv_sb : ∀ n, n < 256 → iv (sb (UInt8.ofNat n)) = UInt8.ofNat n ∧ sb (iv (UInt8.ofNat n)) = UInt8.ofNat n := by decide +kernel
end Go.Proofs.YtojomcdjcpmnkaaGreat.By

namespace Go.Proofs.YtojomcdjcpmnkaaGreat.By
open Go.RowKit L A
set_option linter.unusedVariables false
set_option maxRecDepth 20000
set_option linter.unusedSimpArgs false
attribute [local irreducible] AW AQ AO
instance : TyN Tryz.prog 183 512 512 (.agg ⟨List.replicate 512 (.int .u8 0)⟩) := ⟨Tryz.t183, Tryz.type183, rfl, rfl, by kernel_rfl⟩
theorem zeros_arB (n : Nat) : List.map AV.val (List.replicate n (.int .u8 0)) = arB n (fun _ => 0) := by
 rw [arB_eq, List.map_replicate]
 apply List.ext_getElem?
 intro q
 by_cases h : q < n <;> simp [h]
theorem ofNat_eq {q : Nat} (hq : q < 256) {v : UInt8} : UInt8.ofNat q = v ↔ q = v.toNat := by
 constructor
 ·rintro rfl; rw [UInt8.toNat_ofNat_of_lt' (by simpa [UInt8.size] using hq)]
 rintro rfl; exact UInt8.ofNat_toNat
theorem tA_lg (v : UInt8) : tA (lg v) = v := by have := (tab_l v.toNat v.toNat_lt).1; rwa [UInt8.ofNat_toNat] at this
theorem lg_lt (v : UInt8) : lg v < 256 := by have := (tab_l v.toNat v.toNat_lt).2; rwa [UInt8.ofNat_toNat] at this
theorem sb_iv (v : UInt8) : sb (iv v) = v := by have := (iv_sb v.toNat v.toNat_lt).2; rwa [UInt8.ofNat_toNat] at this
theorem lg_iff {i : Nat} (hi : i < 256) {v : UInt8} : lg v = i ↔ v = tA i := by
 constructor
 ·intro h; rw [← h]; exact (tA_lg v).symm
 rintro rfl; exact (tab_a i hi).1
def tT (i q : Nat) : UInt8 := if q < 256 then (if lg (UInt8.ofNat q) < i then sb (UInt8.ofNat q) else 0) else (if lg (iv (UInt8.ofNat (q - 256))) < i then iv (UInt8.ofNat (q - 256)) else 0)
def TB (q : Nat) : UInt8 := if q < 256 then sb (UInt8.ofNat q) else iv (UInt8.ofNat (q - 256))
theorem tT_step {i : Nat} (hi : i < 256) (q : Nat) (hq : q < 512) : (if q = 256 + (tC i 4).toNat then tA i else if q = (tA i).toNat then tC i 4 else tT i q) = tT (i + 1) q := by
 obtain ⟨h1, h2, h3⟩ := tab_a i hi
 have ha := (tA i).toNat_lt
 unfold tT
 by_cases hq2 : q < 256
 ·rw [if_neg (by omega), if_pos hq2, if_pos hq2]
  by_cases e : q = (tA i).toNat
  ·rw [if_pos e]
   have : UInt8.ofNat q = tA i := (ofNat_eq hq2).2 e
   rw [this, h1, if_pos (by omega), h2]
  rw [if_neg e]
  have : lg (UInt8.ofNat q) ≠ i := fun hh => e ((ofNat_eq hq2).1 ((lg_iff hi).1 hh))
  by_cases hl : lg (UInt8.ofNat q) < i
  ·rw [if_pos hl, if_pos (by omega)]
  rw [if_neg hl, if_neg (by omega)]
 rw [if_neg hq2, if_neg hq2]
 by_cases e : q = 256 + (tC i 4).toNat
 ·rw [if_pos e]
  have : UInt8.ofNat (q - 256) = tC i 4 := (ofNat_eq (by omega)).2 (by omega)
  rw [this, h3, h1, if_pos (by omega)]
 rw [if_neg e, if_neg (by omega)]
 have : lg (iv (UInt8.ofNat (q - 256))) ≠ i := fun hh => e (by
  have h4 := (lg_iff hi).1 hh
  have h5 := sb_iv (UInt8.ofNat (q - 256))
  rw [h4, h2] at h5
  have := (ofNat_eq (q := q - 256) (by omega)).1 h5.symm
  omega)
 by_cases hl : lg (iv (UInt8.ofNat (q - 256))) < i
 ·rw [if_pos hl, if_pos (by omega)]
 rw [if_neg hl, if_neg (by omega)]
theorem tT_all (q : Nat) : tT 256 q = TB q := by
 unfold tT TB
 rw [if_pos (lg_lt _), if_pos (lg_lt _)]
theorem box_to : BoxOf (arB 512 TB) 0 sb := fun v => by
 have := v.toNat_lt
 rw [arB_get (k := v.toNat) (by omega) (by omega), TB, if_pos (by omega), UInt8.ofNat_toNat]
theorem xor99 (a : UInt8) : Go.bits .xor .u8 (a.toNat : Int) 99 = ((a ^^^ 99).toNat : Int) := all256 (p := fun a => Go.bits .xor .u8 (a.toNat : Int) 99 = ((a ^^^ 99).toNat : Int)) (by decide +kernel) a
set_option maxRecDepth 20000 in
set_option maxHeartbeats 4000000 in
theorem subs_fn : Sp Tryz.prog 177 [] [] (Is (.agg (arB 512 TB))) := by
 refine yv Tryz.func177 _ Tryz.ntmps177 (fun w0 R0 => ?_)
 refine zx (zm ?_)
 refine xy ?_
 intro B1
 refine zD (zl (zx (zm ?_)))
 refine xy ?_
 intro B2
 refine zD (zl (zx (zm ?_)))
 refine zc (zD (zl (zx (zx (zm ?_)))))
 refine za (zD (zl (yS ?_)))
 have e0 : arB 256 (fun _ => 0) = arB 256 (fun q => if q < 0 then pw q else 0) := arB_congr fun q _ => (if_neg (by omega)).symm
 rw [e0]
 refine zg [(0, _), (1, _)] (fun nn E H => ∃ (i : Nat), (i ≤ 255) ∧ nn = 255 - i ∧ E = [(2, by8 (pw i)), (10, .val (.int .i64 (i : Int)))] ∧ H = [.blk B2 181 256 (arB 256 (fun q => if q < i then pw q else 0)), .blk B1 183 512 (arB 512 fun _ => 0)]) _ (⟨0, by omega, rfl, rfl, rfl⟩) ?_
 rintro nn E H ⟨i, hi, rfl, rfl, rfl⟩
 dsimp only [List.cons_append, List.nil_append]
 refine zx (zm ?_)
 refine zH (zD (zl (zx ?_)))
 refine yn (fun h => ?_) (fun h => ?_) <;> (try simp only [wN] at h)
 ·skip
  refine yN (zl (zx (yS (zx (zm ?_)))))
  refine za ?_
  refine zc (zD (zl (zx (zm ?_))))
  refine za ?_
  refine za ?_
  refine xb ?_
  refine yf 0 rfl rfl rfl rfl rfl rfl (by rfl) (by rfl) (by exact Nat.ble_eq_true_of_le (by rw [arB_len]; omega)) (by exact arB_set (k := i) (by omega) _ (by omega)) (zD (zl (zm ?_)))
  refine za ?_
  refine za ?_
  refine wI (xl rfl Tryz.func195 rfl rfl rfl (dbl_fn _)) ?_
  refine wv ?_
  refine zc (zD (y5 (zl (zm ?_))))
  refine zr ?_
  refine za (zD ?_)
  have e1 : arB 256 (fun q => if q = i then pw i else if q < i then pw q else 0) = arB 256 (fun q => if q < i + 1 then pw q else 0) := arB_congr fun q _ => by
   rcases Nat.lt_trichotomy q i with h1 | rfl | h1
   ·rw [if_neg (by omega), if_pos h1, if_pos (by omega)]
   ·rw [if_pos rfl, if_pos (by omega)]
   rw [if_neg (by omega), if_neg (by omega), if_neg (by omega)]
  rw [← pw_step i (by omega), e1]
  refine zj _ _ _ (by omega) (⟨i + 1, by omega, rfl, rfl, rfl⟩)
 obtain rfl : i = 255 := by omega
 refine xD ?_
 refine xr ?_
 refine xA ?_
 refine yZ (zl (zx (zm ?_)))
 refine xy ?_
 intro B3
 refine zD (zl (zx (zx (zm ?_))))
 refine za (zD (zl (yS ?_)))
 obtain ⟨PB, hPB⟩ : ∃ PB, PB = arB 256 (fun q => if q < 255 then pw q else 0) := ⟨_, rfl⟩
 have hpg : ∀ k, k < 255 → PB[k]? = some (by8 (pw k)) := fun k hk => by rw [hPB, arB_get (k := k) (by omega) rfl, if_pos hk]
 rw [← hPB]
 have e2 : arB 512 (fun _ => 0) = arB 512 (tT 0) := arB_congr fun q _ => by unfold tT; simp
 rw [e2]
 refine zg [(0, _), (1, _), (4, _)] (fun nn E H => ∃ (i : Nat), (i ≤ 256) ∧ nn = 256 - i ∧ E = [(21, .val (.int .i64 (i : Int)))] ∧ H = [.blk B3 183 512 (arB 512 (tT i)), .blk B2 181 256 PB, .blk B1 183 512 (arB 512 (tT 0))]) _ (⟨0, by omega, rfl, rfl, rfl⟩) ?_
 rintro nn E H ⟨i, hi2, rfl, rfl, rfl⟩
 dsimp only [List.cons_append, List.nil_append]
 refine zx (zm ?_)
 refine zH (zD (zl (zx ?_)))
 refine yn (fun h2 => ?_) (fun h2 => ?_) <;> (try simp only [wN] at h2)
 ·skip
  have hAl := (tA i).toNat_lt
  have hCl := (tC i 4).toNat_lt
  refine yN (zl (zx (yS (zx (zm ?_)))))
  refine za ?_
  refine zc (zD (zl (zx (zm ?_))))
  refine zc ?_
  refine zc (zD (zl (zx (zx (zm ?_)))))
  refine za ?_
  refine zH (zD (zl ?_))
  refine xv True [(0, _), (1, _), (4, _), (21, _)] [(6, by8 (tA i)), (7, by8 (tB i))] [.blk B3 183 512 (arB 512 (tT i)), .blk B2 181 256 PB, .blk B1 183 512 (arB 512 (tT 0))] (fun h24 => ?_) (fun h24 => ?_) (fun hj => ?_) <;> try (try simp only [wN] at h24)
  ·skip
   have hg1 : PB[0 + (i : Int).toNat * 1]? = some (by8 (tA i)) := by
    rw [show 0 + (i : Int).toNat * 1 = i by omega, hpg i (by omega), tA, if_pos (by omega)]
   have hg2 : PB[0 + ((255 - (i : Int)) % 255).toNat * 1]? = some (by8 (tB i)) := by
    rw [show 0 + ((255 - (i : Int)) % 255).toNat * 1 = (255 - i) % 255 by omega, hpg _ (by omega), tB, if_pos (by omega)]
   refine yj 10 ?_
   simp only [List.take_succ_cons, List.take_zero, List.drop_succ_cons, List.drop_zero]
   refine zv ?_
   refine yC ?_
   refine wJ (O.load rfl rfl (by repeat (first | exact List.Mem.head _ | refine List.Mem.tail _ ?_)) (by assumption)) ?_
   refine zv ?_
   refine xc ?_
   refine wJ xk ?_
   refine yC ?_
   refine wJ (O.load rfl rfl (by repeat (first | exact List.Mem.head _ | refine List.Mem.tail _ ?_)) (by assumption)) ?_
   refine wJ zh ?_
   refine wJ zh ?_
   refine wg ?_
   simp only [chosen, List.nil_append, List.cons_append, List.append_nil]
   refine zD ?_
   refine wC
  ·skip
   have hA : ofConst (.int .u8 0) = by8 (tA i) := by rw [tA, if_neg (by omega)]; rfl
   have hB : ofConst (.int .u8 0) = by8 (tB i) := by rw [tB, if_neg (by omega)]; rfl
   refine yN ?_
   refine AQ.g ?_
   refine G.re 6 (by8 (tA i)) (congrArg some hA) ?_
   refine AQ.u ?_
   refine AQ.g ?_
   refine G.re 7 (by8 (tB i)) (congrArg some hB) ?_
   refine AQ.u ?_
   refine zR
  dsimp only [List.cons_append, List.nil_append]
  refine zl (zx (zm ?_))
  refine za ?_
  refine wI (O.xor_ rfl rfl rfl (xor99 _)) ?_
  refine zc (zD (zl (zx (zx (zm ?_)))))
  refine zc (zD (zl (yS ?_)))
  refine zg [(0, _), (1, _), (4, _), (6, _), (7, _), (21, _)] (fun nn E H => ∃ (k : Nat), (k ≤ 4) ∧ nn = 4 - k ∧ E = [(8, by8 (tC i k)), (9, .val (.int .i64 ((k + 1 : Nat) : Int)))] ∧ H = [.blk B3 183 512 (arB 512 (tT i)), .blk B2 181 256 PB, .blk B1 183 512 (arB 512 (tT 0))]) _ (⟨0, by omega, rfl, rfl, rfl⟩) ?_
  rintro nn E H ⟨k, hk, rfl, rfl, rfl⟩
  dsimp only [List.cons_append, List.nil_append]
  refine zx (zx (zm ?_))
  refine za ?_
  refine wG (zD (zl ?_))
  refine yn (fun h4 => ?_) (fun h4 => ?_) <;> (try simp only [wN] at h4)
  ·skip
   refine yN (zl (zx (yS (zm ?_))))
   refine za ?_
   refine za ?_
   refine za ?_
   refine wI (xl rfl Tryz.func196 rfl rfl rfl (rot8_fn _ (k + 1) (by omega))) ?_
   refine wv ?_
   refine zc (zD (y5 (zl (zm ?_))))
   refine za ?_
   refine zr ?_
   refine zc (zD ?_)
   refine zj _ _ _ (by omega) (⟨k + 1, by omega, rfl, rfl, rfl⟩)
  obtain rfl : k = 4 := by omega
  refine xD ?_
  refine xr ?_
  refine xA ?_
  refine yZ (zl (zm ?_))
  refine za ?_
  refine za ?_
  refine za ?_
  refine za ?_
  refine zn ?_
  refine xb ?_
  refine yf 0 rfl rfl rfl rfl rfl rfl (by rfl) (by rfl) (by exact Nat.ble_eq_true_of_le (by rw [arB_len]; omega)) (by exact arB_set (k := (tA i).toNat) (by omega) _ (by omega)) ?_
  refine zn ?_
  refine xb ?_
  refine yf 0 rfl rfl rfl rfl rfl rfl (by rfl) (by rfl) (by exact Nat.ble_eq_true_of_le (by rw [arB_len]; omega)) (by exact arB_set (k := 256 + (tC i 4).toNat) (by omega) _ (by omega)) (zD (y5 (zl (zm ?_))))
  refine zr ?_
  refine za (zD ?_)
  have e4 : arB 512 (fun q => if q = 256 + (tC i 4).toNat then tA i else if q = (tA i).toNat then tC i 4 else tT i q) = arB 512 (tT (i + 1)) := arB_congr fun q hq => tT_step (by omega) q hq
  rw [e4]
  refine zj _ _ _ (by omega) (⟨i + 1, by omega, rfl, rfl, rfl⟩)
 obtain rfl : i = 256 := by omega
 have e5 : arB 512 (tT 256) = arB 512 TB := arB_congr fun q _ => tT_all q
 rw [e5]
 refine xD ?_
 refine xr ?_
 refine xA ?_
 refine yZ (zl (zx (zm ?_)))
 refine yR ?_
 refine zV 2 rfl rfl rfl rfl rfl rfl (zD (zl (y1 ?_)))
 refine AQ.retCell (ys := arB 512 TB) rfl rfl (by repeat (first | exact List.Mem.head _ | refine List.Mem.tail _ ?_)) (List.take_of_length_le (Nat.le_of_eq (arB_len _ _))) (arB_len _ _) ⟨_, List.nil_sublist _, .nil⟩ ⟨rfl, rfl⟩
/-! the reference's -/
theorem pw_mul : ∀ i, i < 255 → prod (pw i) 3 = pw (i + 1) := by decide +kernel
theorem rtab : ∀ i, i < 255 → ((((tB i ^^^ rotR (tB i) 1) ^^^ rotR (tB i) 2) ^^^ rotR (tB i) 3) ^^^ rotR (tB i) 4) ^^^ 99 = sb (tA i) := by decide +kernel
def rT (i q : Nat) : UInt8 := if q = 0 then 99 else if lg (UInt8.ofNat q) < i then sb (UInt8.ofNat q) else 0
def RB (q : Nat) : UInt8 := sb (UInt8.ofNat q)
theorem tA_ne {i : Nat} (hi : i < 255) : (tA i).toNat ≠ 0 := fun h => by
 have h1 : tA i = tA 255 := by rw [show tA 255 = 0 from rfl]; exact UInt8.toNat_inj.1 h
 have h2 := (tab_a i (by omega)).1
 rw [h1, (tab_a 255 (by omega)).1] at h2
 omega
theorem rT_step {i : Nat} (hi : i < 255) (q : Nat) (hq : q < 256) : (if q = (tA i).toNat then sb (tA i) else rT i q) = rT (i + 1) q := by
 have hne := tA_ne hi
 have h1 := (tab_a i (by omega)).1
 unfold rT
 by_cases e : q = (tA i).toNat
 ·have : UInt8.ofNat q = tA i := (ofNat_eq hq).2 e
  rw [if_pos e, if_neg (by omega), this, h1, if_pos (by omega)]
 rw [if_neg e]
 by_cases h0 : q = 0
 ·rw [if_pos h0, if_pos h0]
 have : lg (UInt8.ofNat q) ≠ i := fun hh => e ((ofNat_eq hq).1 ((lg_iff (by omega)).1 hh))
 rw [if_neg h0, if_neg h0]
 by_cases hl : lg (UInt8.ofNat q) < i
 ·rw [if_pos hl, if_pos (by omega)]
 rw [if_neg hl, if_neg (by omega)]
theorem rT_all (q : Nat) (hq : q < 256) : rT 255 q = RB q := by
 unfold rT RB
 by_cases h0 : q = 0
 ·rw [if_pos h0, h0]; rfl
 rw [if_neg h0, if_pos]
 have h1 := lg_lt (UInt8.ofNat q)
 have h2 : lg (UInt8.ofNat q) ≠ 255 := fun hh => by
  have := (ofNat_eq hq).1 ((lg_iff (by omega)).1 hh)
  exact h0 (this.trans rfl)
 omega
theorem rT_zero (q : Nat) : (if q = 0 then 99 else 0) = rT 0 q := by unfold rT; simp
set_option maxRecDepth 20000 in
set_option maxHeartbeats 4000000 in
theorem rsubs_fn : Sp Tryz.prog 199 [] [] (Is (.agg (arB 256 RB))) := by
 refine yv Tryz.func199 _ Tryz.ntmps199 (fun w0 R0 => ?_)
 refine zx (zm ?_)
 refine xy ?_
 intro B1
 refine zD (zl (zx (zm ?_)))
 refine xy ?_
 intro B2
 refine zD (zl (zx (zm ?_)))
 refine zc (zD (zl (zx (zx (zm ?_)))))
 refine za (zD (zl (yS ?_)))
 have e0 : arB 255 (fun _ => 0) = arB 255 (fun q => if q < 0 then pw q else 0) := arB_congr fun q _ => (if_neg (by omega)).symm
 rw [e0]
 refine zg [(0, _), (1, _)] (fun nn E H => ∃ (i : Nat), (i ≤ 255) ∧ nn = 255 - i ∧ E = [(2, by8 (pw i)), (7, .val (.int .i64 (i : Int)))] ∧ H = [.blk B2 234 255 (arB 255 (fun q => if q < i then pw q else 0)), .blk B1 181 256 (arB 256 fun _ => 0)]) _ (⟨0, by omega, rfl, rfl, rfl⟩) ?_
 rintro nn E H ⟨i, hi, rfl, rfl, rfl⟩
 dsimp only [List.cons_append, List.nil_append]
 refine zx (zm ?_)
 refine zH (zD (zl (zx ?_)))
 refine yn (fun h => ?_) (fun h => ?_) <;> (try simp only [wN] at h)
 ·skip
  refine yN (zl (zx (yS (zx (zm ?_)))))
  refine za ?_
  refine zc (zD (zl (zx (zm ?_))))
  refine za ?_
  refine za ?_
  refine xb ?_
  refine yf 0 rfl rfl rfl rfl rfl rfl (by rfl) (by rfl) (by exact Nat.ble_eq_true_of_le (by rw [arB_len]; omega)) (by exact arB_set (k := i) (by omega) _ (by omega)) (zD (zl (zm ?_)))
  refine za ?_
  refine wI (xl rfl Tryz.func209 rfl rfl rfl (mul_fn _ 3)) ?_
  refine zc (zD (y5 (zl (zm ?_))))
  refine zr ?_
  refine za (zD ?_)
  have e1 : arB 255 (fun q => if q = i then pw i else if q < i then pw q else 0) = arB 255 (fun q => if q < i + 1 then pw q else 0) := arB_congr fun q _ => by
   rcases Nat.lt_trichotomy q i with h1 | rfl | h1
   ·rw [if_neg (by omega), if_pos h1, if_pos (by omega)]
   ·rw [if_pos rfl, if_pos (by omega)]
   rw [if_neg (by omega), if_neg (by omega), if_neg (by omega)]
  rw [pw_mul i (by omega), e1]
  refine zj _ _ _ (by omega) (⟨i + 1, by omega, rfl, rfl, rfl⟩)
 obtain rfl : i = 255 := by omega
 obtain ⟨PB, hPB⟩ : ∃ PB, PB = arB 255 (fun q => if q < 255 then pw q else 0) := ⟨_, rfl⟩
 have hpg : ∀ k, k < 255 → PB[k]? = some (by8 (pw k)) := fun k hk => by rw [hPB, arB_get (k := k) (by omega) rfl, if_pos hk]
 rw [← hPB]
 refine xD ?_
 refine xr ?_
 refine xA ?_
 refine yZ (zl (zx (zm ?_)))
 refine xy ?_
 intro B3
 refine zD (zl (zx (zm ?_)))
 refine xb ?_
 refine yf 0 rfl rfl rfl rfl rfl rfl (by rfl) (by rfl) (by exact Nat.ble_eq_true_of_le (by rw [arB_len]; omega)) (by exact arB_set (k := 0) (by omega) 99 (by omega)) (zD (zl (zx (zx (zm ?_)))))
 refine za (zD (zl (yS ?_)))
 have e2 : arB 256 (fun q => if q = 0 then 99 else 0) = arB 256 (rT 0) := arB_congr fun q _ => rT_zero q
 rw [e2]
 refine zg [(0, _), (1, _), (4, _)] (fun nn E H => ∃ (i : Nat), (i ≤ 255) ∧ nn = 255 - i ∧ E = [(17, .val (.int .i64 (i : Int)))] ∧ H = [.blk B3 181 256 (arB 256 (rT i)), .blk B2 234 255 PB, .blk B1 181 256 (arB 256 fun _ => 0)]) _ (⟨0, by omega, rfl, rfl, rfl⟩) ?_
 rintro nn E H ⟨i, hi2, rfl, rfl, rfl⟩
 dsimp only [List.cons_append, List.nil_append]
 refine zx (zm ?_)
 refine zH (zD (zl (zx ?_)))
 refine yn (fun h2 => ?_) (fun h2 => ?_) <;> (try simp only [wN] at h2)
 ·skip
  have hAl := (tA i).toNat_lt
  have hg1 : PB[0 + (i : Int).toNat * 1]? = some (by8 (tA i)) := by
   rw [show 0 + (i : Int).toNat * 1 = i by omega, hpg i (by omega), tA, if_pos (by omega)]
  have hg2 : PB[0 + ((255 - (i : Int)) % 255).toNat * 1]? = some (by8 (tB i)) := by
   rw [show 0 + ((255 - (i : Int)) % 255).toNat * 1 = (255 - i) % 255 by omega, hpg _ (by omega), tB, if_pos (by omega)]
  refine yN (zl (zx (yS (zx (zm ?_)))))
  refine za ?_
  refine zc (zD (zl (zx (zm ?_))))
  refine za ?_
  refine yl ?_
  refine xq ?_
  refine xb ?_
  refine wI (O.load rfl rfl (by repeat (first | exact List.Mem.head _ | refine List.Mem.tail _ ?_)) (by assumption)) ?_
  refine zc (zD (zl ?_))
  refine yj 18 ?_
  simp only [List.take_succ_cons, List.take_zero, List.drop_succ_cons, List.drop_zero]
  refine zv ?_
  refine yC ?_
  refine wJ (O.load rfl rfl (by repeat (first | exact List.Mem.head _ | refine List.Mem.tail _ ?_)) (by assumption)) ?_
  refine zv ?_
  refine zv ?_
  refine wJ (xl rfl Tryz.func210 rfl rfl rfl (rot_fn _ 1 (by omega))) ?_
  refine xt ?_
  refine zv ?_
  refine wJ (xl rfl Tryz.func210 rfl rfl rfl (rot_fn _ 2 (by omega))) ?_
  refine xt ?_
  refine zv ?_
  refine wJ (xl rfl Tryz.func210 rfl rfl rfl (rot_fn _ 3 (by omega))) ?_
  refine xt ?_
  refine zv ?_
  refine wJ (xl rfl Tryz.func210 rfl rfl rfl (rot_fn _ 4 (by omega))) ?_
  refine xt ?_
  refine wJ (O.xor_ rfl rfl rfl (xor99 _)) ?_
  refine yC ?_
  refine wg ?_
  simp only [chosen, List.nil_append, List.cons_append, List.append_nil]
  refine yf 0 rfl rfl rfl rfl rfl rfl (by rfl) (by rfl) (by exact Nat.ble_eq_true_of_le (by rw [arB_len]; omega)) (by exact arB_set (k := (tA i).toNat) (by omega) _ (by omega)) (zD (y5 (zl (zm ?_))))
  refine zr ?_
  refine za (zD ?_)
  rw [rtab i (by omega)]
  have e4 : arB 256 (fun q => if q = (tA i).toNat then sb (tA i) else rT i q) = arB 256 (rT (i + 1)) := arB_congr fun q hq => rT_step (by omega) q hq
  rw [e4]
  refine zj _ _ _ (by omega) (⟨i + 1, by omega, rfl, rfl, rfl⟩)
 obtain rfl : i = 255 := by omega
 have e5 : arB 256 (rT 255) = arB 256 RB := arB_congr fun q hq => rT_all q hq
 rw [e5]
 refine xD ?_
 refine xr ?_
 refine xA ?_
 refine yZ (zl (zx (zm ?_)))
 refine yR ?_
 refine zV 2 rfl rfl rfl rfl rfl rfl (zD (zl (y1 ?_)))
 refine AQ.retCell (ys := arB 256 RB) rfl rfl (by repeat (first | exact List.Mem.head _ | refine List.Mem.tail _ ?_)) (List.take_of_length_le (Nat.le_of_eq (arB_len _ _))) (arB_len _ _) ⟨_, List.nil_sublist _, .nil⟩ ⟨rfl, rfl⟩
end Go.Proofs.YtojomcdjcpmnkaaGreat.By

namespace Go.Proofs.YtojomcdjcpmnkaaGreat.By
open Go.RowKit L A
set_option linter.unusedVariables false
set_option maxRecDepth 20000
set_option linter.unusedSimpArgs false
attribute [local irreducible] AW AQ AO
def rcF : Nat → UInt8
 | 0 => 1
 | k + 1 => dbl (rcF k)
def wS (key : Nat → UInt8) (q : Nat) : UInt8 :=
 if h : q < 16 then key q else
  (if q % 16 < 4 then sb (wS key (q - q % 16 - 4 + (q % 16 + 1) % 4)) ^^^ (if q % 16 = 0 then rcF (q / 16 - 1) else 0) else wS key (q - 4)) ^^^ wS key (q - 16)
termination_by q
decreasing_by all_goals omega
theorem wS_key {key : Nat → UInt8} {q : Nat} (h : q < 16) : wS key q = key q := by rw [wS, dif_pos h]
theorem wS_ge {key : Nat → UInt8} {q : Nat} (h : ¬ q < 16) : wS key q = (if q % 16 < 4 then sb (wS key (q - q % 16 - 4 + (q % 16 + 1) % 4)) ^^^ (if q % 16 = 0 then rcF (q / 16 - 1) else 0) else wS key (q - 4)) ^^^ wS key (q - 16) := by
 rw [wS, dif_neg h]
/-- What is xored to the byte m of a round's key. -/
def zS (key : Nat → UInt8) (i m : Nat) : UInt8 := if m < 4 then sb (wS key (16 * i - 4 + (m + 1) % 4)) ^^^ (if m = 0 then rcF (i - 1) else 0) else wS key (16 * i + m - 4)
theorem wS_eq (key : Nat → UInt8) {i m : Nat} (hi : 1 ≤ i) (hm : m < 16) : wS key (16 * i + m) = zS key i m ^^^ wS key (16 * (i - 1) + m) := by
 rw [wS, dif_neg (by omega)]
 have h1 : (16 * i + m) % 16 = m := by omega
 have h2 : (16 * i + m) / 16 = i := by omega
 rw [h1, h2, show 16 * i + m - 16 = 16 * (i - 1) + m by omega, show 16 * i + m - m - 4 = 16 * i - 4 by omega, zS]
def cut (key : Nat → UInt8) (n q : Nat) : UInt8 := if q < n then wS key q else 0
theorem cut_get {key : Nat → UInt8} {n k j : Nat} (h : k < n) (h2 : n ≤ 176) (hj : j = k) : (arB 176 (cut key n))[j]? = some (by8 (wS key k)) := by
 rw [arB_get (k := k) (by omega) hj, cut, if_pos h]
def tz (key : Nat → UInt8) (i k j : Nat) : UInt8 := zS key i (k + (j + 4 - k % 4) % 4)
theorem tz_at (key : Nat → UInt8) (i k : Nat) : tz key i k (k % 4) = zS key i k := by
 unfold tz; congr 1; omega
theorem tz_get {key : Nat → UInt8} {i k j : Nat} (hj : j = k % 4) : (arB 4 (tz key i k))[j]? = some (by8 (zS key i k)) := by
 rw [arB_get (k := k % 4) (by omega) hj, tz_at]
theorem tz_step {key : Nat → UInt8} {i k : Nat} (q : Nat) (hq : q < 4) : (if q = k % 4 then wS key (16 * i + k) else tz key i k q) = tz key i (k + 1) q := by
 unfold tz
 by_cases h : q = k % 4
 ·rw [if_pos h, zS, if_neg (by omega)]
  congr 1; omega
 rw [if_neg h]; congr 1; omega
theorem xor0 (a : UInt8) : a ^^^ 0 = a := UInt8.xor_zero
theorem copyKey (key : Nat → UInt8) : splice (arB 176 fun _ => 0) 0 ((arB 16 key).take 16) = arB 176 (cut key 16) := by
 rw [List.take_of_length_le (Nat.le_of_eq (arB_len _ _)), arB_splice (by omega)]
 refine arB_congr fun q hq => ?_
 unfold cut
 by_cases h : q < 16
 ·rw [if_pos (by omega), if_pos h, wS_key h]; rfl
 rw [if_neg (by omega), if_neg h]
set_option maxRecDepth 20000 in
set_option maxHeartbeats 4000000 in
theorem sched_fn (key : Nat → UInt8) (xs : List AV) (hx : BoxOf xs 0 sb) : Sp Tryz.prog 178 [.rp xs 0, .ro false 16 (arB 16 key)] [] (Is (.agg (arB 176 (wS key)))) := by
 refine yv Tryz.func178 _ Tryz.ntmps178 (fun w0 R0 => ?_)
 refine zx (zm ?_)
 refine xy ?_
 intro B1
 refine zD (zl (zx (zm ?_)))
 refine xb ?_
 refine wI (O.sliceArrK (p := 0) rfl rfl rfl rfl (by rfl) (by rfl) ⟨by omega, by omega⟩ (by omega)) ?_
 refine za ?_
 refine AO.copyIn (i := 0) rfl rfl rfl rfl (by exact arB_len _ _) (by exact arB_one _ _) rfl (by rw [arB_len]; omega) (by exact copyKey key) rfl rfl (fun q h => by cases h; exact Nat.le_of_ble_eq_true rfl) ?_
 rintro _ rfl
 dsimp only [List.set]
 refine zD (zl (zx (zm ?_)))
 refine zc (zD (zl (zx (zx (zm ?_)))))
 refine zc (zD (zl (yS ?_)))
 refine zg [(0, _), (4, _)] (fun nn E H => ∃ (i : Nat), (1 ≤ i ∧ i ≤ 11) ∧ nn = 11 - i ∧ E = [(5, by8 (rcF (i - 1))), (6, .val (.int .i64 (i : Int)))] ∧ H = [.blk B1 186 176 (arB 176 (cut key (16 * i)))]) _ (⟨1, by omega, rfl, rfl, rfl⟩) ?_
 rintro nn E H ⟨i, hi, rfl, rfl, rfl⟩
 dsimp only [List.cons_append, List.nil_append]
 refine zx (zx (zm ?_))
 refine za ?_
 refine zH (zD (zl ?_))
 refine yn (fun h => ?_) (fun h => ?_) <;> (try simp only [wN] at h)
 ·skip
  have hi' : i < 11 := by omega
  have hlast : ∀ j : Nat, j < 4 → (arB 176 (cut key (16 * i)))[0 + ((i : Int) - 1).toNat * 16 + 12 * 1 + j * 1]? = some (by8 (wS key (16 * i - 4 + j))) := fun j hj => cut_get (by omega) (by omega) (by omega)
  have hl0 := hlast 0 (by omega)
  have hl1 := hlast 1 (by omega)
  have hl2 := hlast 2 (by omega)
  have hl3 := hlast 3 (by omega)
  refine yN (zl (zx (yS (zx (zm ?_)))))
  refine za ?_
  refine yl ?_
  refine xb ?_
  refine wI (O.sliceArrK (p := 12) rfl rfl rfl rfl (by rfl) (by rfl) ⟨by omega, by omega⟩ (by omega)) ?_
  refine zc (zD (zl (zx ?_)))
  refine yj 36 ?_
  simp only [List.take_succ_cons, List.take_zero, List.drop_succ_cons, List.drop_zero]
  refine zv ?_
  refine zv ?_
  refine xV ?_
  refine wJ (O.load rfl rfl (by repeat (exact List.Mem.head _)) (by exact hl1)) ?_
  refine wJ (O.nilCheckR rfl rfl) ?_
  refine wJ (O.fieldAddrR rfl rfl) ?_
  refine wJ (O.idxLR rfl rfl rfl (by exact u8ix _)) ?_
  refine wJ (O.loadR rfl rfl (by exact box_at1 hx _)) ?_
  refine zv ?_
  refine xt ?_
  refine zv ?_
  refine zv ?_
  refine xV ?_
  refine wJ (O.load rfl rfl (by repeat (exact List.Mem.head _)) (by exact hl2)) ?_
  refine wJ (O.nilCheckR rfl rfl) ?_
  refine wJ (O.fieldAddrR rfl rfl) ?_
  refine wJ (O.idxLR rfl rfl rfl (by exact u8ix _)) ?_
  refine wJ (O.loadR rfl rfl (by exact box_at1 hx _)) ?_
  refine zv ?_
  refine zv ?_
  refine xV ?_
  refine wJ (O.load rfl rfl (by repeat (exact List.Mem.head _)) (by exact hl3)) ?_
  refine wJ (O.nilCheckR rfl rfl) ?_
  refine wJ (O.fieldAddrR rfl rfl) ?_
  refine wJ (O.idxLR rfl rfl rfl (by exact u8ix _)) ?_
  refine wJ (O.loadR rfl rfl (by exact box_at1 hx _)) ?_
  refine zv ?_
  refine zv ?_
  refine xV ?_
  refine wJ (O.load rfl rfl (by repeat (exact List.Mem.head _)) (by exact hl0)) ?_
  refine wJ (O.nilCheckR rfl rfl) ?_
  refine wJ (O.fieldAddrR rfl rfl) ?_
  refine wJ (O.idxLR rfl rfl rfl (by exact u8ix _)) ?_
  refine wJ (O.loadR rfl rfl (by exact box_at1 hx _)) ?_
  refine x8 ?_
  refine FA.opN (wA rfl) rfl rfl rfl rfl ?_
  refine wg ?_
  simp only [chosen, List.nil_append, List.cons_append, List.append_nil]
  rintro _ _ ⟨B2, rfl, rfl⟩
  simp only [List.cons_append, List.nil_append]
  refine yY 0 rfl rfl rfl rfl rfl rfl (zD (zl (zx (zm ?_))))
  refine za ?_
  refine wI (xl rfl Tryz.func195 rfl rfl rfl (dbl_fn _)) ?_
  refine zc (zD (zl (zx (zm ?_))))
  refine za (zD (zl (yS ?_)))
  have hz : [AV.val (.int .u8 ((sb (wS key (16 * i - 4 + 1)) ^^^ rcF (i - 1)).toNat : Int)), by8 (sb (wS key (16 * i - 4 + 2))), by8 (sb (wS key (16 * i - 4 + 3))), by8 (sb (wS key (16 * i - 4)))] = arB 4 (tz key i 0) := by
   show _ = [by8 (zS key i 0), by8 (zS key i 1), by8 (zS key i 2), by8 (zS key i 3)]
   have z0 : zS key i 0 = sb (wS key (16 * i - 4 + 1)) ^^^ rcF (i - 1) := rfl
   have z1 : zS key i 1 = sb (wS key (16 * i - 4 + 2)) := xor0 _
   have z2 : zS key i 2 = sb (wS key (16 * i - 4 + 3)) := xor0 _
   have z3 : zS key i 3 = sb (wS key (16 * i - 4)) := xor0 _
   rw [z0, z1, z2, z3]
  rw [hz]
  have hrc : dbl (rcF (i - 1)) = rcF (i + 1 - 1) := by
   rw [show i + 1 - 1 = (i - 1) + 1 by omega, rcF]
  rw [hrc]
  refine zg [(0, _), (4, _), (5, _), (6, _), (8, _)] (fun nn E H => ∃ (k : Nat), (k ≤ 16) ∧ nn = 16 - k ∧ E = [(59, .val (.int .i64 (k : Int)))] ∧ H = [.blk B2 215 4 (arB 4 (tz key i k)), .blk B1 186 176 (arB 176 (cut key (16 * i + k)))]) _ (⟨0, by omega, rfl, rfl, rfl⟩) ?_
  rintro nn E H ⟨k, hk, rfl, rfl, rfl⟩
  dsimp only [List.cons_append, List.nil_append]
  refine zx (zm ?_)
  refine zH (zD (zl (zx ?_)))
  refine yn (fun h2 => ?_) (fun h2 => ?_) <;> (try simp only [wN] at h2)
  ·skip
   have hk' : k < 16 := by omega
   refine yN (zl (zx (yS (zx (zm ?_)))))
   refine za ?_
   refine zc (zD (zl (zx ?_)))
   refine yj 12 ?_
   simp only [List.take_succ_cons, List.take_zero, List.drop_succ_cons, List.drop_zero]
   refine zv ?_
   refine wJ xk ?_
   refine yC ?_
   refine wJ (O.load rfl rfl (by repeat (exact List.Mem.head _)) (by exact tz_get (k := k) (by omega))) ?_
   refine zv ?_
   refine xc ?_
   refine zv ?_
   refine yC ?_
   refine yC ?_
   refine wJ (O.load rfl rfl (by repeat (first | exact List.Mem.head _ | refine List.Mem.tail _ ?_)) (by exact cut_get (k := 16 * (i - 1) + k) (by omega) (by omega) (by omega))) ?_
   refine xt ?_
   refine yC ?_
   refine wg ?_
   simp only [chosen, List.nil_append, List.cons_append, List.append_nil]
   refine AO.store (i := 0) rfl rfl rfl rfl rfl rfl (by rfl) (by rfl) (by exact Nat.ble_eq_true_of_le (by rw [arB_len]; omega)) (by exact arB_set (k := k % 4) (by omega) _ (by omega)) (by (dsimp only [List.set, List.append, List.cons_append, List.nil_append, splice, ofConst, AV.cells, List.map, List.map_cons, List.map_nil, List.take, List.drop, Nat.zero_add, Nat.add_zero, Nat.reduceAdd, Nat.reduceMul, Nat.zero_mul, Value.cells, List.toList_toArray, zerosA, List.replicate, List.flatten, List.append_nil]; done)) (zD (zl ?_))
   refine yj 8 ?_
   simp only [List.take_succ_cons, List.take_zero, List.drop_succ_cons, List.drop_zero]
   refine zv ?_
   refine zv ?_
   refine zv ?_
   refine wJ xk ?_
   refine yC ?_
   refine wJ (O.load rfl rfl (by repeat (exact List.Mem.head _)) (by exact arB_get (k := k % 4) (by omega) (by omega))) ?_
   refine yC ?_
   refine yC ?_
   refine wg ?_
   simp only [chosen, List.nil_append, List.cons_append, List.append_nil]
   refine AO.store (i := 1) rfl rfl rfl rfl rfl rfl (by rfl) (by rfl) (by exact Nat.ble_eq_true_of_le (by rw [arB_len]; omega)) (by exact arB_set (k := 16 * i + k) (by omega) _ (by omega)) (by (dsimp only [List.set, List.append, List.cons_append, List.nil_append, splice, ofConst, AV.cells, List.map, List.map_cons, List.map_nil, List.take, List.drop, Nat.zero_add, Nat.add_zero, Nat.reduceAdd, Nat.reduceMul, Nat.zero_mul, Value.cells, List.toList_toArray, zerosA, List.replicate, List.flatten, List.append_nil]; done)) (zD (y5 (zl (zm ?_))))
   refine zr ?_
   refine za (zD ?_)
   have hw := wS_eq key hi.1 hk'
   have e1 : arB 4 (fun q => if q = k % 4 then zS key i k ^^^ wS key (16 * (i - 1) + k) else tz key i k q) = arB 4 (tz key i (k + 1)) := arB_congr fun q hq => by
    rw [← hw]; exact tz_step q hq
   have e2 : arB 176 (fun q => if q = 16 * i + k then (if True then zS key i k ^^^ wS key (16 * (i - 1) + k) else tz key i k (k % 4)) else cut key (16 * i + k) q) = arB 176 (cut key (16 * i + (k + 1))) := arB_congr fun q hq => by
    rw [if_pos trivial, ← hw]
    unfold cut
    rcases Nat.lt_trichotomy q (16 * i + k) with h1 | h1 | h1
    ·rw [if_neg (by omega), if_pos h1, if_pos (by omega)]
    ·rw [if_pos h1, if_pos (by omega), h1]
    rw [if_neg (by omega), if_neg (by omega), if_neg (by omega)]
   rw [e1, e2]
   refine zj _ _ _ (by omega) (⟨k + 1, by omega, rfl, rfl, rfl⟩)
  obtain rfl : k = 16 := by omega
  refine xD ?_
  refine xr ?_
  refine xA ?_
  refine yZ (y5 (zl (zm ?_)))
  refine za ?_
  refine zr ?_
  refine zc (zD ?_)
  refine zF _ _ _ (by omega) (⟨i + 1, by omega, rfl, rfl, rfl⟩)
 obtain rfl : i = 11 := by omega
 have e : arB 176 (cut key (16 * 11)) = arB 176 (wS key) := arB_congr fun q hq => if_pos hq
 rw [e]
 refine xD ?_
 refine xr ?_
 refine xA ?_
 refine yZ (zl (zx (zm ?_)))
 refine yR ?_
 refine AO.store (i := 0) rfl rfl rfl rfl rfl rfl (by exact arB_one _ _) (by exact arB_len _ _) (by exact Nat.ble_eq_true_of_le (Nat.le_of_eq (arB_len _ _).symm)) (by exact splice_arB (arB_len _ _)) (by (dsimp only [List.set, List.append, List.cons_append, List.nil_append, splice, ofConst, AV.cells, List.map, List.map_cons, List.map_nil, List.take, List.drop, Nat.zero_add, Nat.add_zero, Nat.reduceAdd, Nat.reduceMul, Nat.zero_mul, Value.cells, List.toList_toArray, zerosA, List.replicate, List.flatten, List.append_nil]; done)) (zD (zl (y1 ?_)))
 refine AQ.retCell (ys := arB 176 (wS key)) rfl rfl (by repeat (exact List.Mem.head _)) (List.take_of_length_le (Nat.le_of_eq (arB_len _ _))) (arB_len _ _) ⟨_, List.nil_sublist _, .nil⟩ ⟨rfl, rfl⟩
end Go.Proofs.YtojomcdjcpmnkaaGreat.By

namespace Go.Proofs.YtojomcdjcpmnkaaGreat.By
open Go.RowKit L A
set_option linter.unusedVariables false
set_option maxRecDepth 20000
set_option linter.unusedSimpArgs false
attribute [local irreducible] AW AQ AO
def tq (key : Nat → UInt8) (i j : Nat) : UInt8 := if i % 4 = 0 then sb (wS key (4 * i - 4 + (j + 1) % 4)) ^^^ (if j = 0 then rcF (i / 4 - 1) else 0) else wS key (4 * i - 4 + j)
theorem wS_ref (key : Nat → UInt8) {i j : Nat} (hi : 4 ≤ i) (hj : j < 4) : wS key (4 * i - 16 + j) ^^^ tq key i j = wS key (4 * i + j) := by
 rw [UInt8.xor_comm, wS_ge (q := 4 * i + j) (by omega), tq]
 by_cases h : i % 4 = 0
 ·have h1 : (4 * i + j) % 16 = j := by omega
  rw [if_pos h, h1, if_pos hj, show 4 * i + j - j - 4 = 4 * i - 4 by omega, show (4 * i + j) / 16 = i / 4 by omega, show 4 * i + j - 16 = 4 * i - 16 + j by omega]
 rw [if_neg h, if_neg (by omega), show 4 * i + j - 4 = 4 * i - 4 + j by omega, show 4 * i + j - 16 = 4 * i - 16 + j by omega]
theorem box_ref : BoxOf (arB 256 RB) 0 sb := fun v => by
 have := v.toNat_lt
 rw [arB_get (k := v.toNat) (by omega) (by omega), RB, UInt8.ofNat_toNat]
theorem prod2 (a : UInt8) : prod a 2 = dbl a := all256 (p := fun a => prod a 2 = dbl a) (by decide +kernel) a
theorem arB_snoc {n : Nat} {f : Nat → UInt8} {v : UInt8} (h : v = f n) : arB n f ++ [by8 v] = arB (n + 1) f := by
 subst h; rw [arB_eq, arB_eq, List.range_succ, List.map_append]; rfl
set_option maxRecDepth 20000 in
set_option maxHeartbeats 4000000 in
theorem rsched_fn (key : Nat → UInt8) : Sp Tryz.prog 200 [.ro false 16 (arB 16 key), .agg (arB 256 RB)] [] (Is (.ro false 176 (arB 176 (wS key)))) := by
 refine yv Tryz.func200 _ Tryz.ntmps200 (fun w0 R0 => ?_)
 refine zx (zm ?_)
 refine ya ?_
 intro B1
 refine zc (zD (zl (zx (zm ?_))))
 refine za ?_
 refine ww (O.appendNil rfl (by rfl) (by rfl) rfl rfl (by exact SrcA.ro TyD.ax (by rfl) (Nat.le_of_ble_eq_true rfl)) (by rfl) (by (unfold maxLen; omega)) (by omega)) ?_
 intro V2 hV2
 refine zc (zD (zl (zx (zm ?_))))
 refine zc (zD (zl (zx (zx (zm ?_)))))
 refine zc (zD (zl (yS ?_)))
 have e0 : arB 16 key = arB (4 * 4) (wS key) := arB_congr fun q hq => (wS_key hq).symm
 rw [e0]
 refine zg [(3, _)] (fun nn E H => ∃ (i : Nat) (V : Value), (4 ≤ i ∧ i ≤ 44) ∧ (V.oneCell' = true) ∧ nn = 44 - i ∧ E = [(5, .val V), (6, by8 (rcF ((i - 1) / 4))), (7, .val (.int .i64 (i : Int)))] ∧ H = [.row V 5 1 (4 * i) (arB (4 * i) (wS key)), .blk B1 181 (arB 256 RB).length (arB 256 RB)]) _ (⟨4, V2, by omega, hV2, rfl, rfl, rfl⟩) ?_
 rintro nn E H ⟨i, V, hi, hV, rfl, rfl, rfl⟩
 dsimp only [List.cons_append, List.nil_append]
 refine zx (zx (zm ?_))
 refine za ?_
 refine zH (zD (zl ?_))
 refine yn (fun h => ?_) (fun h => ?_) <;> (try simp only [wN] at h)
 ·skip
  have hi' : i < 44 := by omega
  have hld : ∀ d : Nat, 1 ≤ d → d ≤ 4 → (arB (4 * i) (wS key))[0 + (4 * (i : Int) - (d : Int)).toNat * 1]? = some (by8 (wS key (4 * i - d))) := fun d h1 h2 => arB_get (by omega) (by omega)
  have hl4 := hld 4 (by omega) (by omega)
  have hl3 := hld 3 (by omega) (by omega)
  have hl2 := hld 2 (by omega) (by omega)
  have hl1 := hld 1 (by omega) (by omega)
  refine AW.g ?_
  refine G.openRow 0 rfl (by omega) (fun b' cap hc1 hc2 hxs hVe => ?_)
  refine AW.u ?_
  subst hVe
  dsimp only [List.set]
  refine yN (zl (zx (yS (zx ?_))))
  refine yj 26 ?_
  simp only [List.take_succ_cons, List.take_zero, List.drop_succ_cons, List.drop_zero]
  refine zv ?_
  refine zv ?_
  refine yH ?_
  refine xc ?_
  refine xV ?_
  refine wJ (O.load rfl rfl (by repeat (exact List.Mem.head _)) (by exact hl4)) ?_
  refine zv ?_
  refine zv ?_
  refine yH ?_
  refine xc ?_
  refine xV ?_
  refine wJ (O.load rfl rfl (by repeat (exact List.Mem.head _)) (by exact hl3)) ?_
  refine zv ?_
  refine zv ?_
  refine yH ?_
  refine xc ?_
  refine xV ?_
  refine wJ (O.load rfl rfl (by repeat (exact List.Mem.head _)) (by exact hl2)) ?_
  refine zv ?_
  refine zv ?_
  refine yH ?_
  refine xc ?_
  refine xV ?_
  refine wJ (O.load rfl rfl (by repeat (exact List.Mem.head _)) (by exact hl1)) ?_
  refine x8 ?_
  refine FA.opN (wA rfl) rfl rfl rfl rfl ?_
  refine wg ?_
  simp only [chosen, List.nil_append, List.cons_append, List.append_nil]
  rintro _ _ ⟨B3, rfl, rfl⟩
  simp only [List.cons_append, List.nil_append]
  refine yY 0 rfl rfl rfl rfl rfl rfl (zD (zl (zx (zx (zm ?_)))))
  refine za ?_
  refine xq ?_
  refine yd (zD (zl ?_))
  refine xv True [(3, _), (5, _), (7, _), (8, _)] [(6, by8 (rcF (i / 4)))] [.blk B3 215 4 (arB 4 (tq key i)), .blk b' 5 (cap * 1) (arB (4 * i) (wS key)), .blk B1 181 (arB 256 RB).length (arB 256 RB)] (fun h43 => ?_) (fun h43 => ?_) (fun hj => ?_) <;> try (try simp only [wN] at h43)
  ·skip
   have h4 : i % 4 = 0 := by omega
   refine zx ?_
   refine yj 19 ?_
   simp only [List.take_succ_cons, List.take_zero, List.drop_succ_cons, List.drop_zero]
   refine yC ?_
   refine yq ?_
   refine wJ (O.idxL rfl rfl rfl (by exact u8ix _)) ?_
   refine wJ (xT rfl rfl) ?_
   refine zv ?_
   refine xt ?_
   refine yC ?_
   refine yq ?_
   refine wJ (O.idxL rfl rfl rfl (by exact u8ix _)) ?_
   refine wJ (xT rfl rfl) ?_
   refine yC ?_
   refine yq ?_
   refine wJ (O.idxL rfl rfl rfl (by exact u8ix _)) ?_
   refine wJ (xT rfl rfl) ?_
   refine yC ?_
   refine yq ?_
   refine wJ (O.idxL rfl rfl rfl (by exact u8ix _)) ?_
   refine wJ (xT rfl rfl) ?_
   refine x8 ?_
   refine wg ?_
   simp only [chosen, List.nil_append, List.cons_append, List.append_nil]
   refine yY 0 rfl rfl rfl rfl rfl rfl (zD (zl (zm ?_)))
   refine za ?_
   refine wI (xl rfl Tryz.func209 rfl rfl rfl (mul_fn _ 2)) ?_
   refine zc (zD ?_)
   have ht : [AV.val (.int .u8 ((sb (wS key (4 * i - 3)) ^^^ rcF ((i - 1) / 4)).toNat : Int)), by8 (sb (wS key (4 * i - 2))), by8 (sb (wS key (4 * i - 1))), by8 (sb (wS key (4 * i - 4)))] = arB 4 (tq key i) := by
    show _ = [by8 (tq key i 0), by8 (tq key i 1), by8 (tq key i 2), by8 (tq key i 3)]
    have t0 : tq key i 0 = sb (wS key (4 * i - 3)) ^^^ rcF ((i - 1) / 4) := by
     rw [tq, if_pos h4, if_pos rfl, show 4 * i - 4 + (0 + 1) % 4 = 4 * i - 3 by omega, show i / 4 - 1 = (i - 1) / 4 by omega]
    have t1 : tq key i 1 = sb (wS key (4 * i - 2)) := by
     rw [tq, if_pos h4, if_neg (by omega), xor0, show 4 * i - 4 + (1 + 1) % 4 = 4 * i - 2 by omega]
    have t2 : tq key i 2 = sb (wS key (4 * i - 1)) := by
     rw [tq, if_pos h4, if_neg (by omega), xor0, show 4 * i - 4 + (2 + 1) % 4 = 4 * i - 1 by omega]
    have t3 : tq key i 3 = sb (wS key (4 * i - 4)) := by
     rw [tq, if_pos h4, if_neg (by omega), xor0, show 4 * i - 4 + (3 + 1) % 4 = 4 * i - 4 by omega]
    rw [t0, t1, t2, t3]
   rw [ht]
   have hr : prod (rcF ((i - 1) / 4)) 2 = rcF (i / 4) := by
    rw [prod2, show i / 4 = (i - 1) / 4 + 1 by omega, rcF]
   rw [hr]
   refine wC
  ·skip
   have h4 : ¬ i % 4 = 0 := by omega
   refine yN ?_
   have ht : [by8 (wS key (4 * i - 4)), by8 (wS key (4 * i - 3)), by8 (wS key (4 * i - 2)), by8 (wS key (4 * i - 1))] = arB 4 (tq key i) := by
    show _ = [by8 (tq key i 0), by8 (tq key i 1), by8 (tq key i 2), by8 (tq key i 3)]
    unfold tq
    rw [if_neg h4, if_neg h4, if_neg h4, if_neg h4, show 4 * i - 4 + 0 = 4 * i - 4 by omega, show 4 * i - 4 + 1 = 4 * i - 3 by omega, show 4 * i - 4 + 2 = 4 * i - 2 by omega, show 4 * i - 4 + 3 = 4 * i - 1 by omega]
   rw [ht]
   have hr : rcF ((i - 1) / 4) = rcF (i / 4) := by rw [show (i - 1) / 4 = i / 4 by omega]
   rw [hr]
   refine zR
  dsimp only [List.cons_append, List.nil_append]
  refine zl (zx (zm ?_))
  refine za (zD (zl (yS ?_)))
  refine AW.g ?_
  refine G.closeRow (b := b') 1 rfl hxs rfl hc1 hc2 ?_
  refine AW.u ?_
  dsimp only [List.set]
  refine xJ [(3, _), (6, _), (7, _), (8, _)] (fun nn E H => ∃ (j : Nat) (W : Value), (j ≤ 4) ∧ (W.oneCell' = true) ∧ nn = 4 - j ∧ E = [(5, .val W), (65, .val (.int .i64 (j : Int)))] ∧ H = [.row W 5 1 (4 * i + j) (arB (4 * i + j) (wS key)), .blk B3 215 4 (arB 4 (tq key i)), .blk B1 181 (arB 256 RB).length (arB 256 RB)]) _ (⟨0, _, by omega, hV, rfl, rfl, rfl⟩) ?_
  rintro nn E H ⟨j, W, hj, hW, rfl, rfl, rfl⟩
  dsimp only [List.cons_append, List.nil_append]
  refine zx (zm ?_)
  refine zH (zD (zl (zx ?_)))
  refine yn (fun h2 => ?_) (fun h2 => ?_) <;> (try simp only [wN] at h2)
  ·skip
   have hj' : j < 4 := by omega
   refine AW.g ?_
   refine G.openRow 0 rfl (by omega) (fun b2 cap2 hd1 hd2 hxs2 hVe2 => ?_)
   refine AW.u ?_
   subst hVe2
   dsimp only [List.set]
   refine yN (zl (zx (yS (zx (zm ?_)))))
   refine za ?_
   refine zc (zD (zl ?_))
   refine yj 14 ?_
   simp only [List.take_succ_cons, List.take_zero, List.drop_succ_cons, List.drop_zero]
   refine zv ?_
   refine zv ?_
   refine zv ?_
   refine yH ?_
   refine xc ?_
   refine zv ?_
   refine y2 ?_
   refine xV ?_
   refine wJ (O.load rfl rfl (by repeat (exact List.Mem.head _)) (by exact arB_get (k := 4 * i - 16 + j) (by omega) (by omega))) ?_
   refine zv ?_
   refine yC ?_
   refine wJ (O.load rfl rfl (by repeat (first | exact List.Mem.head _ | refine List.Mem.tail _ ?_)) (by exact arB_get (k := j) (by omega) (by omega))) ?_
   refine xt ?_
   refine wJ (OpW.frz (z7 rfl rfl rfl) (by (unfold maxLen; omega))) ?_
   refine wg ?_
   simp only [chosen, List.nil_append, List.cons_append, List.append_nil]
   refine AO.g ?_
   refine G.closeRow (b := b2) 0 rfl hxs2 rfl hd1 hd2 ?_
   refine AO.u ?_
   dsimp only [List.set]
   refine zq 0 rfl rfl rfl rfl (by rfl) (by rfl) rfl rfl rfl (by exact SrcA.ro TyD.ax (by rfl) (Nat.le_of_ble_eq_true rfl)) (by rfl) (by (unfold maxLen; omega)) ?_
   intro V4 hV4
   refine zc (zD (y5 (zl (zm ?_))))
   refine zr ?_
   refine za (zD ?_)
   rw [show arB (4 * i + j) (wS key) ++ [AV.val (.int .u8 ((wS key (4 * i - 16 + j) ^^^ tq key i j).toNat : Int))] = arB (4 * i + j + 1) (wS key) from arB_snoc (wS_ref key hi.1 hj')]
   refine zj _ _ _ (by omega) (⟨j + 1, V4, by omega, hV4, rfl, rfl, rfl⟩)
  obtain rfl : j = 4 := by omega
  refine xD ?_
  refine xr ?_
  refine xA ?_
  refine yZ (y5 (zl (zm ?_)))
  refine za ?_
  refine zr ?_
  refine zc (zD ?_)
  refine xe _ _ _ (by omega) (⟨i + 1, W, by omega, hW, rfl, rfl, rfl⟩)
 obtain rfl : i = 44 := by omega
 refine xD ?_
 refine xr ?_
 refine xA ?_
 refine yZ (zl (zx (zm ?_)))
 refine za ?_
 refine zc (zD (zl (y1 ?_)))
 refine AQ.g ?_
 refine z6 0 [4] ?_
 refine AQ.u ?_
 try dsimp only [List.map, List.eraseIdx, List.cons_append, List.nil_append]
 refine xK rfl rfl ⟨_, List.nil_sublist _, .nil⟩ (⟨rfl, rfl⟩)
end Go.Proofs.YtojomcdjcpmnkaaGreat.By

namespace Go.Proofs.YtojomcdjcpmnkaaGreat.By
open Go.RowKit L A
set_option linter.unusedVariables false
set_option maxRecDepth 20000
set_option linter.unusedSimpArgs false
attribute [local irreducible] AW AQ AO
def m2311 (q : Nat) : UInt8 := [2, 3, 1, 1].getD q 0
def mEBD9 (q : Nat) : UInt8 := [14, 11, 13, 9].getD q 0
def encS (w f : Nat → UInt8) : Nat → Nat → UInt8
 | 0 => fun q => f q ^^^ w (0 * 16 + q)
 | i + 1 => fun q => (if i + 1 < 10 then mixF (shF sb 1 (encS w f i)) m2311 else shF sb 1 (encS w f i)) q ^^^ w ((i + 1) * 16 + q)
def enc (w f : Nat → UInt8) : Nat → UInt8 := encS w f 10
def RkOf (ys : List AV) (o : Nat) (w : Nat → UInt8) : Prop := ∀ i, i < 11 → (ys.drop (o + i * 16)).take 16 = arB 16 fun q => w (i * 16 + q)
set_option maxRecDepth 20000 in
set_option maxHeartbeats 4000000 in
theorem encrypt_fn (b : Nat) (f w : Nat → UInt8) (xs ys : List AV) (o oy : Nat) (hx : BoxOf xs o sb) (hw : RkOf ys oy w) : Sp Tryz.prog 197 [.rp xs o, .rp ys oy, pt b] [stB b f] (IsM (.val (.tuple #[])) (stB b (enc w f))) := by
 refine yv Tryz.func197 _ Tryz.ntmps197 (fun w0 R0 => ?_)
 refine zx (zm ?_)
 refine za ?_
 refine za ?_
 refine wI (O.nilCheckR rfl rfl) ?_
 refine wI (O.idxLR rfl rfl rfl ⟨(by omega), (by omega)⟩) ?_
 refine wI (O.loadRK rfl rfl (by exact hw 0 (by omega)) (by exact arB_len _ _)) ?_
 refine AO.callM1 (i := 0) rfl rfl Tryz.func206 rfl rfl rfl rfl rfl rfl (sxor_fn _ _ _) (by (dsimp only [List.set, List.cons_append, List.nil_append, List.take, List.drop]; done)) (zD (zl (zx (zm ?_))))
 refine zc (zD (zl (yS ?_)))
 refine zg [(0, _), (1, _), (2, _)] (fun nn E H => ∃ (j : Nat), (j ≤ 10) ∧ nn = 10 - j ∧ E = [(6, .val (.int .i64 ((j + 1 : Nat) : Int)))] ∧ H = [stB b (encS w f j)]) _ (⟨0, by omega, rfl, rfl, rfl⟩) ?_
 rintro nn E H ⟨j, hj, rfl, rfl, rfl⟩
 dsimp only [List.cons_append, List.nil_append]
 refine zx (zx (zm ?_))
 refine za ?_
 refine zH (zD (zl ?_))
 refine yn (fun h => ?_) (fun h => ?_) <;> (try simp only [wN] at h)
 ·skip
  refine yN (zl (zx (yS (zx (zm ?_)))))
  refine za ?_
  refine za ?_
  refine wI (O.nilCheckR rfl rfl) ?_
  refine wI (O.fieldAddrR rfl rfl) ?_
  refine AO.callM1 (i := 0) rfl rfl Tryz.func207 rfl rfl rfl rfl rfl rfl (shift1_fn _ _ _ _ _ hx) (by (dsimp only [List.set, List.cons_append, List.nil_append, List.take, List.drop]; done)) (zD (zl (zx (zx (zm ?_)))))
  refine za ?_
  refine zH (zD (zl ?_))
  refine yn (fun h23 => ?_) (fun h23 => ?_) <;> (try simp only [wN] at h23)
  ·skip
   have e : (fun q => mixF (shF sb 1 (encS w f j)) m2311 q ^^^ w ((j + 1) * 16 + q)) = encS w f (j + 1) := by rw [encS, if_pos (by omega)]
   refine zm ?_
   refine za ?_
   refine z8 ?_
   refine AO.callM1 (i := 0) rfl rfl Tryz.func208 rfl rfl rfl rfl rfl rfl (mix_fn _ _ m2311) (by (dsimp only [List.set, List.cons_append, List.nil_append, List.take, List.drop]; done)) (zD (zl (zm ?_)))
   refine za ?_
   refine za ?_
   refine za ?_
   refine wI (O.nilCheckR rfl rfl) ?_
   refine wI (O.idxLR rfl rfl rfl ⟨(by omega), (by omega)⟩) ?_
   refine wI (O.loadRK rfl rfl (by exact hw (j + 1) (by omega)) (by exact arB_len _ _)) ?_
   refine AO.callM1 (i := 0) rfl rfl Tryz.func206 rfl rfl rfl rfl rfl rfl (sxor_fn _ _ _) (by (dsimp only [List.set, List.cons_append, List.nil_append, List.take, List.drop]; done)) (zD (y5 (zl (zm ?_))))
   refine za ?_
   refine zr ?_
   refine zc (zD ?_)
   rw [e]
   refine zj _ _ _ (by omega) (⟨j + 1, by omega, rfl, rfl, rfl⟩)
  have e : (fun q => shF sb 1 (encS w f j) q ^^^ w ((j + 1) * 16 + q)) = encS w f (j + 1) := by rw [encS, if_neg (by omega)]
  refine yN (zl (zm ?_))
  refine za ?_
  refine za ?_
  refine za ?_
  refine wI (O.nilCheckR rfl rfl) ?_
  refine wI (O.idxLR rfl rfl rfl ⟨(by omega), (by omega)⟩) ?_
  refine wI (O.loadRK rfl rfl (by exact hw (j + 1) (by omega)) (by exact arB_len _ _)) ?_
  refine AO.callM1 (i := 0) rfl rfl Tryz.func206 rfl rfl rfl rfl rfl rfl (sxor_fn _ _ _) (by (dsimp only [List.set, List.cons_append, List.nil_append, List.take, List.drop]; done)) (zD (y5 (zl (zm ?_))))
  refine za ?_
  refine zr ?_
  refine zc (zD ?_)
  rw [e]
  refine zj _ _ _ (by omega) (⟨j + 1, by omega, rfl, rfl, rfl⟩)
 obtain rfl : j = 10 := by omega
 refine xD ?_
 refine xr ?_
 refine xA ?_
 refine yZ ?_
 refine AQ.retN (AQ.ret0 rfl ⟨_, by repeat (first | exact List.Sublist.slnil | refine List.Sublist.cons_cons _ ?_), List.Perm.refl _⟩ (⟨rfl, rfl⟩))
/-! the cipher -/
def cipA (w : Nat → UInt8) : List AV := arB 512 TB ++ arB 176 w
theorem cip_to (w : Nat → UInt8) : BoxOf (cipA w) 0 sb := fun v => by
 have h := box_to v
 have := v.toNat_lt
 unfold cipA
 rw [List.getElem?_append_left (by rw [arB_len]; omega)]; exact h
theorem cip_rk (w : Nat → UInt8) : RkOf (cipA w) 512 w := fun i hi => by
 unfold cipA
 rw [List.drop_append, List.drop_eq_nil_of_le (by rw [arB_len]; omega), List.nil_append, arB_len, Nat.add_sub_cancel_left]
 exact arB_dt (by omega)
theorem cip_zero : cipA (fun _ => 0) = arB 688 (fun q => if 0 ≤ q ∧ q < 0 + 512 then TB (q - 0) else 0) := by
 unfold cipA
 rw [arB_app]
 refine arB_congr fun q hq => ?_
 by_cases h : q < 512
 ·rw [if_pos h, if_pos (by omega)]; rfl
 rw [if_neg h, if_neg (by omega)]
theorem cip_set (w : Nat → UInt8) {j : Nat} (hj : j = 512) : splice (cipA fun _ => 0) j (arB 176 w) = cipA w := by
 subst hj
 unfold cipA
 rw [splice_eq _ _ _ (by rw [List.length_append, arB_len, arB_len, arB_len]; omega), arB_len, List.take_left' (arB_len _ _), List.drop_eq_nil_of_le (by rw [List.length_append, arB_len, arB_len]; omega), List.append_nil]
theorem cip_len (w : Nat → UInt8) : (cipA w).length = 688 := by unfold cipA; rw [List.length_append, arB_len, arB_len]
instance (priority := 2000) cip83 : TyB Tryz.prog 188 [(0, 512), (512, 176)] (.agg ⟨List.replicate 688 (.int .u8 0)⟩) := ⟨Tryz.t188, Tryz.type188, by kernel_rfl, .inl ⟨_, Tryz.underlying188, rfl⟩⟩
set_option maxRecDepth 20000 in
theorem fill83 : fillA ([(0, 512), (512, 176)][·]?) ((Value.agg ⟨List.replicate 688 (.int .u8 0)⟩).cells.toList.map AV.val) [(0, .agg (arB 512 TB))] = some (cipA fun _ => 0) := by
 have hz : ((Value.agg ⟨List.replicate 688 (.int .u8 0)⟩).cells.toList.map AV.val) = arB 688 (fun _ => 0) := zeros_arB 688
 rw [hz]
 unfold fillA
 have h1 : (AV.agg (arB 512 TB)).cells.length = 512 := arB_len _ _
 have h2 : (arB 688 fun _ => 0).length = 688 := arB_len _ _
 simp only [List.getElem?_cons_zero, h1, h2]
 rw [show (Nat.beq 512 512 && Nat.ble (0 + 512) 688) = true from by decide]
 simp only [cond_true, fillA]
 refine congrArg some ?_
 show splice (arB 688 fun _ => 0) 0 (arB 512 TB) = _
 rw [arB_splice (by omega), ← cip_zero]
def kf (l : List UInt8) : Nat → UInt8 := fun q => l.getD q 0
theorem fnB_kf {l : List UInt8} {n : Nat} (h : l.length = n) : fnB n (kf l) = l := by
 subst h
 apply List.ext_getElem?
 intro q
 by_cases hq : q < l.length
 ·simp [fnB, kf, hq]
 simp [fnB, hq]
theorem roB_kf {l : List UInt8} {n : Nat} (h : l.length = n) : roB l = .ro false n (arB n (kf l)) := by
 rw [← roB_fnB, fnB_kf h]
set_option maxRecDepth 20000 in
set_option maxHeartbeats 4000000 in
theorem aesnew_fn (key : Nat → UInt8) : Sp Tryz.prog 157 [.ro false 16 (arB 16 key)] [] (NewBlk pt 188 688 (cipA (wS key))) := by
 refine yv Tryz.func157 _ Tryz.ntmps157 (fun w0 R0 => ?_)
 refine zx (zm ?_)
 refine zc (zD (zl (zx (zm ?_))))
 refine wI (xl rfl Tryz.func177 rfl rfl rfl subs_fn) ?_
 refine wI (O.build rfl rfl rfl (by exact fill83)) ?_
 refine ya ?_
 intro B1
 refine zc (zD (zl (zx (zm ?_))))
 refine za ?_
 refine za ?_
 refine wI (O.nilCheck rfl rfl) ?_
 refine zn ?_
 refine za ?_
 refine wI (O.callLB rfl Tryz.func178 rfl rfl rfl (by repeat (exact List.Mem.head _)) (sched_fn _ _ (cip_to _)) (plain_arB _ _) (by (repeat (first | exact LendB.nil | refine LendB.lend ?_ | refine LendB.same ?_)); done)) ?_
 refine wI (O.nilCheck rfl rfl) ?_
 refine zn ?_
 refine AO.store (i := 0) rfl rfl rfl rfl rfl rfl (by exact arB_one _ _) (by exact arB_len _ _) (by exact Nat.ble_eq_true_of_le (Nat.le_of_eq (cip_len _).symm)) (by exact cip_set _ rfl) (by (dsimp only [List.set, List.append, List.cons_append, List.nil_append, AV.cells, splice, List.take, List.drop, Nat.reduceAdd]; done)) (zD (zl (zx (zm ?_))))
 refine za ?_
 refine zc (zD (zl (y1 ?_)))
 rw [cip_len]
 refine xK rfl rfl ⟨_, by repeat (first | exact List.Sublist.slnil | refine List.Sublist.cons_cons _ ?_), List.Perm.refl _⟩ (⟨B1, rfl, rfl⟩)
end Go.Proofs.YtojomcdjcpmnkaaGreat.By

namespace Go.Proofs.YtojomcdjcpmnkaaGreat.By
open Go.RowKit L A
set_option linter.unusedVariables false
set_option maxRecDepth 20000
set_option linter.unusedSimpArgs false
attribute [local irreducible] AW AQ AO
set_option maxRecDepth 20000 in
set_option maxHeartbeats 4000000 in
theorem block_fn (w f : Nat → UInt8) : Sp Tryz.prog 179 [.rp (cipA w) 0, .agg (arB 16 f)] [] (Is (.agg (arB 16 (enc w f)))) := by
 refine yv Tryz.func179 _ Tryz.ntmps179 (fun w0 R0 => ?_)
 refine zx (zm ?_)
 refine ya ?_
 intro B1
 refine zd ?_
 intro B2
 refine zD (zl (zx (zm ?_)))
 refine wd ?_
 refine zd ?_
 intro B3
 refine y3 0 rfl rfl rfl rfl rfl rfl (zD (zl (zx ?_)))
 refine yj 6 ?_
 simp only [List.take_succ_cons, List.take_zero, List.drop_succ_cons, List.drop_zero]
 refine zv ?_
 refine wJ (O.nilCheckR rfl rfl) ?_
 refine wJ (O.fieldAddrR rfl rfl) ?_
 refine zv ?_
 refine wJ (O.nilCheckR rfl rfl) ?_
 refine wJ (O.fieldAddrR rfl rfl) ?_
 refine wg ?_
 simp only [chosen, List.nil_append, List.cons_append, List.append_nil]
 refine AO.callM1 (i := 0) rfl rfl Tryz.func197 rfl rfl rfl rfl rfl rfl (encrypt_fn _ f w (cipA w) (cipA w) 0 512 (cip_to w) (cip_rk w)) (by (dsimp only [List.set, List.cons_append, List.nil_append, List.take, List.drop]; done)) (zD (zl (zx (zm ?_))))
 refine yR ?_
 refine y3 1 rfl rfl rfl rfl rfl rfl (zD (zl (y1 ?_)))
 refine AQ.retCell rfl rfl (by repeat (first | exact List.Mem.head _ | refine List.Mem.tail _ ?_)) (by rfl) rfl ⟨_, List.nil_sublist _, .nil⟩ (⟨rfl, rfl⟩)
end Go.Proofs.YtojomcdjcpmnkaaGreat.By

namespace Go.Proofs.YtojomcdjcpmnkaaGreat.By
open Go.RowKit L A
set_option linter.unusedVariables false
set_option maxRecDepth 20000
set_option linter.unusedSimpArgs false
attribute [local irreducible] AW AQ AO
def encL (key blk : List UInt8) : List UInt8 := if key.length = 16 ∧ blk.length = 16 then fnB 16 (enc (wS (kf key)) (kf blk)) else []
def encE (key blk : List UInt8) : Int := if key.length = 16 ∧ blk.length = 16 then 0 else 1
def aDecS (w f : Nat → UInt8) : Nat → Nat → UInt8
 | 0 => f
 | k + 1 => shF iv 3 (if 10 - k < 10 then mixF (fun q => aDecS w f k q ^^^ w ((10 - k) * 16 + q)) mEBD9 else fun q => aDecS w f k q ^^^ w ((10 - k) * 16 + q))
def dec (w f : Nat → UInt8) (q : Nat) : UInt8 := aDecS w f 10 q ^^^ w (0 * 16 + q)
end Go.Proofs.YtojomcdjcpmnkaaGreat.By

namespace Go.Proofs.YtojomcdjcpmnkaaGreat.By
open Go.RowKit L A
set_option linter.unusedVariables false
set_option maxRecDepth 20000
set_option linter.unusedSimpArgs false
attribute [local irreducible] AW AQ AO
abbrev arr16 (b : Nat) (f : Nat → UInt8) : HE := .blk b 171 16 (arB 16 f)
theorem arr_eq1 {b : Nat} {f g : Nat → UInt8} (h : ∀ q, q < 16 → f q = g q) : arr16 b f = arr16 b g := congrArg (fun x => HE.blk b 171 16 x) (arB_congr h)
set_option maxHeartbeats 2000000 in
theorem rxor_fn (f k : Nat → UInt8) : Sp Tryz.prog 201 [.agg (arB 16 f), .ro false 16 (arB 16 k)] [] (Is (.agg (arB 16 fun q => f q ^^^ k q))) := by
 refine yv Tryz.func201 _ Tryz.ntmps201 (fun w0 R0 => ?_)
 refine zx (zm ?_)
 refine ya ?_
 intro B1
 refine zd ?_
 intro B2
 refine zD (zl (zx (zx (zm ?_))))
 refine za (zD (zl (yS ?_)))
 have e0 : arr16 B1 f = arr16 B1 (fun q => if q < 0 then f q ^^^ k q else f q) := arr_eq1 fun q _ => (if_neg (by omega)).symm
 refine zg [(1, _), (2, _), (4, _)] (fun nn E H => ∃ (i : Nat), (i ≤ 16) ∧ nn = 16 - i ∧ E = [(6, .val (.int .i64 (i : Int)))] ∧ H = [arr16 B2 (fun _ => 0), arr16 B1 (fun q => if q < i then f q ^^^ k q else f q)]) _ (⟨0, by omega, rfl, rfl, congrArg (fun x => [arr16 B2 (fun _ => 0), x]) e0⟩) ?_
 rintro nn E H ⟨i, hi, rfl, rfl, rfl⟩
 dsimp only [List.cons_append, List.nil_append]
 refine zx (zm ?_)
 refine zH (zD (zl (zx ?_)))
 refine yn (fun h => ?_) (fun h => ?_) <;> (try simp only [wN] at h)
 ·skip
  refine yN (zl (zx (yS (zx (zm ?_)))))
  refine za ?_
  refine zc (zD (zl ?_))
  refine yj 9 ?_
  simp only [List.take_succ_cons, List.take_zero, List.drop_succ_cons, List.drop_zero]
  refine zv ?_
  refine yi ?_
  refine wJ (O.load rfl rfl (by repeat (first | exact List.Mem.head _ | refine List.Mem.tail _ ?_)) (by exact arB_get (k := i) (by omega) (by omega))) ?_
  refine zv ?_
  refine zv ?_
  refine xx ?_
  refine wJ (O.loadR rfl rfl (by exact arB_get (k := i) (by omega) (by omega))) ?_
  refine xt ?_
  refine yi ?_
  refine wg ?_
  simp only [chosen, List.nil_append, List.cons_append, List.append_nil]
  refine yf 1 rfl rfl rfl rfl rfl rfl (by rfl) (by rfl) (by exact Nat.ble_eq_true_of_le (by rw [arB_len]; omega)) (by exact arB_set (k := i) (by omega) _ (by omega)) (zD (y5 (zl (zm ?_))))
  refine zr ?_
  refine za (zD ?_)
  have e : arr16 B1 (fun q => if q = i then (if i < i then f i ^^^ k i else f i) ^^^ k i else if q < i then f q ^^^ k q else f q) = arr16 B1 (fun q => if q < i + 1 then f q ^^^ k q else f q) := arr_eq1 fun q _ => by
   rcases Nat.lt_trichotomy q i with h1 | rfl | h1
   ·rw [if_neg (by omega), if_pos h1, if_pos (by omega)]
   ·rw [if_pos rfl, if_neg (by omega), if_pos (by omega)]
   rw [if_neg (by omega), if_neg (by omega), if_neg (by omega)]
  refine zj _ _ _ (by omega) (⟨i + 1, by omega, rfl, rfl, congrArg (fun x => [arr16 B2 (fun _ => 0), x]) e⟩)
 obtain rfl : i = 16 := by omega
 refine xD ?_
 refine xr ?_
 refine xA ?_
 refine yZ (zl (zx (zm ?_)))
 refine wI (O.loadK rfl rfl (by repeat (first | exact List.Mem.head _ | refine List.Mem.tail _ ?_)) (by exact List.take_of_length_le (Nat.le_of_eq (arB_len _ _))) (by rfl)) ?_
 refine AO.store (i := 0) rfl rfl rfl rfl rfl rfl (by rfl) (by rfl) (by rfl) (by exact splice_arB rfl) (by (dsimp only [List.set, List.cons_append, List.nil_append, List.take, List.drop]; done)) (zD (zl (y1 ?_)))
 refine AQ.retCell (ys := arB 16 (fun q => if q < 16 then f q ^^^ k q else f q)) rfl rfl (by repeat (exact List.Mem.head _)) (List.take_of_length_le (Nat.le_of_eq (arB_len _ _))) (arB_len _ _) ⟨_, List.nil_sublist _, .nil⟩ ⟨congrArg AV.agg (arB_congr fun q hq => if_pos hq), rfl⟩
def rK (f m : Nat → UInt8) (c r : Nat) : Nat → UInt8
 | 0 => 0
 | k + 1 => rK f m c r k ^^^ prod (f (4 * c + k)) (m ((k + 4 - r) % 4))
def rmixF (f m : Nat → UInt8) (q : Nat) : UInt8 := rK f m (q / 4) (q % 4) 4
theorem xor_lc (a b c : UInt8) : a ^^^ (b ^^^ c) = b ^^^ (a ^^^ c) := by rw [← UInt8.xor_assoc, UInt8.xor_comm a b, UInt8.xor_assoc]
theorem rmix_eq (f m : Nat → UInt8) (q : Nat) : rmixF f m q = mixF f m q := by
 unfold rmixF mixF
 have h4 : q % 4 < 4 := Nat.mod_lt _ (by decide)
 simp only [rK, mixK]
 generalize q / 4 = c at *
 generalize q % 4 = r at *
 rcases (show r = 0 ∨ r = 1 ∨ r = 2 ∨ r = 3 by omega) with rfl | rfl | rfl | rfl <;> simp [UInt8.xor_assoc, UInt8.xor_comm, xor_lc]
def rU (f m : Nat → UInt8) (c r k q : Nat) : UInt8 := if q = 4 * c + r then rK f m c r k else if q < 4 * c + r then rmixF f m q else 0
theorem rU_next (f m : Nat → UInt8) {c r : Nat} (hr : r < 4) (q : Nat) : rU f m c r 4 q = rU f m c (r + 1) 0 q := by
 unfold rU
 rcases Nat.lt_trichotomy q (4 * c + r) with h1 | h1 | h1
 ·rw [if_neg (by omega), if_pos h1, if_neg (by omega), if_pos (by omega)]
 ·rw [if_pos h1, if_neg (by omega), if_pos (by omega), rmixF, h1, show (4 * c + r) / 4 = c by omega, show (4 * c + r) % 4 = r by omega]
 rw [if_neg (by omega), if_neg (by omega)]
 by_cases h2 : q = 4 * c + (r + 1)
 ·rw [if_pos h2]; rfl
 rw [if_neg h2, if_neg (by omega)]
theorem rU_row (f m : Nat → UInt8) {c : Nat} (q : Nat) : rU f m c 4 0 q = rU f m (c + 1) 0 0 q := by
 unfold rU
 rw [show 4 * (c + 1) + 0 = 4 * c + 4 by omega]
 by_cases h : q = 4 * c + 4
 ·rw [if_pos h, if_pos h]; rfl
 rw [if_neg h, if_neg h]
theorem rU_zero (f m : Nat → UInt8) (q : Nat) : rU f m 0 0 0 q = 0 := by
 unfold rU
 by_cases h : q = 4 * 0 + 0
 ·rw [if_pos h]; rfl
 rw [if_neg h, if_neg (by omega)]
set_option maxHeartbeats 4000000 in
theorem rmix_fn (f m : Nat → UInt8) : Sp Tryz.prog 202 [.agg (arB 16 f), .agg (arB 4 m)] [] (Is (.agg (arB 16 (mixF f m)))) := by
 refine yv Tryz.func202 _ Tryz.ntmps202 (fun w0 R0 => ?_)
 refine zx (zm ?_)
 refine ya ?_
 intro B1
 refine ya ?_
 intro B2
 refine zd ?_
 intro B3
 refine zD (zl (zx (zm ?_)))
 refine zd ?_
 intro B4
 refine zD (zl (zx (zx (zm ?_))))
 refine za (zD (zl (yS ?_)))
 have e0 : arr16 B4 (fun _ => 0) = arr16 B4 (rU f m 0 0 0) := arr_eq1 fun q _ => (rU_zero f m q).symm
 refine zg [(2, _), (3, _), (4, _), (5, _)] (fun nn E H => ∃ (c : Nat), (c ≤ 4) ∧ nn = 4 - c ∧ E = [(9, .val (.int .i64 (c : Int)))] ∧ H = [arr16 B4 (rU f m c 0 0), arr16 B3 (fun _ => 0), .blk B2 215 4 (arB 4 m), arr16 B1 f]) _ (⟨0, by omega, rfl, rfl, congrArg (fun x => [x, arr16 B3 (fun _ => 0), .blk B2 215 4 (arB 4 m), arr16 B1 f]) e0⟩) ?_
 rintro nn E H ⟨c, hc, rfl, rfl, rfl⟩
 dsimp only [List.cons_append, List.nil_append]
 refine zx (zm ?_)
 refine zH (zD (zl (zx ?_)))
 refine yn (fun h => ?_) (fun h => ?_) <;> (try simp only [wN] at h)
 ·skip
  refine yN (zl (zx (yS (zx (zm ?_)))))
  refine za ?_
  refine zc (zD (zl (zx (zm ?_))))
  refine za (zD (zl (yS ?_)))
  refine zg [(2, _), (3, _), (4, _), (5, _), (6, _), (9, _)] (fun nn E H => ∃ (r : Nat), (r ≤ 4) ∧ nn = 4 - r ∧ E = [(12, .val (.int .i64 (r : Int)))] ∧ H = [arr16 B4 (rU f m c r 0), arr16 B3 (fun _ => 0), .blk B2 215 4 (arB 4 m), arr16 B1 f]) _ (⟨0, by omega, rfl, rfl, rfl⟩) ?_
  rintro nn E H ⟨r, hr, rfl, rfl, rfl⟩
  dsimp only [List.cons_append, List.nil_append]
  refine zx (zm ?_)
  refine zH (zD (zl (zx ?_)))
  refine yn (fun h2 => ?_) (fun h2 => ?_) <;> (try simp only [wN] at h2)
  ·skip
   have hr' : r < 4 := by omega
   have hc' : c < 4 := by omega
   refine yN (zl (zx (yS (zx (zm ?_)))))
   refine za ?_
   refine zc (zD (zl (zx (zm ?_))))
   refine za (zD (zl (yS ?_)))
   refine zg [(2, _), (3, _), (4, _), (5, _), (6, _), (7, _), (9, _), (12, _)] (fun nn E H => ∃ (k : Nat), (k ≤ 4) ∧ nn = 4 - k ∧ E = [(15, .val (.int .i64 (k : Int)))] ∧ H = [arr16 B4 (rU f m c r k), arr16 B3 (fun _ => 0), .blk B2 215 4 (arB 4 m), arr16 B1 f]) _ (⟨0, by omega, rfl, rfl, rfl⟩) ?_
   rintro nn E H ⟨k, hk, rfl, rfl, rfl⟩
   dsimp only [List.cons_append, List.nil_append]
   refine zx (zm ?_)
   refine zH (zD (zl (zx ?_)))
   refine yn (fun h3 => ?_) (fun h3 => ?_) <;> (try simp only [wN] at h3)
   ·skip
    refine yN (zl (zx (yS (zx (zm ?_)))))
    refine za ?_
    refine zc (zD (zl ?_))
    refine yj 22 ?_
    simp only [List.take_succ_cons, List.take_zero, List.drop_succ_cons, List.drop_zero]
    refine zv ?_
    refine yH ?_
    refine zv ?_
    refine y2 ?_
    refine yi ?_
    refine wJ (O.load rfl rfl (by repeat (exact List.Mem.head _)) (by exact arB_get (k := 4 * c + r) (by omega) (by omega))) ?_
    refine zv ?_
    refine yH ?_
    refine zv ?_
    refine y2 ?_
    refine yi ?_
    refine wJ (O.load rfl rfl (by repeat (first | exact List.Mem.head _ | refine List.Mem.tail _ ?_)) (by exact arB_get (k := 4 * c + k) (by omega) (by omega))) ?_
    refine zv ?_
    refine zv ?_
    refine xc ?_
    refine y2 ?_
    refine wJ xk ?_
    refine yi ?_
    refine wJ (O.load rfl rfl (by repeat (first | exact List.Mem.head _ | refine List.Mem.tail _ ?_)) (by exact arB_get (k := (k + 4 - r) % 4) (by omega) (by omega))) ?_
    refine wJ (xl rfl Tryz.func209 rfl rfl rfl (mul_fn _ _)) ?_
    refine xt ?_
    refine yi ?_
    refine wg ?_
    simp only [chosen, List.nil_append, List.cons_append, List.append_nil]
    refine yf 0 rfl rfl rfl rfl rfl rfl (by rfl) (by rfl) (by exact Nat.ble_eq_true_of_le (by rw [arB_len]; omega)) (by exact arB_set (k := 4 * c + r) (by omega) _ (by omega)) (zD (y5 (zl (zm ?_))))
    refine zr ?_
    refine za (zD ?_)
    have e : arr16 B4 (fun q => if q = 4 * c + r then rU f m c r k (4 * c + r) ^^^ prod (f (4 * c + k)) (m ((k + 4 - r) % 4)) else rU f m c r k q) = arr16 B4 (rU f m c r (k + 1)) := arr_eq1 fun q _ => by
     unfold rU
     by_cases h1 : q = 4 * c + r
     ·rw [if_pos h1, if_pos rfl, if_pos h1]; rfl
     rw [if_neg h1, if_neg h1, if_neg h1]
    refine zj _ _ _ (by omega) (⟨k + 1, by omega, rfl, rfl, congrArg (fun x => [x, arr16 B3 (fun _ => 0), .blk B2 215 4 (arB 4 m), arr16 B1 f]) e⟩)
   obtain rfl : k = 4 := by omega
   refine xD ?_
   refine xr ?_
   refine xA ?_
   refine yZ (y5 (zl (zm ?_)))
   refine zr ?_
   refine za (zD ?_)
   have e : arr16 B4 (rU f m c r 4) = arr16 B4 (rU f m c (r + 1) 0) := arr_eq1 fun q _ => rU_next f m hr' q
   refine zj _ _ _ (by omega) (⟨r + 1, by omega, rfl, rfl, congrArg (fun x => [x, arr16 B3 (fun _ => 0), .blk B2 215 4 (arB 4 m), arr16 B1 f]) e⟩)
  obtain rfl : r = 4 := by omega
  refine xD ?_
  refine xr ?_
  refine xA ?_
  refine yZ (y5 (zl (zm ?_)))
  refine zr ?_
  refine za (zD ?_)
  have e : arr16 B4 (rU f m c 4 0) = arr16 B4 (rU f m (c + 1) 0 0) := arr_eq1 fun q _ => rU_row f m q
  refine zj _ _ _ (by omega) (⟨c + 1, by omega, rfl, rfl, congrArg (fun x => [x, arr16 B3 (fun _ => 0), .blk B2 215 4 (arB 4 m), arr16 B1 f]) e⟩)
 obtain rfl : c = 4 := by omega
 refine xD ?_
 refine xr ?_
 refine xA ?_
 refine yZ (zl (zx (zm ?_)))
 refine wI (O.loadK rfl rfl (by repeat (exact List.Mem.head _)) (by exact List.take_of_length_le (Nat.le_of_eq (arB_len _ _))) (by rfl)) ?_
 refine AO.store (i := 1) rfl rfl rfl rfl rfl rfl (by rfl) (by rfl) (by rfl) (by exact splice_arB rfl) (by (dsimp only [List.set, List.cons_append, List.nil_append, List.take, List.drop]; done)) (zD (zl (y1 ?_)))
 refine AQ.retCell (ys := arB 16 (rU f m 4 0 0)) rfl rfl (by repeat (first | exact List.Mem.head _ | refine List.Mem.tail _ ?_)) (List.take_of_length_le (Nat.le_of_eq (arB_len _ _))) (arB_len _ _) ⟨_, List.nil_sublist _, .nil⟩ ⟨congrArg AV.agg (arB_congr fun q hq => by rw [← rmix_eq]; unfold rU; rw [if_neg (by omega), if_pos (by omega)]), rfl⟩
end Go.Proofs.YtojomcdjcpmnkaaGreat.By
