/-
  NotifyReceives, the statement: for every input the law returns true, and its arguments read as before. No condition.
-/
import Derived.ChangeSame
import Derived.JoinedOf
import Derived.JoinedAt
import Derived.RowKit3
import Derived.ReadAgain
import Derived.Deep.Slices
import Derived.ChangeSlices
import Derived.Test.YtojomcdjcpmnkaaGreatZn5
set_option linter.unusedVariables false
set_option linter.unusedSimpArgs false
set_option maxRecDepth 20000
set_option maxHeartbeats 4000000
namespace Go.Proofs.YtojomcdjcpmnkaaGreat.By
open Go.RowKit L A
attribute [local irreducible] AW AQ AO
structure Rg where
 tok:List UInt8
 b:Bd
 top:Int
 live:Bool
def Rg.none:Rg:=⟨[],Bd.none,0,false⟩
abbrev cRg (r:Rg):List AV:= [roB r.tok,roB r.b.ctx,roB r.b.kid,.val (.int .i64 r.b.piv),.val (.int .i64 r.top),.val (.bool r.live)]
abbrev k0F (r:Rg):AV:= .agg (cRg r)
abbrev u0F (b:Bd):Prop:=b.ctx.length≤1000000∧b.kid.length≤1000000
abbrev SmR (r:Rg):Prop:=r.tok.length≤1000000∧u0F r.b
theorem k0B (b:Bd)(h:u0F b):Sp Tryz.prog 90 [d0X b] [] (Is (d0X b)):=f0S b.ctx b.kid b.piv (by omega) (by omega)
theorem n0m (r:Rg)(h:SmR r):Sp Tryz.prog 87 [k0F r] [] (Is (k0F r)):=by
 obtain⟨h1,h2,h3⟩:=h
 refine yH Tryz.func87 _ Tryz.ntmps87 (fun w0 R0=> ?_)
 refine zC (zq ?_)
 refine z9 ?_
 intro B1
 refine zd ?_
 intro B2
 refine zH (zn (zC ?_))
 refine yo 7 ?_
 simp only[cT,cZ,cD,cO]
 refine yn ?_
 refine zO ?_
 refine vP (xD rfl Tryz.func89 rfl rfl rfl (b0s _ (by omega))) ?_
 refine yn ?_
 refine vb ?_
 refine vP (xD rfl Tryz.func90 rfl rfl rfl (k0B r.b ⟨by omega,by omega⟩)) ?_
 refine yn ?_
 refine vf ?_
 simp only[a0g,cN,cA,cP]
 refine za 1 ?_
 refine zt ?_
 refine za 1 (zH (zn (zC (zq ?_))))
 refine zw ?_
 refine za 0 (zH (zn (y3 ?_)))
 refine AQ.retCell rfl rfl (by repeat(exact List.Mem.head _)) (by rfl) rfl nS (⟨rfl,rfl⟩)
def t0c (tok:List UInt8)(b:Bd):Rg×Int:=if 8<tok.length then(Rg.none,1)else(⟨tok,b, -1,true⟩,0)
abbrev t0r (r:Rg×Int):AV:= .tup [k0F r.1,.val (.int .i64 r.2)]
theorem q0e {tok:List UInt8}{b:Bd}(h:8<tok.length):t0c tok b=(Rg.none,1):=if_pos h
theorem l0M {tok:List UInt8}{b:Bd}(h: ¬8<tok.length):t0c tok b=(⟨tok,b, -1,true⟩,0):=if_neg h
theorem o0m (tok:List UInt8)(b:Bd)(hb:u0F b):Sp Tryz.prog 43 [roB tok,d0X b] [] (Is (t0r (t0c tok b))):=by
 refine yH Tryz.func43 _ Tryz.ntmps43 (fun w0 R0=> ?_)
 refine zC (zq ?_)
 refine z9 ?_
 intro B1
 refine zd ?_
 intro B2
 refine zc (zH (zn (zC (zC (zq ?_)))))
 refine zb ?_
 refine zZ ?_
 refine yN (zH (zn ?_))
 refine ym (fun h=> ?_) (fun h=> ?_)<;>(try simp only[vU]at h)
 ·rw[q0e (by omega)]
  refine zC (zq ?_)
  refine zM ?_
  refine za 0 ?_
  refine zc (zH (zn (y3 (xh ?_))))
  refine x9 zP zk (⟨rfl,rfl⟩)
 rw[l0M (by omega)]
 refine yU (zn (zC ?_))
 refine yo 5 ?_
 simp only[cT,cZ,cD,cO]
 refine zE ?_
 refine vP (xD rfl Tryz.func89 rfl rfl rfl (b0s _ (by omega))) ?_
 refine vb ?_
 refine vP (xD rfl Tryz.func90 rfl rfl rfl (k0B b hb)) ?_
 refine xN ?_
 refine vf ?_
 simp only[a0g,cN,cA,cP]
 refine za 0 ?_
 refine zc (zH (zn (y3 ?_)))
 refine x9 zP yQ (⟨rfl,rfl⟩)
theorem h0I (tok:List UInt8)(b:Bd):Sp Tryz.prog 34 [roB tok,d0X b] [] (Is (t0r (t0c tok b))):=by
 refine yH Tryz.func34 _ Tryz.ntmps34 (fun w0 R0=> ?_)
 refine zC (zq ?_)
 refine z9 ?_
 intro B1
 refine zd ?_
 intro B2
 refine zc (zH (zn (zC (zC (zq ?_)))))
 refine zb ?_
 refine zZ ?_
 refine yN (zH (zn ?_))
 refine ym (fun h=> ?_) (fun h=> ?_)<;>(try simp only[vU]at h)
 ·rw[q0e (by omega)]
  refine zC (zq ?_)
  refine zM ?_
  refine za 0 ?_
  refine zc (zH (zn (y3 (xh ?_))))
  refine x9 zP zk (⟨rfl,rfl⟩)
 rw[l0M (by omega)]
 refine yU (zn (zC ?_))
 refine yo 4 ?_
 simp only[cT,cZ,cD,cO]
 refine zE ?_
 refine vP (xD rfl Tryz.func69 rfl rfl rfl (a0o _ (by omega))) ?_
 refine vb ?_
 refine xN ?_
 refine vf ?_
 simp only[a0g,cN,cA,cP]
 refine za 0 ?_
 refine zc (zH (zn (y3 ?_)))
 refine x9 zP yQ (⟨rfl,rfl⟩)
abbrev r0j (r:Rg):Rg:=⟨r.tok,r.b,r.top,false⟩
theorem r0i (r:Rg)(h:SmR r):Sp Tryz.prog 44 [k0F r] [] (Is (k0F (r0j r))):=by
 refine yH Tryz.func44 _ Tryz.ntmps44 (fun w0 R0=> ?_)
 refine zC (zq ?_)
 refine z9 ?_
 intro B1
 refine zd ?_
 intro B2
 refine zH (zn (zC (zq ?_)))
 refine zw ?_
 refine vO (xD rfl Tryz.func87 rfl rfl rfl (n0m r h)) ?_
 refine za 1 (zH (zn (zC (zq ?_))))
 refine zt ?_
 refine za 1 (zH (zn (zC (zq ?_))))
 refine zw ?_
 refine za 0 (zH (zn (y3 ?_)))
 refine AQ.retCell rfl rfl (by repeat(exact List.Mem.head _)) (by rfl) rfl nS (⟨rfl,rfl⟩)
theorem o0D (r:Rg):Sp Tryz.prog 45 [k0F r] [] (Is (k0F (r0j r))):=by
 refine yH Tryz.func45 _ Tryz.ntmps45 (fun w0 R0=> ?_)
 refine zC (zq ?_)
 refine z9 ?_
 intro B1
 refine zd ?_
 intro B2
 refine zH (zn (zC (zq ?_)))
 refine zt ?_
 refine zp ?_
 refine zt ?_
 refine zw ?_
 refine zt ?_
 refine zp ?_
 refine zM ?_
 refine za 0 (zH (zn (y3 ?_)))
 refine AQ.retCell rfl rfl (by repeat(exact List.Mem.head _)) (by rfl) rfl nS (⟨rfl,rfl⟩)
theorem f0m (r:Rg):Sp Tryz.prog 42 [k0F r,k0F r] [] (Is (.val (.bool true))):=by
 refine yH Tryz.func42 _ Tryz.ntmps42 (fun w0 R0=> ?_)
 refine zC (zq ?_)
 refine z9 ?_
 intro B1
 refine z9 ?_
 intro B2
 refine zc (zH (zn (zC (zq ?_))))
 refine zt ?_
 refine zp ?_
 refine zt ?_
 refine zA ?_
 refine vO (xD rfl Tryz.func31 rfl rfl rfl (a0Y _ _)) ?_
 refine zb ?_
 refine zK ?_
 refine AO.opG rfl rfl rfl (fun hp=>wP 11 rfl (by exact hp) zj) ?_
 refine zK ?_
 refine AO.opG rfl rfl rfl (fun hp=>wP 13 rfl (by exact hp) zy) ?_
 refine AO.opG rfl rfl rfl (fun hp=>wP 12 rfl (by exact hp) (wP 14 rfl (by exact hp) (xD rfl Tryz.func19 rfl rfl rfl (n0V r.b)))) ?_
 refine zN ?_
 refine zb ?_
 refine zK ?_
 refine zT 18 ?_
 refine zK ?_
 refine zu 20 ?_
 refine AO.opG rfl rfl rfl (fun hp=>wP 19 rfl (by exact hp) (wP 21 rfl (by exact hp) (O.eql rfl rfl rfl (by exact beq_iff_eq.2 (by omega))))) ?_
 refine zN ?_
 refine zb ?_
 refine zK ?_
 refine zT 25 ?_
 refine zK ?_
 refine zu 27 ?_
 refine AO.opG rfl rfl rfl (fun hp=>wP 26 rfl (by exact hp) (wP 28 rfl (by exact hp) (O.eqlB rfl rfl rfl (by rfl)))) ?_
 refine zN ?_
 refine zc (zH (zn (y3 ?_)))
 refine vm rfl rfl nS (⟨by simp,rfl⟩)
abbrev OBS (m:Msg):Bool:=(d0v m.opts 6).isSome
abbrev i0F (n top:Int):Prop:=(0≤n∧n≤top)∨(n<0∧top≠ -1)
noncomputable def k0V (c:Cx)(r:Rg)(m:Msg):Msg×Rg×Int:=
 if r.live=false then(Msg.none,Rg.none,15)else if m.tok≠r.tok then(Msg.none,Rg.none,36)else
 if(orR c r.b m).2.2≠0 then(Msg.none,Rg.none,(orR c r.b m).2.2)else
 if OBS (orR c r.b m).1=true∧(orR c r.b m).2.1<0 then(Msg.none,Rg.none,4)else
 if i0F (orR c r.b m).2.1 r.top then(Msg.none,Rg.none,33)else
 ((orR c r.b m).1,⟨r.tok,r.b,(if 0≤(orR c r.b m).2.1 then(orR c r.b m).2.1 else r.top),OBS (orR c r.b m).1⟩,0)
abbrev t0s (r:Msg×Rg×Int):AV:= .tup [b0n r.1,k0F r.2.1,.val (.int .i64 r.2.2)]
theorem q0s {c:Cx}{r:Rg}{m:Msg}(h:r.live=false):k0V c r m=(Msg.none,Rg.none,15):=if_pos h
theorem q0r {c:Cx}{r:Rg}{m:Msg}(h:r.live=true)(h2:m.tok≠r.tok):k0V c r m=(Msg.none,Rg.none,36):=(if_neg (by rw[h];simp)).trans (if_pos h2)
theorem q0q {c:Cx}{r:Rg}{m:Msg}(h:r.live=true)(h2:m.tok=r.tok)(h3:(orR c r.b m).2.2≠0):k0V c r m=(Msg.none,Rg.none,(orR c r.b m).2.2):=(if_neg (by rw[h];simp)).trans ((if_neg (fun g=>g h2)).trans (if_pos h3))
theorem q0p {c:Cx}{r:Rg}{m:Msg}(h:r.live=true)(h2:m.tok=r.tok)(h3:(orR c r.b m).2.2=0)(h4:OBS (orR c r.b m).1=true∧(orR c r.b m).2.1<0):k0V c r m=(Msg.none,Rg.none,4):=(if_neg (by rw[h];simp)).trans ((if_neg (fun g=>g h2)).trans ((if_neg (fun g=>g h3)).trans (if_pos h4)))
theorem q0o {c:Cx}{r:Rg}{m:Msg}(h:r.live=true)(h2:m.tok=r.tok)(h3:(orR c r.b m).2.2=0)(h4: ¬(OBS (orR c r.b m).1=true∧(orR c r.b m).2.1<0))(h5:i0F (orR c r.b m).2.1 r.top):k0V c r m=(Msg.none,Rg.none,33):=(if_neg (by rw[h];simp)).trans ((if_neg (fun g=>g h2)).trans ((if_neg (fun g=>g h3)).trans ((if_neg h4).trans (if_pos h5))))
theorem q0n {c:Cx}{r:Rg}{m:Msg}(h:r.live=true)(h2:m.tok=r.tok)(h3:(orR c r.b m).2.2=0)(h4: ¬(OBS (orR c r.b m).1=true∧(orR c r.b m).2.1<0))(h5: ¬i0F (orR c r.b m).2.1 r.top):k0V c r m=((orR c r.b m).1,⟨r.tok,r.b,(if 0≤(orR c r.b m).2.1 then(orR c r.b m).2.1 else r.top),OBS (orR c r.b m).1⟩,0):=(if_neg (by rw[h];simp)).trans ((if_neg (fun g=>g h2)).trans ((if_neg (fun g=>g h3)).trans ((if_neg h4).trans (if_neg h5))))
theorem m0V {c:Cx}{b:Bd}{m:Msg}: -1≤(orR c b m).2.1∧(orR c b m).2.1≤1099511627775:=by
 have k0: -1≤(0:Int)∧(0:Int)≤1099511627775:=by decide
 by_cases h3:(a0R m).2=0
 ·have hv:=h0P h3
  obtain⟨⟨p1,p2, -, -⟩, -⟩:=hv
  unfold orR
  (repeat' split)<;>first|exact⟨p1,p2⟩|exact k0
 unfold orR
 split
 ·exact k0
 split
 ·exact k0
 exact k0
theorem k0U (c:Cx)(r:Rg)(m:Msg)(hr:SmR r)(hm:SmT m):Sp Tryz.prog 40 [h0w c,k0F r,b0n m] [] (Is (t0s (k0V c r m))):=by
 have hso:=m0U (c:=c) (b:=r.b) hm.1
 have hpv:=m0V (c:=c) (b:=r.b) (m:=m)
 refine yH Tryz.func40 _ Tryz.ntmps40 (fun w0 R0=> ?_)
 refine zC (zq ?_)
 refine z9 ?_
 intro B1
 refine z9 ?_
 intro B2
 refine z9 ?_
 intro B3
 refine zd ?_
 intro B4
 refine zd ?_
 intro B5
 refine zc (zH (zn (zC (zC (zq ?_)))))
 refine zt ?_
 refine zp ?_
 refine xo (zH (zn ?_))
 refine ym (fun h1=> ?_) (fun h1=> ?_)<;>(try simp only[vU]at h1)
 ·rw[q0s h1]
  refine zC (zq ?_)
  refine zM ?_
  refine zM ?_
  refine za 1 ?_
  refine za 0 ?_
  refine zc (zH (zn (y3 (xh ?_))))
  refine x9 xt zk (⟨rfl,rfl⟩)
 refine yU (zn (zC (zC (zq ?_))))
 refine zt ?_
 refine zp ?_
 refine zt ?_
 refine zp ?_
 refine vO (xD rfl Tryz.func85 rfl rfl rfl (j0M _ _)) ?_
 refine xo (zH (zn ?_))
 refine ym (fun h2=> ?_) (fun h2=> ?_)<;>(try simp only[vU]at h2)
 ·rw[q0r h1 h2]
  refine zC (zq ?_)
  refine zM ?_
  refine zM ?_
  refine za 1 ?_
  refine za 0 ?_
  refine zc (zH (zn (y3 (xh ?_))))
  refine x9 xt zk (⟨rfl,rfl⟩)
 refine yU (zn (zC (zq ?_)))
 refine zw ?_
 refine zt ?_
 refine zw ?_
 refine zw ?_
 refine vO (xD rfl Tryz.func48 rfl rfl rfl (t0F c r.b m hm)) ?_
 refine zb ?_
 refine zW ?_
 refine zW ?_
 refine zW ?_
 refine zd ?_
 intro B6
 refine za 0 ?_
 refine zc ?_
 refine zc (zH (zn (zC (zC (zq ?_)))))
 refine zb ?_
 refine y8 (zH (zn ?_))
 refine ym (fun h3=> ?_) (fun h3=> ?_)<;>(try simp only[vU]at h3)
 ·rw[q0q h1 h2 h3]
  refine zC (zq ?_)
  refine zM ?_
  refine zM ?_
  refine zb ?_
  refine za 2 ?_
  refine za 1 ?_
  refine zc (zH (zn (y3 (xh ?_))))
  refine x9 xj zk (⟨rfl,rfl⟩)
 refine yU (zn (zC (zq ?_)))
 refine zI ?_
 refine vO (xD rfl Tryz.func86 rfl rfl rfl (s0c (orR c r.b m).1 6 hso.1 hso.2)) ?_
 refine zb ?_
 refine zW ?_
 refine zW ?_
 refine zc ?_
 refine zc (zH (zn (zC (zC (zq ?_)))))
 refine zb ?_
 refine zb ?_
 refine yl ?_
 refine AO.opG rfl rfl rfl (fun hp=>wP 48 rfl (by exact hp) yp) ?_
 refine zN (zH (zn ?_))
 refine ym (fun h4=> ?_) (fun h4=> ?_)<;>(try simp only[vU]at h4)
 ·rw[q0p h1 h2 h3 ⟨h4.1,by omega⟩]
  refine zC (zq ?_)
  refine zM ?_
  refine zM ?_
  refine za 2 ?_
  refine za 1 ?_
  refine zc (zH (zn (y3 (xh ?_))))
  refine x9 xj zk (⟨rfl,rfl⟩)
 have h4': ¬(OBS (orR c r.b m).1=true∧(orR c r.b m).2.1<0):=fun g=>by
  have:=h4 g.1
  omega
 refine yU (zn (zC (zC (zq ?_))))
 refine zb ?_
 refine xR ?_
 refine zb ?_
 refine yl ?_
 refine zK ?_
 refine zT 57 ?_
 refine AO.opG rfl rfl rfl (fun hp=>wP 56 rfl (by exact hp) (wP 58 rfl (by exact hp) wo)) ?_
 refine zN ?_
 refine zb ?_
 refine yl ?_
 refine AO.opG rfl rfl rfl (fun hp=>wP 62 rfl (by exact hp) yp) ?_
 refine wG 63 ?_
 refine zK ?_
 refine zT 65 ?_
 refine xF 66 ?_
 refine wI 64 ?_
 refine zG (zH (zn ?_))
 refine ym (fun h5=> ?_) (fun h5=> ?_)<;>(try simp only[vU]at h5)
 ·rw[q0o h1 h2 h3 h4' (by exact h5)]
  refine zC (zq ?_)
  refine zM ?_
  refine zM ?_
  refine za 2 ?_
  refine za 1 ?_
  refine zc (zH (zn (y3 (xh ?_))))
  refine x9 xj zk (⟨rfl,rfl⟩)
 have h5': ¬i0F (orR c r.b m).2.1 r.top:=fun g=>by
  rcases g with⟨g1,g2⟩|⟨g1,g2⟩
  ·have:=h5.1 g1;omega
  exact g2 (h5.2 g1)
 have e6:=q0n h1 h2 h3 h4' h5'
 refine yU (zn (zC (zq ?_)))
 refine zw ?_
 refine vO (xD rfl Tryz.func87 rfl rfl rfl (n0m r hr)) ?_
 refine za 4 (zH (zn (zC (zC (zq ?_)))))
 refine zb ?_
 refine xR (zH (zn ?_))
 refine ym (fun h6=> ?_) (fun h6=> ?_)<;>(try simp only[vU]at h6)
 ·rw[if_pos h6]at e6
  rw[e6]
  refine zq ?_
  refine zb ?_
  refine zt ?_
  refine za 4 (zH (zn (zC (zq ?_))))
  refine zb ?_
  refine zt ?_
  refine za 4 (zH (zn (zC ?_)))
  refine AW.regionM [(0,false),(1,false),(2,true),(3,true),(4,false)] (by kernel_rfl) (by kernel_rfl) (by exact(by exact a0h 6 2 rfl rfl (by exact a0h 7 1 rfl rfl a0c))) ?_
  dsimp only[List.eraseIdx]
  refine yR ?_
  refine zV ?_
  refine xU _ (fun w0 R0=> ?_)
  refine za 0 (AM.okN ?_)
  dsimp only[a0w]
  refine xU _ (fun w0 R0=> ?_)
  refine za 1 (AM.okN ?_)
  dsimp only[a0w]
  refine we ?_
  refine vn ?_
  dsimp only[cA,cN]
  refine zn (y3 ?_)
  refine x9 zQ yQ (⟨rfl,rfl⟩)
 rw[if_neg (by omega)]at e6
 rw[e6]
 refine yU (zn (zC (zq ?_)))
 refine zb ?_
 refine zt ?_
 refine za 4 (zH (zn (zC ?_)))
 refine AW.regionM [(0,false),(1,false),(2,true),(3,true),(4,false)] (by kernel_rfl) (by kernel_rfl) (by exact(by exact a0h 6 2 rfl rfl (by exact a0h 7 1 rfl rfl a0c))) ?_
 dsimp only[List.eraseIdx]
 refine yR ?_
 refine zV ?_
 refine xU _ (fun w0 R0=> ?_)
 refine za 0 (AM.okN ?_)
 dsimp only[a0w]
 refine xU _ (fun w0 R0=> ?_)
 refine za 1 (AM.okN ?_)
 dsimp only[a0w]
 refine we ?_
 refine vn ?_
 dsimp only[cA,cN]
 refine zn (y3 ?_)
 refine x9 zQ yQ (⟨rfl,rfl⟩)
theorem i0R (c:Cx)(r:Rg)(m:Msg)(hm:SmT m):Sp Tryz.prog 41 [h0w c,k0F r,b0n m] [] (Is (t0s (k0V c r m))):=by
 have hso:=m0U (c:=c) (b:=r.b) hm.1
 have hpv:=m0V (c:=c) (b:=r.b) (m:=m)
 refine yH Tryz.func41 _ Tryz.ntmps41 (fun w0 R0=> ?_)
 refine zC (zq ?_)
 refine z9 ?_
 intro B1
 refine z9 ?_
 intro B2
 refine z9 ?_
 intro B3
 refine zd ?_
 intro B4
 refine zd ?_
 intro B5
 refine zc (zH (zn (zC (zq ?_))))
 refine zM ?_
 refine zd ?_
 intro B6
 refine za 0 (zH (zn (zC (zC (zq ?_)))))
 refine zt ?_
 refine zp ?_
 refine xo (zH (zn ?_))
 refine ym (fun h1=> ?_) (fun h1=> ?_)<;>(try simp only[vU]at h1)
 ·rw[q0s h1]
  refine zC ?_
  refine AW.regionM [(0,false),(1,false),(2,true),(3,true),(4,false)] (by kernel_rfl) (by kernel_rfl) (by exact(by exact a0h 6 2 rfl rfl (by exact a0h 7 1 rfl rfl a0c))) ?_
  dsimp only[List.eraseIdx]
  refine vQ rfl yb ?_
  refine yR ?_
  refine xU _ (fun w0 R0=> ?_)
  refine za 0 (AM.okN ?_)
  dsimp only[a0w]
  refine xU _ (fun w0 R0=> ?_)
  refine za 1 (AM.okN ?_)
  dsimp only[a0w]
  refine we ?_
  refine vn ?_
  dsimp only[cA,cN]
  refine zn (y3 (xh ?_))
  refine x9 zQ zk (⟨rfl,rfl⟩)
 refine yU (zn (zC (zC (zq ?_))))
 refine zt ?_
 refine zp ?_
 refine zt ?_
 refine zp ?_
 refine vO (xD rfl Tryz.func31 rfl rfl rfl (a0Y _ _)) ?_
 refine xo (zH (zn ?_))
 refine ym (fun h2=> ?_) (fun h2=> ?_)<;>(try simp only[vU]at h2)
 ·rw[q0r h1 h2]
  refine zC ?_
  refine AW.regionM [(0,false),(1,false),(2,true),(3,true),(4,false)] (by kernel_rfl) (by kernel_rfl) (by exact(by exact a0h 6 2 rfl rfl (by exact a0h 7 1 rfl rfl a0c))) ?_
  dsimp only[List.eraseIdx]
  refine vQ rfl yb ?_
  refine yR ?_
  refine xU _ (fun w0 R0=> ?_)
  refine za 0 (AM.okN ?_)
  dsimp only[a0w]
  refine xU _ (fun w0 R0=> ?_)
  refine za 1 (AM.okN ?_)
  dsimp only[a0w]
  refine we ?_
  refine vn ?_
  dsimp only[cA,cN]
  refine zn (y3 (xh ?_))
  refine x9 zQ zk (⟨rfl,rfl⟩)
 refine yU (zn (zC (zq ?_)))
 refine zw ?_
 refine zt ?_
 refine zw ?_
 refine zw ?_
 refine vO (xD rfl Tryz.func49 rfl rfl rfl (t0o c r.b m hm)) ?_
 refine zb ?_
 refine zW ?_
 refine zW ?_
 refine zW ?_
 refine zd ?_
 intro B7
 refine za 0 ?_
 refine zc ?_
 refine zc (zH (zn (zC (zC (zq ?_)))))
 refine zb ?_
 refine y8 (zH (zn ?_))
 refine ym (fun h3=> ?_) (fun h3=> ?_)<;>(try simp only[vU]at h3)
 ·rw[q0q h1 h2 h3]
  refine zC ?_
  refine AW.regionM [(0,false),(1,false),(2,false),(3,true),(4,true),(5,false)] (by kernel_rfl) (by kernel_rfl) (by exact(by exact a0h 6 3 rfl rfl (by exact a0h 7 2 rfl rfl a0c))) ?_
  dsimp only[List.eraseIdx]
  refine vQ rfl yb ?_
  refine zV ?_
  refine y0 ?_
  refine xU _ (fun w0 R0=> ?_)
  refine za 0 (AM.okN ?_)
  dsimp only[a0w]
  refine xU _ (fun w0 R0=> ?_)
  refine za 1 (AM.okN ?_)
  dsimp only[a0w]
  refine we ?_
  refine vn ?_
  dsimp only[cA,cN]
  refine zn (y3 (xh ?_))
  refine x9 zQ zk (⟨rfl,rfl⟩)
 refine yU (zn (zC (zq ?_)))
 refine zI ?_
 refine vO (xD rfl Tryz.func88 rfl rfl rfl (r0y (orR c r.b m).1 6 hso.1 hso.2)) ?_
 refine zb ?_
 refine zW ?_
 refine zW ?_
 refine zc ?_
 refine zc (zH (zn (zC (xb (zC (zq ?_))))))
 refine zb ?_
 refine zb ?_
 refine yl ?_
 refine xe 52 ?_
 refine zN ?_
 refine zc (zH (zn ?_))
 refine ym (fun h4=> ?_) (fun h4=> ?_)<;>(try simp only[vU]at h4)
 ·rw[q0p h1 h2 h3 ⟨h4.1,by omega⟩]
  refine zC ?_
  refine AW.regionM [(0,false),(1,false),(2,true),(3,true),(4,false)] (by kernel_rfl) (by kernel_rfl) (by exact(by exact a0h 6 3 rfl rfl (by exact a0h 7 2 rfl rfl a0c))) ?_
  dsimp only[List.eraseIdx]
  refine vQ rfl yb ?_
  refine zV ?_
  refine xU _ (fun w0 R0=> ?_)
  refine za 0 (AM.okN ?_)
  dsimp only[a0w]
  refine xU _ (fun w0 R0=> ?_)
  refine za 1 (AM.okN ?_)
  dsimp only[a0w]
  refine we ?_
  refine vn ?_
  dsimp only[cA,cN]
  refine zn (y3 ?_)
  refine wg (xh ?_)
  refine x9 zQ zk (⟨rfl,rfl⟩)
 have h4': ¬(OBS (orR c r.b m).1=true∧(orR c r.b m).2.1<0):=fun g=>by
  have:=h4 g.1
  omega
 refine zC (zq ?_)
 refine zb ?_
 refine xR ?_
 refine zb ?_
 refine yl ?_
 refine zK ?_
 refine zT 62 ?_
 refine AO.opG rfl rfl rfl (fun hp=>wP 61 rfl (by exact hp) (wP 63 rfl (by exact hp) wo)) ?_
 refine zN ?_
 refine zb ?_
 refine yl ?_
 refine xe 67 ?_
 refine wG 68 ?_
 refine zK ?_
 refine zT 70 ?_
 refine xF 71 ?_
 refine wI 69 ?_
 refine zG ?_
 refine zc (zH (zn ?_))
 refine ym (fun h5=> ?_) (fun h5=> ?_)<;>(try simp only[vU]at h5)
 ·rw[q0o h1 h2 h3 h4' (by(rcases h5 with⟨g1,g2⟩|⟨g1,g2⟩;exact .inl ⟨g1,g2⟩;exact .inr ⟨by omega,g2⟩))]
  refine zC ?_
  refine AW.regionM [(0,false),(1,false),(2,true),(3,true),(4,false)] (by kernel_rfl) (by kernel_rfl) (by exact(by exact a0h 6 3 rfl rfl (by exact a0h 7 2 rfl rfl a0c))) ?_
  dsimp only[List.eraseIdx]
  refine vQ rfl yb ?_
  refine zV ?_
  refine xU _ (fun w0 R0=> ?_)
  refine za 0 (AM.okN ?_)
  dsimp only[a0w]
  refine xU _ (fun w0 R0=> ?_)
  refine za 1 (AM.okN ?_)
  dsimp only[a0w]
  refine we ?_
  refine vn ?_
  dsimp only[cA,cN]
  refine zn (y3 ?_)
  refine wg (xh ?_)
  refine x9 zQ zk (⟨rfl,rfl⟩)
 have h5': ¬i0F (orR c r.b m).2.1 r.top:=fun g=>by
  rcases g with⟨g1,g2⟩|⟨g1,g2⟩
  ·have:=h5.1 g1;omega
  exact g2 (h5.2 (by omega))
 have e6:=q0n h1 h2 h3 h4' h5'
 refine yU (xA (zn (zC (zq ?_))))
 refine zw ?_
 refine zd ?_
 intro B8
 refine za 0 (zH (zn (zC (zC (zq ?_)))))
 refine zb ?_
 refine xR (zH (zn ?_))
 refine ym (fun h6=> ?_) (fun h6=> ?_)<;>(try simp only[vU]at h6)
 ·rw[if_pos h6]at e6
  rw[e6]
  refine zq ?_
  refine zb ?_
  refine zt ?_
  refine za 0 (zH (zn (zC (zq ?_))))
  refine zb ?_
  refine zt ?_
  refine za 0 (zH (zn (zC ?_)))
  refine AW.regionM [(0,false),(1,false),(2,true),(3,true),(4,false)] (by kernel_rfl) (by kernel_rfl) (by exact(by exact a0h 6 4 rfl rfl (by exact a0h 7 3 rfl rfl a0c))) ?_
  dsimp only[List.eraseIdx]
  refine zV ?_
  refine yR ?_
  refine xU _ (fun w0 R0=> ?_)
  refine za 0 (AM.okN ?_)
  dsimp only[a0w]
  refine xU _ (fun w0 R0=> ?_)
  refine za 1 (AM.okN ?_)
  dsimp only[a0w]
  refine we ?_
  refine vn ?_
  dsimp only[cA,cN]
  refine zn (y3 ?_)
  refine x9 zQ yQ (⟨rfl,rfl⟩)
 rw[if_neg (by omega)]at e6
 rw[e6]
 refine yU (zn (zC (zq ?_)))
 refine zb ?_
 refine zt ?_
 refine za 0 (zH (zn (zC ?_)))
 refine AW.regionM [(0,false),(1,false),(2,true),(3,true),(4,false)] (by kernel_rfl) (by kernel_rfl) (by exact(by exact a0h 6 4 rfl rfl (by exact a0h 7 3 rfl rfl a0c))) ?_
 dsimp only[List.eraseIdx]
 refine zV ?_
 refine yR ?_
 refine xU _ (fun w0 R0=> ?_)
 refine za 0 (AM.okN ?_)
 dsimp only[a0w]
 refine xU _ (fun w0 R0=> ?_)
 refine za 1 (AM.okN ?_)
 dsimp only[a0w]
 refine we ?_
 refine vn ?_
 dsimp only[cA,cN]
 refine zn (y3 ?_)
 refine x9 zQ yQ (⟨rfl,rfl⟩)
abbrev Win:=Wi.Win
abbrev v0A (v:Cmp):Prop:=0≤v.piv∧v.hasKid=true∧v.group=false
abbrev s0O (c:Cx)(v:Cmp):Prop:=v.kid=c.inp.rcp∧v.hasCtx=c.inp.has∧v.ctx=c.inp.ctx
noncomputable def oqP (c:Cx)(m:Msg):Msg×Int:=h0h c.rk m (b0U c.com (a0R m).1.kid (a0R m).1.piv).1 (k0G (a0R m).1.kid (a0R m).1.piv).1 true
abbrev v0G (w:Win)(n:Int):Prop:=w.l=true∨Wi.check w n=0
abbrev s0S (e:Int):Msg×Bd×Win×Int:=(Msg.none,Bd.none,Wi.zeroW,e)
noncomputable def oqR (c:Cx)(w:Win)(m:Msg):Msg×Bd×Win×Int:=
 if ¬(f0Z c∧Wi.valid w=true)then s0S 1 else
 if(a0R m).2≠0 then s0S (a0R m).2 else if ¬v0A (a0R m).1 then s0S 4 else if ¬s0O c (a0R m).1 then s0S 18 else
 if ¬v0G w (a0R m).1.piv then s0S (Wi.check w (a0R m).1.piv)else
 if(oqP c m).2≠0 then s0S (oqP c m).2 else((oqP c m).1,⟨(a0R m).1.ctx,(a0R m).1.kid,(a0R m).1.piv⟩,(if w.l=true then w else Wi.acc w (a0R m).1.piv),0)
end Go.Proofs.YtojomcdjcpmnkaaGreat.By
namespace Go.Proofs.YtojomcdjcpmnkaaGreat.Wi
open Go.RowKit L A Dk W
attribute [local irreducible] AW AQ AO
end Go.Proofs.YtojomcdjcpmnkaaGreat.Wi
namespace Go.Proofs.YtojomcdjcpmnkaaGreat.By
open Go.RowKit L A Dk
attribute [local irreducible] AW AQ AO
abbrev SmC (m:Msg):Prop:=m.tok.length≤1000∧m.pay.length≤10000∧m.opts.length≤100∧ ∀o∈m.opts,o.val.length≤10000
theorem c0t:SmC Msg.none:=⟨by simp[Msg.none],by simp[Msg.none],by simp[Msg.none],fun o ho=>by cases ho⟩
theorem m0c {m:Msg}(h:ValM m):SmC m:=by
 obtain⟨h1,h2,h3,h4⟩:=ValM.sm h
 refine⟨by omega,by omega,by omega,fun o ho=> ?_⟩
 obtain⟨k,hk,rfl⟩:=List.getElem_of_mem ho
 have:=h4 k hk
 have e:oat m.opts k=m.opts[k]:=by simp[hk]
 rw[e]at this;omega
theorem m0d {m:Msg}(h:f0Y m):SmC m:=by
 obtain⟨⟨h1,h2,h3⟩,h4⟩:=h
 refine⟨by omega,by omega,by omega,fun o ho=> ?_⟩
 obtain⟨k,hk,rfl⟩:=List.getElem_of_mem ho
 have:=h4 k hk
 have e:oat m.opts k=m.opts[k]:=by simp[hk]
 rw[e]at this;omega
theorem r0l {m:Msg}(h:SmC m):SmT m:=by
 obtain⟨h1,h2,h3,h4⟩:=h
 exact⟨⟨by omega,by omega,by omega,fun o ho=>by have:=h4 o ho;omega⟩,by omega⟩
theorem u0U {m:Msg}(h:SmC m):SmM m:=by
 obtain⟨h1,h2,h3,h4⟩:=h
 exact⟨by omega,by omega,by omega,fun o ho=>by have:=h4 o ho;omega⟩
theorem m0m (outer inner:Msg)(v:Cmp)(key nonce aad:List UInt8):SmC (g0Y outer inner v key nonce aad).1:=by
 by_cases h1:(b0J inner).2≠0
 ·rw[m0q h1];exact c0t
 have h1:=Decidable.not_not.1 h1
 by_cases h2:d0G key nonce aad (b0J inner).1 8≠0
 ·rw[m0p h1 h2];exact c0t
 have h2:=Decidable.not_not.1 h2
 by_cases h3:(g0I (q0u outer inner v key nonce aad)).2≠0
 ·rw[m0o h1 h2 h3];exact c0t
 have h3:=Decidable.not_not.1 h3
 rw[m0n h1 h2 h3]
 by_cases hv:ValM (q0u outer inner v key nonce aad)
 ·exact m0c hv
 rw[g0I,if_neg hv]at h3;cases h3
theorem m0J (m:Msg)(v:Cmp)(key nonce aad:List UInt8):SmC (o0Z m v key nonce aad).1:=by
 by_cases h:(a0Q m).2.2≠0
 ·rw[m0L h];exact c0t
 rw[m0K (Decidable.not_not.1 h)];exact m0m ..
theorem h0N (c:Cx)(b:Bd)(m:Msg)(piv:Int):SmC (h0b c b m piv).1:=by
 unfold h0b
 split
 ·exact c0t
 split
 ·exact c0t
 split
 ·exact c0t
 exact m0J ..
abbrev w0j (m:Msg)(n:Int)(vs:List (List UInt8)):Msg:=⟨m.ty,m.code,m.id,m.tok,h0z m.opts n vs,m.pay⟩
theorem r0Q {m:Msg}(h:SmC m){x:List UInt8}(hx:x.length≤20000):SmT ⟨m.ty,m.code,m.id,m.tok,m.opts,x⟩:=by
 obtain⟨h1,h2,h3,h4⟩:=h
 exact⟨⟨by show m.tok.length≤_;omega,by show x.length≤_;omega,by show m.opts.length≤_;omega,fun o ho=>by have:=h4 o ho;omega⟩,by show x.length≤_;omega⟩
theorem q0F {c:Cx}(h:f0Z c):SmX c:=by
 obtain⟨⟨⟨q1,q2,q3,q4,q5⟩,k6,k7,k8⟩,k9,k10,k11⟩:=h
 exact⟨⟨by omega,by omega,by omega,by omega,by omega⟩,by omega,by omega,by omega⟩
theorem u0d {q:Bool}{m:Msg}(h:DM q m):SmC m:=m0c h.val
theorem d0q (c:Cx)(b:Bd)(m:Msg)(piv:Int):Sp Tryz.prog 35 [h0w c,d0X b,b0n m,.val (.int .i64 piv)] [] (Is (h0O (h0b c b m piv))):=by
 have hrs:=b0G m.code
 rw[t0n]at hrs
 exact h0K c b m piv hrs
theorem r0T {c:Cx}{b:Bd}{m:Msg}(h:SmS m):(orR c b m).1.opts.length≤140737488355328:=by
 have:=(m0U (c:=c) (b:=b) h).1;omega
theorem h0a (n:Int)(h:0≤n∧n<16777216):Sp Tryz.prog 84 [.val (.int .i64 n)] [] (s0N (j0C 20000000)):=by
 refine yH Tryz.func84 _ Tryz.ntmps84 (fun w0 R0=> ?_)
 refine zC (zq ?_)
 refine zc (zH (zn (zC (zC (zq ?_)))))
 refine zb ?_
 refine vO (O.lss rfl rfl rfl (by exact c0p (by omega))) ?_
 refine zb ?_
 refine zb ?_
 refine vO (O.gtr rfl rfl rfl (by exact c0p (by omega))) ?_
 refine vO (O.pickF rfl rfl rfl) (zH (zn ?_))
 refine ym (fun h0=> ?_) (fun h0=> ?_)<;>(try simp only[vU]at h0)
 ·exact absurd h0 (by simp)
 refine yU (zn (zC (zq ?_)))
 refine zc (zH (zn (zC (xb ?_))))
 refine AW.g ?_
 refine G.nilRo 3 rfl ?_
 refine AW.u ?_
 refine AW.loopK [] (fun nn E H=> ∃(z:Int) (b:List UInt8),(0≤z∧(b.length:Int)+z≤n)∧nn=z.toNat∧E= [(0,.val (.int .i64 z)),(3,roB b)]∧H= []) _ (⟨n,[],by simp<;>omega,rfl,rfl,rfl⟩) (by repeat(exact a0m)) (by repeat(first|exact a0m|refine a0k rfl ?_)) (by repeat(exact a0B)) ?_
 rintro nn E H ⟨z,b,hz,rfl,rfl,rfl⟩
 dsimp only[cA,cN]
 refine zC (zC (zq ?_))
 refine zb ?_
 refine yN (zH (zn ?_))
 refine ym (fun h1=> ?_) (fun h1=> ?_)<;>(try simp only[vU]at h1)
 ·have hd:z/256+1≤z:=by omega
  refine yU (zn (zC (xb (zq ?_))))
  refine zb ?_
  refine y4 ?_
  refine zU ?_
  intro B1
  refine AO.g ?_
  refine xK B1 1 1 0 rfl rfl rfl (Nat.le_refl _) ?_
  refine AO.u ?_
  dsimp only[List.set]
  refine zb ?_
  refine zF 0 ?_
  intro V2 hV2
  refine zc (zH (xA (zn (zq ?_))))
  refine zb ?_
  refine wZ ?_
  refine zc (zH ?_)
  refine AQ.g ?_
  refine yj 0 [3] ?_
  refine AQ.u ?_
  try dsimp only[List.map,List.eraseIdx,cA,cN]
  refine AQ.g ?_
  refine G.re 3 (roB (u8 z::b)) (congrArg some (b0r (by rw[cL];omega) rfl)) ?_
  refine AQ.u ?_
  refine wq _ _ _ (by omega) (⟨z/256,u8 z::b,by simp;omega,rfl,rfl,rfl⟩)
 refine wm ?_
 refine xY ?_
 refine wa ?_
 refine xq (zn (zC (zq ?_)))
 refine zb ?_
 refine zc (zH (zn (y3 ?_)))
 refine vm rfl rfl nS (⟨⟨b,by omega,rfl⟩,rfl⟩)
def x0i (r:AV):Prop:= ∃(x:Msg) (e:Int),SmC x∧r= .tup [b0n x,.val (.int .i64 e)]
theorem m0u (c:Cx)(o:Obs)(m:Msg)(n:Int)(hm:SmC m)(ho:o.tok.length≤1000000)(hn:0≤n∧n≤1099511627775):Sp Tryz.prog 37 [h0w c,g0l o,b0n m,.val (.int .i64 n)] [] (s0N x0i):=by
 have hset: ∀x:List UInt8,x.length≤20000000→Sp Tryz.prog 25 [b0n m,.val (.int .i64 6),.ro false 1 [roB x]] [] (Is (b0n (w0j m 6 [x]))):=fun x hx=>by
  obtain⟨h1,h2,h3,h4⟩:=hm
  exact m0i m 6 [x] (by omega) (by omega) (by omega) (by simp) (fun o ho=>by have:=h4 o ho;omega) (fun v hv=>by obtain rfl:=List.mem_singleton.1 hv;omega)
 refine yH Tryz.func37 _ Tryz.ntmps37 (fun w0 R0=> ?_)
 refine zC (zq ?_)
 refine z9 ?_
 intro B1
 refine z9 ?_
 intro B2
 refine z9 ?_
 intro B3
 refine zd ?_
 intro B4
 refine zc (zH (zn (zC (zC (zq ?_)))))
 refine zb ?_
 refine vO (O.lss rfl rfl rfl (by exact c0p (by omega))) ?_
 refine zb ?_
 refine zb ?_
 refine vO (O.gtr rfl rfl rfl (by exact c0p (by omega))) ?_
 refine vO (O.pickF rfl rfl rfl) (zH (zn ?_))
 refine ym (fun h0=> ?_) (fun h0=> ?_)<;>(try simp only[vU]at h0)
 ·exact absurd h0 (by simp)
 refine yU (zn (zC ?_))
 refine AW.regionA _ (Al.mk' (i:=6) (d:=10) (T:=29) _ rfl rfl rfl rfl rfl (by(dsimp only[List.set,cA,cN,List.take,List.drop];done)) (by rfl)) [(0,false),(1,false),(2,false),(3,true),(4,false),(5,false),(6,true),(7,true)] (by kernel_rfl) (by kernel_rfl) (by exact a0c) ?_
 dsimp only[List.eraseIdx]
 refine va ?_
 refine wW ?_
 refine vR rfl x3 ?_
 refine AN.main _ rfl rfl (fun w0 R0=> ?_)
 refine AO.opN (xD rfl Tryz.func84 rfl rfl rfl (h0a _ (by omega))) rfl rfl rfl ?_
 rintro _ _ ⟨⟨x5,hx5,rfl⟩,rfl⟩
 simp only[cA,cN]
 refine AM.ok ?_
 dsimp only[a0w]
 refine vR rfl y6 ?_
 refine vR rfl (xD rfl Tryz.func25 rfl rfl rfl (hset _ ‹_›)) ?_
 refine AN.box rfl ?_
 intro B6
 dsimp only[Al.he]
 refine AN.main _ rfl rfl (fun w0 R0=> ?_)
 refine za 0 (AM.okN ?_)
 dsimp only[a0w]
 refine AN.nil ?_
 dsimp only[cA,cN]
 refine zn (zC (zq ?_))
 refine zt ?_
 refine zp ?_
 refine vO (xD rfl Tryz.func69 rfl rfl rfl (a0o _ (by omega))) ?_
 refine zt ?_
 refine za 0 (zH (zn (zC (zq ?_))))
 refine zw ?_
 refine zt ?_
 refine zw ?_
 refine zI ?_
 refine zb ?_
 refine vO (xD rfl Tryz.func35 rfl rfl rfl (d0q c ⟨o.ctx,o.kid,o.piv⟩ ⟨m.ty,m.code,m.id,o.tok,h0z m.opts 6 [_],m.pay⟩ n)) ?_
 refine zW ?_
 refine zW ?_
 refine za 1 ?_
 refine zc (zH (zn (y3 ?_)))
 refine AQ.retCT rfl rfl rfl mM (by rfl) rfl nS (⟨⟨_,_,h0N _ _ _ _,rfl⟩,rfl⟩)
theorem k0P (tok:List UInt8)(b:Bd)(h:tok.length≤8):Sp Tryz.prog 34 [roB tok,d0X b] [] (Is (.tup [k0F ⟨tok,b, -1,true⟩,.val (.int .i64 0)])):=by
 have h2:=h0I tok b
 rw[l0M (by omega)]at h2
 exact h2
def n0Q (r:Rg):List AV:=cRg r
theorem j0r (r:Rg):(n0Q r).length=6:=rfl
def v0a (l:List Rg):List AV:=l.flatMap n0Q
def u0Z (l:List Rg):AV:= .ro false l.length (v0a l)
abbrev v0I (l:List Rg)(k:Nat):Rg:=l.getD k Rg.none
theorem t0T {l:List Rg}{k:Nat}(h:k<l.length){j:Nat}(hj:j=k):((v0a l).drop (j*6)).take 6=cRg (v0I l k):=e0m j0r Rg.none h hj
theorem o0R {c:Cx}{r:Rg}{m:Msg}(h:SmS m):(k0V c r m).1.opts.length≤140737488355328:=by
 have h0:Msg.none.opts.length≤140737488355328:=by simp[Msg.none]
 have h1:=r0T (c:=c) (b:=r.b) h
 unfold k0V
 (repeat' split)<;>first|exact h0|exact h1
theorem r0c {m:Msg}(h:SmC m){x:List UInt8}(hx:x.length≤1000):SmC ⟨m.ty,m.code,m.id,x,m.opts,m.pay⟩:=⟨hx,h.2.1,h.2.2.1,h.2.2.2⟩
theorem s0f {z:Int}(h:z≤1099511627775):0≤(if 0<z then z else 0)∧(if 0<z then z else 0)≤1099511627775:=by
 by_cases h0:0<z
 ·rw[if_pos h0];omega
 rw[if_neg h0];omega
theorem h0u {bs:List (List UInt8)}(h:u0o bs=true){v:List UInt8}(hv:v∈bs):v.length≤900:=by
 have h2:=(of_decide_eq_true h).1
 obtain⟨i,hi,rfl⟩:=List.getElem_of_mem hv
 have:=h2 i hi
 have e:bs.getD i []=bs[i]:=by simp[hi]
 rwa [e]at this
set_option maxHeartbeats 8000000 in
theorem g0g (raw:Rg)(m:Msg)(l:List Int)(token:List UInt8)(at' by':Int)(hop:m.opts.length≤maxLen)(hl:l.length≤maxLen)(hby: -9223372036854775808≤by'∧by'≤9223372036854775807):Sp Tryz.prog 5 [k0F raw,b0n m,roI l,roB token,.val (.int .i64 at'),.val (.int .i64 by')] [] (Is (.val (.bool true))):=by
 have hall:Sp Tryz.prog 20 [.ro false 4 [roB raw.tok,roB raw.b.kid,roB raw.b.ctx,roB token]] [] (Is (.val (.bool (u0o [raw.tok,raw.b.kid,raw.b.ctx,token])))):=s0G [raw.tok,raw.b.kid,raw.b.ctx,token]
 refine yH Tryz.func5 _ Tryz.ntmps5 (fun w0 R0=> ?_)
 refine zC (zq ?_)
 refine z9 ?_
 intro B1
 refine z9 ?_
 intro B2
 refine zc (zH (zn (zC (zC (zq ?_)))))
 refine zI ?_
 refine vO (xD rfl Tryz.func9 rfl rfl rfl (m0e m hop)) ?_
 refine xo ?_
 refine zb ?_
 refine zK ?_
 refine zT 43 ?_
 refine zK ?_
 refine AO.opG rfl rfl rfl (fun hp=>wP 45 rfl (by exact hp) zv) ?_
 refine zT 46 ?_
 refine zK ?_
 refine AO.opG rfl rfl rfl (fun hp=>wP 48 rfl (by exact hp) zv) ?_
 refine zT 49 ?_
 refine yl ?_
 refine AO.opG rfl rfl rfl (fun hp=>wP 44 rfl (by exact hp) (wP 47 rfl (by exact hp) (wP 50 rfl (by exact hp) (wP 51 rfl (by exact hp) (OpW.frz wk (by(unfold maxLen;omega))))))) ?_
 refine AO.opG rfl rfl rfl (fun hp=>wP 52 rfl (by exact hp) (xD rfl Tryz.func20 rfl rfl rfl hall)) ?_
 refine xf 53 ?_
 refine zG (zH (zn ?_))
 refine ym (fun h=> ?_) (fun h=> ?_)<;>(try simp only[vU]at h)
 ·refine zC (zq ?_)
  refine vO (xD rfl Tryz.func32 rfl rfl rfl g0O) ?_
  refine zc (zH (zn (y3 (xh ?_))))
  refine yw
 have hsm:SmC m:=m0d h.1
 have htk:token.length≤900:=h0u h.2 (by simp)
 have hsr:SmR raw:=⟨Nat.le_trans (h0u h.2 (by simp)) (by decide),Nat.le_trans (h0u h.2 (by simp)) (by decide),Nat.le_trans (h0u h.2 (by simp)) (by decide)⟩
 refine yU (zn (zC (zq ?_)))
 refine zb ?_
 refine AO.opB (xD rfl Tryz.func11 rfl rfl rfl (t0G _)) rfl rfl rfl ?_
 intro B3
 refine zc (zH (zn (zC (zq ?_))))
 refine zb ?_
 refine AO.callMG 0 rfl rfl Tryz.func12 rfl rfl rfl rfl rfl rfl (j0q _ l _ hl (by exact Nat.zero_le _)) ?_
 rintro _ _ ⟨⟨c4,hc4,rfl⟩,kd4,hkd4,rfl⟩
 dsimp only[cA,cN,List.eraseIdx]
 refine zd ?_
 intro B5
 refine za 0 (zH (zn (zC ?_)))
 refine AW.regionA _ (Al.mk' (i:=9) (d:=15) (T:=42) _ rfl rfl rfl rfl rfl (by(dsimp only[List.set,cA,cN,List.take,List.drop];done)) (by rfl)) [(0,false),(1,false),(2,false),(3,false),(4,false),(5,false),(6,false),(7,true),(8,false),(9,true),(10,true)] (by kernel_rfl) (by kernel_rfl) (by exact(by exact a0h 13 1 rfl rfl a0c)) ?_
 dsimp only[List.eraseIdx]
 refine vR rfl zv ?_
 refine vR rfl zv ?_
 refine vR rfl zl ?_
 refine vR rfl zv ?_
 refine vR rfl zv ?_
 refine vR rfl zl ?_
 refine wW ?_
 refine AN.main _ rfl rfl (fun w0 R0=> ?_)
 refine AO.callMG 0 rfl rfl Tryz.func33 rfl rfl rfl rfl rfl rfl (a0S _ l _ _ hl (by assumption) (by omega) (by omega)) ?_
 rintro _ _ ⟨⟨z6,hz06,hz16,rfl⟩,kd6,hkd6,rfl⟩
 dsimp only[cA,cN,List.eraseIdx]
 refine AM.ok ?_
 dsimp only[a0w]
 refine vR rfl yb ?_
 refine AN.box rfl ?_
 intro B7
 dsimp only[Al.he]
 refine AN.main _ rfl rfl (fun w0 R0=> ?_)
 refine za 0 (AM.okN ?_)
 dsimp only[a0w]
 refine AN.nil ?_
 dsimp only[cA,cN]
 refine zn (zC ?_)
 refine AW.regionA _ (Al.mk' (i:=7) (d:=16) (T:=66) _ rfl rfl rfl rfl rfl (by(dsimp only[List.set,cA,cN,List.take,List.drop];done)) (by rfl)) [(0,false),(2,false),(1,true),(3,false),(4,false),(5,false),(6,false),(7,true),(8,true),(9,false)] (by kernel_rfl) (by kernel_rfl) (by exact(by exact a0h 13 1 rfl rfl a0c)) ?_
 dsimp only[List.eraseIdx]
 refine wW ?_
 refine vR rfl zy ?_
 refine AN.main _ rfl rfl (fun w0 R0=> ?_)
 refine AO.callMG 0 rfl rfl Tryz.func24 rfl rfl rfl rfl rfl rfl (d0T _ l _ 3 hl (by assumption) (by omega)) ?_
 rintro _ _ ⟨⟨x8,hx8,rfl⟩,kd8,hkd8,rfl⟩
 dsimp only[cA,cN,List.eraseIdx]
 refine AM.ok ?_
 dsimp only[a0w]
 refine vR rfl (xD rfl Tryz.func34 rfl rfl rfl (k0P _ ⟨_,_,_⟩ (by omega))) ?_
 refine wW ?_
 refine vR rfl yB ?_
 refine vR rfl yB ?_
 refine AN.box rfl ?_
 intro B9
 dsimp only[Al.he]
 refine AN.main _ rfl rfl (fun w0 R0=> ?_)
 refine za 0 (AM.okN ?_)
 dsimp only[a0w]
 refine vR rfl zi ?_
 refine AN.nil ?_
 dsimp only[cA,cN]
 refine zn (zC (zq ?_))
 refine zb ?_
 refine AO.callMG 1 rfl rfl Tryz.func33 rfl rfl rfl rfl rfl rfl (a0S _ l _ _ hl (by assumption) (by omega) (by omega)) ?_
 rintro _ _ ⟨⟨z10,hz010,hz110,rfl⟩,kd10,hkd10,rfl⟩
 dsimp only[cA,cN,List.eraseIdx]
 refine yG ?_
 refine zb ?_
 refine AO.callMG 0 rfl rfl Tryz.func33 rfl rfl rfl rfl rfl rfl (a0S _ l _ _ hl (by assumption) (by omega) (by omega)) ?_
 rintro _ _ ⟨⟨z11,hz011,hz111,rfl⟩,kd11,hkd11,rfl⟩
 dsimp only[cA,cN,List.eraseIdx]
 refine yN ?_
 refine zt ?_
 refine za 1 ?_
 refine zt ?_
 refine za 1 (zH (zn (zC (zq ?_))))
 refine zb ?_
 refine AO.callMG 0 rfl rfl Tryz.func15 rfl rfl rfl rfl rfl rfl (h0M _ l _ hl (by assumption)) ?_
 rintro _ _ ⟨⟨m12,hm12,rfl⟩,kd12,hkd12,rfl⟩
 dsimp only[cA,cN,List.eraseIdx]
 refine zd ?_
 intro B13
 refine za 0 (zH (zn (zC (zq ?_))))
 refine zt ?_
 refine zp ?_
 refine zt ?_
 refine za 0 (zH (zn (zC (zq ?_))))
 refine zb ?_
 refine AO.callMG 1 rfl rfl Tryz.func33 rfl rfl rfl rfl rfl rfl (a0S _ l _ _ hl (by assumption) (by omega) (by omega)) ?_
 rintro _ _ ⟨⟨z14,hz014,hz114,rfl⟩,kd14,hkd14,rfl⟩
 dsimp only[cA,cN,List.eraseIdx]
 refine yG ?_
 refine zc (zH (zn (zC ?_)))
 refine AW.regionM [(0,false),(1,false),(2,false),(3,false),(4,false),(5,false),(6,false),(7,false),(8,false),(9,true),(10,true),(11,false)] (by kernel_rfl) (by kernel_rfl) (by exact a0c) ?_
 dsimp only[List.eraseIdx]
 refine zV ?_
 refine vQ rfl (xD rfl Tryz.func36 rfl rfl rfl (l0U _ (by exact q0F ‹_›))) ?_
 refine zV ?_
 refine zV ?_
 refine y0 ?_
 refine vQ rfl (xD rfl Tryz.func35 rfl rfl rfl (d0q (o0p c4) ⟨c4.inp.ctx,c4.inp.snd,z6⟩ ⟨m12.ty,m12.code,m12.id,x8,m12.opts,m12.pay⟩ (z14-1))) ?_
 refine y0 ?_
 refine vQ rfl yB ?_
 refine vQ rfl yB ?_
 refine xU _ (fun w0 R0=> ?_)
 refine zd ?_
 intro B15
 refine AM.ok ?_
 dsimp only[a0w]
 refine xU _ (fun w0 R0=> ?_)
 refine za 0 (AM.okN ?_)
 dsimp only[a0w]
 refine we ?_
 refine vn ?_
 dsimp only[cA,cN]
 refine zn (zC ?_)
 refine AW.regionA _ (Al.mk' (i:=13) (d:=22) (T:=29) _ rfl rfl rfl rfl rfl (by(dsimp only[List.set,cA,cN,List.take,List.drop];done)) (by rfl)) [(0,false),(1,false),(2,false),(3,false),(4,false),(5,false),(6,false),(7,false),(8,false),(9,true),(10,false),(11,false),(12,false),(13,true),(14,true),(15,false)] (by kernel_rfl) (by kernel_rfl) (by exact a0c) ?_
 dsimp only[List.eraseIdx]
 refine va ?_
 refine vR rfl (xD rfl Tryz.func36 rfl rfl rfl (l0U _ (by exact q0F ‹_›))) ?_
 refine vR rfl zv ?_
 refine vR rfl zg ?_
 refine va ?_
 refine vR rfl yb ?_
 refine va ?_
 refine wW ?_
 refine vR rfl (O.maxI rfl rfl rfl rfl) ?_
 refine AN.main _ rfl rfl (fun w0 R0=> ?_)
 refine AO.opN (xD rfl Tryz.func37 rfl rfl rfl (m0u (o0p c4) ⟨0,x8,c4.inp.ctx,c4.inp.snd,z6,⟨#[]⟩⟩ ⟨m12.ty,m12.code,m12.id,x8,m12.opts,m12.pay⟩ _ (r0c (u0d hm12) (by omega)) (show x8.length≤1000000 by omega) (s0f (by omega)))) rfl rfl rfl ?_
 rintro _ _ ⟨⟨y16,e16,hy16,rfl⟩,rfl⟩
 simp only[cA,cN]
 refine AM.ok ?_
 dsimp only[a0w]
 refine wW ?_
 refine vR rfl yB ?_
 refine vR rfl yB ?_
 refine AN.box rfl ?_
 intro B17
 dsimp only[Al.he]
 refine AN.main _ rfl rfl (fun w0 R0=> ?_)
 refine za 0 (AM.okN ?_)
 dsimp only[a0w]
 refine vR rfl zi ?_
 refine AN.nil ?_
 dsimp only[cA,cN]
 refine zn (zC (zq ?_))
 refine zI ?_
 refine vO (xD rfl Tryz.func38 rfl rfl rfl (s0w y16 (u0U hy16))) ?_
 refine zd ?_
 intro B18
 refine za 0 (zH (zn (zC (zq ?_))))
 refine zt ?_
 refine zp ?_
 refine zb ?_
 refine zb ?_
 refine AO.opN (O.call rfl Tryz.func39 rfl rfl rfl (l0Z y16.pay _ _ (by have:=hy16.2.1;omega) hby)) rfl rfl rfl ?_
 rintro _ _ ⟨⟨x19,hx19,rfl⟩,rfl⟩
 simp only[cA,cN]
 refine zt ?_
 refine za 0 (zH (zn (zC (zC (zq ?_)))))
 refine zw ?_
 refine zw ?_
 refine zI ?_
 refine zw ?_
 refine xH ?_
 intro B20
 refine AO.g ?_
 refine yr 0 127 ?_
 refine wH 127 ?_
 refine AO.u ?_
 dsimp only[List.eraseIdx]
 refine zZ ?_
 refine zb (zH (zn (xb ?_)))
 refine AW.g ?_
 refine G.freezePtr 9 6 rfl rfl ?_
 refine AW.u ?_
 dsimp only[List.eraseIdx]
 refine AW.g ?_
 refine G.freezePtr 7 14 rfl rfl ?_
 refine AW.u ?_
 dsimp only[List.eraseIdx]
 refine AW.g ?_
 refine G.freezePtr 6 15 rfl rfl ?_
 refine AW.u ?_
 dsimp only[List.eraseIdx]
 refine AW.g ?_
 refine G.freezePtr 5 16 rfl rfl ?_
 refine AW.u ?_
 dsimp only[List.eraseIdx]
 obtain⟨bb,hbb⟩: ∃bb:Bd,bb=⟨c4.inp.ctx,c4.inp.snd,z6⟩:=⟨_,rfl⟩
 have hbs:u0F bb:=by
  obtain⟨⟨⟨q1,q2,q3,q4,q5⟩,k6,k7,k8⟩,k9,k10,k11⟩:=hc4
  rw[hbb];exact⟨by show c4.inp.ctx.length≤_;omega,by show c4.inp.snd.length≤_;omega⟩
 refine AW.g ?_
 refine G.re 15 (.rp (cBd bb) 0) (by rw[hbb];rfl) ?_
 refine AW.u ?_
 obtain⟨rr,hrr⟩: ∃rr:Rg,rr=⟨x8,bb,z10-1,decide (0<z11)⟩:=⟨_,rfl⟩
 have hrs:SmR rr:=by rw[hrr];exact⟨by show x8.length≤_;omega,hbs⟩
 refine AW.g ?_
 refine G.re 16 (.rp (cRg rr) 0) (by rw[hrr,hbb];rfl) ?_
 refine AW.u ?_
 obtain⟨xs,hxs⟩: ∃xs:List Msg,xs= [(h0b (o0p c4) ⟨c4.inp.ctx,c4.inp.snd,z6⟩ ⟨m12.ty,m12.code,m12.id,x8,m12.opts,m12.pay⟩ (z14-1)).1,y16,⟨y16.ty,y16.code,y16.id,y16.tok,y16.opts,x19⟩,m]:=⟨_,rfl⟩
 have hxl:xs.length=4:=by rw[hxs];rfl
 have hxt: ∀x∈xs,SmT x:=fun x hx=>by
  rw[hxs]at hx
  rcases List.mem_cons.1 hx with rfl|hx
  ·exact r0l (h0N _ _ _ _)
  rcases List.mem_cons.1 hx with rfl|hx
  ·exact r0l hy16
  rcases List.mem_cons.1 hx with rfl|hx
  ·exact r0Q hy16 (by have:=hy16.2.1;omega)
  obtain rfl:=List.mem_singleton.1 hx;exact r0l hsm
 refine AW.g ?_
 refine G.re 127 (w0l xs) (by rw[hxs];rfl) ?_
 refine AW.u ?_
 refine xT [(3,_),(6,_),(14,_),(15,_),(16,_),(127,_),(128,_)] (fun nn E H=> ∃(i:Nat),(i≤4)∧nn=4-i∧E= [(129,.val (.int .i64 (i:Int)))]∧H= []) _ (⟨0,by omega,rfl,rfl,rfl⟩) ?_
 rintro nn E H ⟨i,hi,rfl,rfl,rfl⟩
 dsimp only[cA,cN]
 refine zC (zq ?_)
 refine zR (zH (zn (zC ?_)))
 refine ym (fun h1=> ?_) (fun h1=> ?_)<;>(try simp only[vU]at h1)
 ·obtain⟨x,hx⟩: ∃x,x=s0g xs i:=⟨_,rfl⟩
  have hxq:SmT x:=by rw[hx];exact hxt _ (b0d Msg.none (by omega))
  have hg6:((ms6 xs).drop (Int.toNat (i:Int)*6)).take 6= [.val (.int .i64 x.ty),.val (.int .i64 x.code),.val (.int .i64 x.id),roB x.tok,roO x.opts,roB x.pay]:=by rw[v0q (k:=i) (by omega) (by omega),hx]
  refine yU (zn (zC (xb (zC (zq ?_)))))
  refine yf ?_
  refine vO (O.loadRK rfl rfl (by exact hg6) (by rfl)) ?_
  refine zd ?_
  intro B21
  refine za 0 (zH (zn (zC (zq ?_))))
  refine vO (O.loadRK rfl rfl (by rfl) (by rfl)) ?_
  refine vO (O.loadRK rfl rfl (by rfl) (by rfl)) ?_
  refine xH ?_
  intro B22
  refine AO.g ?_
  refine yr 0 135 ?_
  refine wH 135 ?_
  refine AO.u ?_
  dsimp only[List.eraseIdx]
  refine zZ ?_
  refine zb (zH (zn (xb ?_)))
  refine AW.g ?_
  refine G.freezePtr 0 26 rfl rfl ?_
  refine AW.u ?_
  dsimp only[List.eraseIdx]
  obtain⟨rs,hrsl⟩: ∃rs:List Rg,rs= [rr,raw]:=⟨_,rfl⟩
  have hrl:rs.length=2:=by rw[hrsl];rfl
  have hra: ∀r∈rs,SmR r:=fun r hr=>by
   rw[hrsl]at hr
   rcases List.mem_cons.1 hr with rfl|hr
   ·exact hrs
   obtain rfl:=List.mem_singleton.1 hr;exact hsr
  refine AW.g ?_
  refine G.re 135 (u0Z rs) (by rw[hrsl];rfl) ?_
  refine AW.u ?_
  refine xT [(3,_),(6,_),(14,_),(15,_),(16,_),(26,_),(127,_),(128,_),(129,_),(135,_),(136,_)] (fun nn E H=> ∃(j:Nat),(j≤2)∧nn=2-j∧E= [(137,.val (.int .i64 (j:Int)))]∧H= []) _ (⟨0,by omega,rfl,rfl,rfl⟩) ?_
  rintro nn E H ⟨j,hj,rfl,rfl,rfl⟩
  dsimp only[cA,cN]
  refine zC (zq ?_)
  refine zR (zH (zn (zC ?_)))
  refine ym (fun h2=> ?_) (fun h2=> ?_)<;>(try simp only[vU]at h2)
  ·obtain⟨r,hr⟩: ∃r,r=v0I rs j:=⟨_,rfl⟩
   have hrq:SmR r:=by rw[hr];exact hra _ (b0d Rg.none (by omega))
   have hg:((v0a rs).drop (Int.toNat (j:Int)*6)).take 6=cRg r:=by rw[t0T (k:=j) (by omega) (by omega),hr]
   refine yU (zn (zC (xb (zC (zq ?_)))))
   refine yf ?_
   refine vO (O.loadRK rfl rfl (by exact hg) (by rfl)) ?_
   refine zd ?_
   intro B23
   refine za 0 (zH (zn (zC (zq ?_))))
   refine vO (O.loadRK rfl rfl (by rfl) (by rfl)) ?_
   refine xW ?_
   refine vO (O.loadRK rfl rfl (by rfl) (by rfl)) ?_
   refine vO (xD rfl Tryz.func40 rfl rfl rfl (k0U c4 r x hrq hxq)) ?_
   refine zb ?_
   refine zW ?_
   refine zW ?_
   refine zW ?_
   refine zd ?_
   intro B24
   refine zd ?_
   intro B25
   refine za 1 ?_
   refine za 0 ?_
   refine zc (zH (zn (zC (zq ?_))))
   refine vO (O.loadRK rfl rfl (by rfl) (by rfl)) ?_
   refine wC ?_
   refine vO (O.loadRK rfl rfl (by rfl) (by rfl)) ?_
   refine vO (xD rfl Tryz.func41 rfl rfl rfl (i0R c4 r x hxq)) ?_
   refine zb ?_
   refine zW ?_
   refine zW ?_
   refine zW ?_
   refine zd ?_
   intro B26
   refine zd ?_
   intro B27
   refine za 1 ?_
   refine za 0 ?_
   refine zc (zH (zn (zC (zq ?_))))
   refine zb ?_
   refine zb ?_
   refine vO (O.neq rfl rfl rfl (by exact bne_eq_false_iff_eq.2 (by omega))) ?_
   refine zb ?_
   refine wC ?_
   refine wC ?_
   refine vO (xD rfl Tryz.func18 rfl rfl rfl (r0q (k0V c4 r x).1 (k0V c4 r x).1 (o0R hxq.1))) ?_
   refine xo ?_
   refine vO (O.pickF rfl rfl rfl) ?_
   refine zb ?_
   refine AO.opG rfl rfl rfl (fun hp=>x0) ?_
   refine AO.opG rfl rfl rfl (fun hp=>xV) ?_
   refine AO.opG rfl rfl rfl (fun hp=>wP 167 rfl (by exact hp) (wP 168 rfl (by exact hp) (xD rfl Tryz.func42 rfl rfl rfl (f0m (k0V c4 r x).2.1)))) ?_
   refine xf 169 ?_
   refine zG (zH (zn ?_))
   refine ym (fun h4=> ?_) (fun h4=> ?_)<;>(try simp only[vU]at h4)
   ·exact absurd h4 (by simp)
   refine yU (xA (zn (zq ?_)))
   refine zx ?_
   refine zb (zH ?_)
   refine xP _ _ _ (by omega) (⟨j+1,by omega,rfl,rfl,rfl⟩)
  refine wm ?_
  refine xY ?_
  refine wa ?_
  refine xq (xA (zn (zq ?_)))
  refine zx ?_
  refine zb (zH ?_)
  refine xP _ _ _ (by omega) (⟨i+1,by omega,rfl,rfl,rfl⟩)
 refine wm ?_
 refine xY ?_
 refine wa ?_
 refine xq (zn (zC (zq ?_)))
 refine zb ?_
 refine vO vF ?_
 refine vO (xD rfl Tryz.func43 rfl rfl rfl (o0m token bb hbs)) ?_
 refine zb ?_
 refine zW ?_
 refine zW ?_
 refine zd ?_
 intro B28
 refine za 0 ?_
 refine zc (zH (zn (zC (zq ?_))))
 refine zb ?_
 refine vO vF ?_
 refine vO (xD rfl Tryz.func34 rfl rfl rfl (h0I token bb)) ?_
 refine zb ?_
 refine zW ?_
 refine zW ?_
 refine zd ?_
 intro B29
 refine za 0 ?_
 refine zc (zH (zn (zC ?_)))
 refine yo 19 ?_
 simp only[cT,cZ,cD,cO]
 refine zE ?_
 refine zE ?_
 refine vP (O.eql rfl rfl rfl (by exact beq_iff_eq.2 (by omega))) ?_
 refine zE ?_
 refine vb ?_
 refine vu ?_
 refine vP (xD rfl Tryz.func42 rfl rfl rfl (f0m (t0c token bb).1)) ?_
 refine vP (O.pickT rfl rfl rfl) ?_
 refine zE ?_
 refine vP vF ?_
 refine vP (xD rfl Tryz.func44 rfl rfl rfl (r0i rr hrs)) ?_
 refine vP vF ?_
 refine vP (xD rfl Tryz.func45 rfl rfl rfl (o0D rr)) ?_
 refine vP (xD rfl Tryz.func42 rfl rfl rfl (f0m (r0j rr))) ?_
 refine vP (O.pickT rfl rfl rfl) ?_
 refine zE ?_
 refine vP (xD rfl Tryz.func32 rfl rfl rfl g0O) ?_
 refine vP (O.pickT rfl rfl rfl) ?_
 refine vq ?_
 refine vf ?_
 simp only[a0g,cN,cA,cP]
 refine zH (zn (y3 ?_))
 refine vm rfl rfl nS (⟨by simp,rfl⟩)
end Go.Proofs.YtojomcdjcpmnkaaGreat.By
namespace Go.Proofs.YtojomcdjcpmnkaaGreat.A
open Go.ChangeShapes Go.WideShapes Go.ChangeAt Go.RowKit Go.Deep L
theorem own:ownKnob Tryz.prog.godebug=none:=by kernel_rfl
theorem w0t:Kids Tryz.prog (· <Tryz.prog.types.size):=kids_rows (by kernel_rfl) (by kernel_rfl)
theorem full: ∀t e,t<Tryz.prog.types.size→Tryz.prog.underlying t=some (.slice e)→0<Tryz.prog.cellsOf e:=slices_full_of Tryz.prog (by kernel_rfl)
theorem k0O {W W':World}(h:Ext W W')(p:MemPlace)(hp:p.block<W.heap.size):W.sameAt W' p:=by
 have hb:W'.heap[p.block]? =W.heap[p.block]? :=h.block _ hp (fun hh=>hh)
 cases p with
 |cell b off=>exact World.cell?_of_block (w:=W) (a:=⟨b,off,none⟩) hb
 |map b=>exact hb
section
variable {H:Type}{enc:TypeId×Value→H}
theorem d0E {P:Program}{W W':World}{base:Nat}{spare:Nat→Bool}{held:Bool}: ∀{ts:List TypeId} {vs:List Value} {ds:List (DataW H)} {ps:List MemPlace},
  DataW.TrodAll enc P W base spare held ts vs ds ps→(∀p∈ps,W.sameAt W' p)→DataW.TrodAll enc P W' base spare held ts vs ds ps
 | [],[],[],_,h,_=>h
 |_::_,_::_,_::_,_,⟨p,q,⟨n,h1⟩,h2,e⟩,hs=>⟨p,q,⟨n,DataW.trod_carry n _ _ _ h1 (fun x hx=>hs x (by rw[e];exact List.mem_append_left _ hx))⟩,d0E h2 (fun x hx=>hs x (by rw[e];exact List.mem_append_right _ hx)),e⟩
theorem s0j {fn:Func}{s:ChangeSpec}{W W':World}{args:Array Value}{ds gs:List (DataW H)}{before:List MemPlace}{bt:TypeId}
  (hW:DataW.Whole enc Tryz.prog fn.params.toList s.vars false W args.toList ds gs before) (hv:s.vars= []) (hfn:s.fn H (ds++gs)={results:= [.lit (.bool true)],args:=ds}) (hres:fn.resultTypes= #[bt]) (hbt:Tryz.prog.underlying bt=some .bool)
  (hpar: ∀t∈fn.params.toList,t<Tryz.prog.types.size) (hE:Ext W W'):s.post enc Tryz.prog fn false true false false W args (.bool true) W':=by
 have hold: ∀p∈before,(fun b=>decide (b<W.heap.size)) p.block=true:=fun p hp=>by simpa using hW.lt p hp
 have hlt:=hW.lt
 have hW':=hW
 obtain⟨pa,pv,hA,hV,rfl,hz,hn⟩:=hW
 rw[hv]at hV
 obtain⟨rfl,rfl⟩:=trodVars_none hV
 have hA':DataW.TrodAll enc Tryz.prog W' 0 (fun _=>true) true fn.params.toList args.toList ds pa:=d0E hA fun p hp=>k0O hE p (hlt p (List.mem_append_left _ hp))
 have hargs: ∀sp:Nat→Bool,(∀p∈pa++[],sp p.block=true)→DataW.TrodAll enc Tryz.prog W' 0 sp true fn.params.toList args.toList ds pa:=fun sp hsp=>
  DataW.TrodAll.respare w0t full hpar hA' fun p hp=>hsp p (by simpa using hp)
 have hres': ∀(b:Nat) (sp:Nat→Bool) (hd:Bool),DataW.TrodAll enc Tryz.prog W' b sp hd fn.resultTypes.toList ((Value.bool true).resultList fn.resultTypes.size) [.lit (.bool true)] []:=fun b sp hd=>by
  rw[hres];exact trodAll_cons_mk (shut_bool hbt true) trodAll_mk0
 refine⟨ds,[],pa++[],[],pa,[],hW',by rw[hfn];exact hres' _ _ _,by rw[hfn];exact hargs _ hold,by rw[hfn,hv];rfl,World.keptBut_mono (fun p hp=>⟨hp,?_⟩) ((hE.toBelow).frame (· ∈pa++[])),fun h=>by cases h⟩
 exact Or.inr (by simpa using hp)
def Old (W:World):Nat→Prop:=fun b=>b<W.heap.size
variable {P:Program}{W:World}
theorem q0t {base:Nat}{spare:Nat→Bool}{held:Bool}{t:TypeId}{k:IntKind}(ht:P.underlying t=some (.int k)){n:Nat}{cs:List Value}{x:DataW H×List MemPlace}(h:DataW.trod enc P W base spare held n t cs=some x):
  ∃z:Int,(Lit.int k z).wf=true∧RelL (Old W) W [.val (.int k z)] cs:=by
 cases n with
 |zero=>simp[DataW.trod]at h
 |succ n=>
  obtain⟨z,rfl,_,hw⟩:=DataW.trod_int ht h
  exact⟨z,hw,RelL.cons (.val _) RelL.nil⟩
theorem j0Y {α:Type}{enc':α→List AV}{good:α→Prop}{base:Nat}{spare:Nat→Bool}{held:Bool}{t e:TypeId}(ht:P.underlying t=some (.slice e))(hsz: ∀a,(enc' a).length=P.cellsOf e)(hpos:0<P.cellsOf e)
  (he: ∀(n:Nat) (cs:List Value) (x:DataW H×List MemPlace),cs.length=P.cellsOf e→DataW.trod enc P W base spare held n e cs=some x→ ∃a,good a∧RelL (Old W) W (enc' a) cs)
  {n:Nat} {cs:List Value} {x:DataW H×List MemPlace} (h:DataW.trod enc P W base spare held n t cs=some x):
  ∃l:List α,(∀a∈l,good a)∧l.length≤maxLen∧RelL (Old W) W [.ro false l.length (l.flatMap enc')] cs:=by
 rcases open_slice ht h with⟨rfl, -⟩|⟨ad,len,cap,m,n',D,Pl,rfl,hb,hl,hm,hmm,hx,hi⟩
 ·exact⟨[],fun _ h=>(by cases h),Nat.zero_le _,RelL.cons (.emp _ _ _ (fun h=>by cases h) (Nat.zero_le _)) RelL.nil⟩
 ·have hlm:len≤m:=by rw[hmm];split<;>omega
  have hex: ∀i:Nat,∃a:Option α,i<len→ ∃a',a=some a'∧good a'∧ ∃cs',W.cells? base (ad.add (i*P.cellsOf e)) (P.cellsOf e)=some cs'∧RelL (Old W) W (enc' a') cs':=fun i=>by
   by_cases hil:i<len
   ·obtain⟨cs',hc,htr⟩:=hi i (by omega)
    obtain⟨_,hcl,_⟩:=World.cells?_some hc
    obtain⟨a,hg,hr⟩:=he _ _ _ hcl htr
    exact⟨some a,fun _=>⟨a,rfl,hg,cs',hc,hr⟩⟩
   ·exact⟨none,fun h=>absurd h hil⟩
  obtain⟨f,hf⟩:=Classical.axiomOfChoice hex
  by_cases hlen0:len=0
  ·subst hlen0
   exact⟨[],fun _ h=>(by cases h),Nat.zero_le _,RelL.cons (.emp _ _ _ (fun h=>by cases h) hm) RelL.nil⟩
  ·obtain⟨a0,_,_⟩:=hf 0 (by omega)
   let g:Nat→α:=fun i=>(f i).getD a0
   have hg: ∀i,i<len→good (g i)∧ ∃cs',W.cells? base (ad.add (i*P.cellsOf e)) (P.cellsOf e)=some cs'∧RelL (Old W) W (enc' (g i)) cs':=fun i hi'=>by
    obtain⟨a',ha',h1,h2⟩:=hf i hi'
    have:g i=a':=by simp[g,ha']
    rw[this];exact⟨h1,h2⟩
   have hflat: ∀(len:Nat),(((List.range len).map g).flatMap enc').length=len*P.cellsOf e:=by
    intro len
    induction len with
    |zero=>simp
    |succ k ih=>rw[List.range_succ,List.map_append,List.flatMap_append,cH,ih];simp[hsz,Nat.add_mul]
   have hflatget: ∀(len i j:Nat),i<len→j<P.cellsOf e→(((List.range len).map g).flatMap enc')[i*P.cellsOf e+j]? =(enc' (g i))[j]? :=by
    intro len
    induction len with
    |zero=>intro i j h;omega
    | succ k ih=>
     intro i j h hj
     rw[List.range_succ,List.map_append,List.flatMap_append,List.getElem?_append]
     by_cases hik:i<k
     ·have h1:(i+1)*P.cellsOf e≤k*P.cellsOf e:=Nat.mul_le_mul_right _ (by omega)
      rw[Nat.add_mul]at h1
      rw[if_pos (by rw[hflat];omega)]
      exact ih i j hik hj
     ·have:i=k:=by omega
      subst this
      rw[if_neg (by rw[hflat];omega),hflat]
      simp
   have hblk:ad.spot=none∧ad.block<W.heap.size:=by
    obtain⟨_,cs',hc,_⟩:=hg 0 (by omega)
    obtain⟨_,hcl,hat⟩:=World.cells?_some hc
    have h0:=hat 0 hpos
    simp only[Nat.zero_mul]at h0
    have h1:W.cell? ad≠none:=by
     intro hn
     rw[show(ad.add 0).add 0=ad by simp[Addr.add]]at h0
     rw[hn]at h0
     have:=(List.getElem?_eq_none_iff.1 h0.symm)
     omega
    refine⟨?_,?_⟩
    ·cases hsp:ad.spot with
     |none=>rfl
     |some _=>exfalso;apply h1;unfold World.cell?;split<;>simp[hsp]
    ·cases hc:W.cell? ad with
     |none=>exact absurd hc h1
     |some u=>exact World.block_lt_of_cell? W ad hc
   obtain⟨b,off,sp⟩:=ad
   obtain⟨rfl,hblt⟩:=hblk
   have hcell: ∀i j,i<len→j<P.cellsOf e→ ∃u,W.cell? ⟨b,off+(i*P.cellsOf e+j),none⟩=some u∧ ∃x,(enc' (g i))[j]? =some x∧RelV (Old W) W x u:=fun i j hi' hj=>by
    obtain⟨_,cs',hc,hr⟩:=hg i hi'
    obtain⟨_,hcl,hat⟩:=World.cells?_some hc
    have h0:=hat j hj
    rw[a0H,a0H]at h0
    have hjl:j<cs'.length:=by omega
    have hjx:j<(enc' (g i)).length:=by rw[hsz];exact hj
    refine⟨cs'[j],by rw[←Nat.add_assoc,h0];simp[hjl],(enc' (g i))[j],by simp[hjx],?_⟩
    have:=hr.2 j hjx
    simpa[hjl]using this
   refine⟨(List.range len).map g,fun a ha=> ?_,by simp;omega,RelL.cons ?_ RelL.nil⟩
   ·obtain⟨i,hi',rfl⟩:=List.mem_map.1 ha
    exact(hg i (List.mem_range.1 hi')).1
   ·rw[List.length_map,List.length_range]
    have hq: ∀j,j<(((List.range len).map g).flatMap enc').length→ ∃u,W.cell? ⟨b,off+j,none⟩=some u∧ ∃x,(((List.range len).map g).flatMap enc')[j]? =some x∧RelV (Old W) W x u:=fun j hj=>by
     rw[hflat]at hj
     have h1:j/P.cellsOf e<len:=(Nat.div_lt_iff_lt_mul hpos).2 hj
     have h2:=Nat.mod_lt j hpos
     have h3:j/P.cellsOf e*P.cellsOf e+j%P.cellsOf e=j:=by rw[Nat.mul_comm];exact Nat.div_add_mod j _
     obtain⟨u,hu,x,hx',hr⟩:=hcell (j/P.cellsOf e) (j%P.cellsOf e) h1 h2
     rw[h3]at hu
     refine⟨u,hu,x,?_,hr⟩
     have:=hflatget len _ _ h1 h2
     rw[h3]at this
     rw[this,hx']
    refine .ro false len _ b off cap (fun j=>(W.cell? ⟨b,off+j,none⟩).getD undef) hblt (fun j hj=> ?_) (fun j hj=> ?_) hl hm (fun h=>by cases h)
    ·obtain⟨u,hu,_⟩:=hq j hj
     rw[hu];rfl
    ·obtain⟨u,hu,x,hx',hr⟩:=hq j hj
     rw[hu]
     simp only[Option.getD_some]
     have:x=(((List.range len).map g).flatMap enc')[j]:=by
      rw[List.getElem?_eq_getElem hj]at hx';exact(Option.some.inj hx').symm
     rw[←this];exact hr
theorem j0g {α:Type}(f:α→AV)(l:List α):l.flatMap (fun a=> [f a])=l.map f:=by
 induction l with
 |nil=>rfl
 |cons a l ih=>simp[List.flatMap_cons,ih]
theorem m0E {base:Nat}{spare:Nat→Bool}{held:Bool}{t e:TypeId}{k:IntKind}(ht:P.underlying t=some (.slice e))(he:P.underlying e=some (.int k))(h1:P.cellsOf e=1){n:Nat}{cs:List Value}{x:DataW H×List MemPlace}(h:DataW.trod enc P W base spare held n t cs=some x):
  ∃l:List Int,(∀z∈l,(Lit.int k z).wf=true)∧l.length≤maxLen∧RelL (Old W) W [.ro false l.length (d0k k l)] cs:=by
 obtain⟨l,h2,h3,h4⟩:=j0Y (enc':=fun z:Int=> [.val (.int k z)]) (good:=fun z=>(Lit.int k z).wf=true) ht (fun _=>h1.symm) (by omega) (fun n cs x _ h=>q0t he h) h
 rw[j0g]at h4
 exact⟨l,h2,h3,h4⟩
theorem o0S {base:Nat}{spare:Nat→Bool}{held:Bool}{t e:TypeId}(ht:P.underlying t=some (.slice e))(he:P.underlying e=some (.int .u8))(h1:P.cellsOf e=1){n:Nat}{cs:List Value}{x:DataW H×List MemPlace}(h:DataW.trod enc P W base spare held n t cs=some x):
  ∃l:List UInt8,l.length≤maxLen∧RelL (Old W) W [roB l] cs:=by
 obtain⟨l,h2,h3,h4⟩:=m0E ht he h1 h
 have hb: ∃m:List UInt8,l=m.map fun b=>((b.toNat:Nat):Int):=by
  clear h h3 h4
  induction l with
  |nil=>exact⟨[],rfl⟩
  |cons z l ih=>
   obtain⟨m,rfl⟩:=ih fun z hz=>h2 z (List.mem_cons_of_mem _ hz)
   have hz:=h2 z (List.mem_cons_self ..)
   have hz':0≤z∧z≤255:=by simpa[Lit.wf,IntKind.min,IntKind.max,IntKind.signed,IntKind.bits]using hz
   refine⟨UInt8.ofNat z.toNat::m,?_⟩
   simp only[List.map_cons,List.cons.injEq,and_true]
   rw[UInt8.toNat_ofNat_of_lt' (by simp[UInt8.size];omega)]
   omega
 obtain⟨m,rfl⟩:=hb
 refine⟨m,by simpa using h3,?_⟩
 simpa[roB,a0a,d0k,Function.comp_def]using h4
theorem i0U {R:Nat→Prop}{a:AV}{v:Value}(hc:v.cells.toList= [v])(h:RelL R W [a] v.cells.toList):RelV R W a v:=by
 rw[hc]at h
 obtain⟨u,r,he,h1,_⟩:=h.uncons
 cases he
 exact h1
theorem i0V {R:Nat→Prop}{xs:List AV}{cs:Array Value}(h:RelL R W xs (Value.agg cs).cells.toList):RelV R W (.agg xs) (.agg cs):=by
 have:=h.toAgg
 simpa[Value.cells]using this
end
end Go.Proofs.YtojomcdjcpmnkaaGreat.A
namespace Go.Proofs.YtojomcdjcpmnkaaGreat.A
open Go.ChangeShapes Go.WideShapes Go.ChangeAt Go.RowKit L
section
variable {P:Program}
def Reads (P:Program)(t:TypeId)(φ:AV→Prop):Prop:=
 ∀(H:Type) (enc:TypeId×Value→H) (W:World) (base b0:Nat) (spare:Nat→Bool) (held:Bool) (v:Value) (d:DataW H) (p:List MemPlace),
  Value.okWide P W .any b0 t v→DataW.Trod enc P W base spare held t v d p→ ∃x,φ x∧RelV (Old W) W x v
structure RdC (P:Program) (t:TypeId) {α:Type} (f:α→List AV) (good:α→Prop):Prop where
 len: ∀a,(f a).length=P.cellsOf t
 rd: ∀(H:Type) (enc:TypeId×Value→H) (W:World) (base:Nat) (spare:Nat→Bool) (held:Bool) (n:Nat) (cs:List Value) (x:DataW H×List MemPlace),
  DataW.trod enc P W base spare held n t cs=some x→ ∃a,good a∧RelL (Old W) W (f a) cs
theorem s0b {W:World}{r:Reach}{b:Nat}{t:TypeId}{k:IntKind}(ht:P.underlying t=some (.int k)){v:Value}(h:Value.okWide P W r b t v):v.cells.toList= [v]:=by
 cases v<;>simp[Value.okWide,ht,Cell.okWide,Cell.ok]at h<;>rfl
theorem f0t {W:World}{r:Reach}{b:Nat}{t e:TypeId}(ht:P.underlying t=some (.slice e)){v:Value}(h:Value.okWide P W r b t v):v.cells.toList= [v]:=by
 cases v<;>simp[Value.okWide,ht,Cell.okWide,Cell.ok]at h<;>rfl
theorem p0j {W:World}{r:Reach}{b:Nat}{t:TypeId}(ht:P.underlying t=some .bool){v:Value}(h:Value.okWide P W r b t v):v.cells.toList= [v]:=by
 cases v<;>simp[Value.okWide,ht,Cell.okWide,Cell.ok]at h<;>rfl
theorem RelL.glue {R:Nat→Prop}{W:World}{xs ys:List AV}{cs:List Value}{o k:Nat}(h1:RelL R W xs ((cs.drop o).take k))(h2:RelL R W ys (cs.drop (o+k))):RelL R W (xs++ys) (cs.drop o):=by
 have:=h1.app h2
 rwa [show(cs.drop o).take k++cs.drop (o+k)=cs.drop o by rw[←List.drop_drop,List.take_append_drop]]at this
theorem RdC.int {t:TypeId}{k:IntKind}(ht:P.underlying t=some (.int k))(h1:P.cellsOf t=1):RdC P t (fun z:Int=> [.val (.int k z)]) (fun z=>(Lit.int k z).wf=true):=
 ⟨fun _=>h1.symm,fun H enc W base spare held n cs x h=>q0t ht h⟩
theorem RdC.bool {t:TypeId}(ht:P.underlying t=some .bool)(h1:P.cellsOf t=1):RdC P t (fun z:Bool=> [.val (.bool z)]) (fun _=>True):=
 ⟨fun _=>h1.symm,fun H enc W base spare held n cs x h=>by
  obtain⟨b,rfl,_⟩:=DataW.trod_bool ht h
  exact⟨b,trivial,RelL.cons (.val _) RelL.nil⟩⟩
theorem RdC.string {t:TypeId}(ht:P.underlying t=some .string)(h1:P.cellsOf t=1):RdC P t (fun s:ByteArray=> [.val (.string s)]) (fun s=>s.size≤maxLen):=
 ⟨fun _=>h1.symm,fun H enc W base spare held n cs x h=>by
  obtain⟨b,rfl,_,hs⟩:=DataW.trod_string ht h
  exact⟨b,hs,RelL.cons (.val _) RelL.nil⟩⟩
theorem RdC.slice {t e:TypeId}{α:Type}{f:α→List AV}{good:α→Prop}(ht:P.underlying t=some (.slice e))(h1:P.cellsOf t=1)(hpos:0<P.cellsOf e)(h:RdC P e f good):
  RdC P t (fun l:List α=> [.ro false l.length (l.flatMap f)]) (fun l=>(∀a∈l,good a)∧l.length≤maxLen):=
 ⟨fun _=>h1.symm,fun H enc W base spare held n cs x hx=>by
  obtain⟨l,h2,h3,h4⟩:=j0Y ht h.len hpos (fun n cs x _ hx=>h.rd H enc W base spare held n cs x hx) hx
  exact⟨l,⟨h2,h3⟩,h4⟩⟩
theorem RdC.bytes {t e:TypeId}(ht:P.underlying t=some (.slice e))(he:P.underlying e=some (.int .u8))(h1:P.cellsOf t=1)(h2:P.cellsOf e=1):RdC P t (fun l:List UInt8=> [roB l]) (fun l=>l.length≤maxLen):=
 ⟨fun _=>h1.symm,fun H enc W base spare held n cs x hx=>o0S ht he h2 hx⟩
theorem RdC.ints {t e:TypeId}{k:IntKind}(ht:P.underlying t=some (.slice e))(he:P.underlying e=some (.int k))(h1:P.cellsOf t=1)(h2:P.cellsOf e=1):
  RdC P t (fun l:List Int=> [.ro false l.length (d0k k l)]) (fun l=>(∀z∈l,(Lit.int k z).wf=true)∧l.length≤maxLen):=
 ⟨fun _=>h1.symm,fun H enc W base spare held n cs x hx=>by
  obtain⟨l,h3,h4,h5⟩:=m0E ht he h2 hx
  exact⟨l,⟨h3,h4⟩,h5⟩⟩
structure FR (P:Program) (fs:List Field) (o m:Nat) {α:Type} (f:α→List AV) (good:α→Prop):Prop where
 len: ∀a,(f a).length=m
 rd: ∀(H:Type) (enc:TypeId×Value→H) (W:World) (base:Nat) (spare:Nat→Bool) (held:Bool) (cs:List Value),cs.length=o+m→
  (∀fd∈fs,∃(n:Nat) (y:DataW H×List MemPlace),DataW.trod enc P W base spare held n fd.type ((cs.drop fd.offset).take (P.cellsOf fd.type))=some y)→ ∃a,good a∧RelL (Old W) W (f a) (cs.drop o)
theorem FR.nil {o:Nat}:FR P [] o 0 (fun _:Unit=> []) (fun _=>True):=
 ⟨fun _=>rfl,fun H enc W base spare held cs hl _=>⟨(),trivial,by rw[List.drop_of_length_le (by omega)];exact RelL.nil⟩⟩
theorem FR.cons {fd:Field}{fs:List Field}{o k m:Nat}{α β:Type}{f:α→List AV}{good:α→Prop}{g:β→List AV}{good':β→Prop}(h:RdC P fd.type f good)(ho:fd.offset=o)(hk:P.cellsOf fd.type=k)(hs:FR P fs (o+k) m g good'):
  FR P (fd::fs) o (k+m) (fun p:α×β=>f p.1++g p.2) (fun p=>good p.1∧good' p.2):=
 ⟨fun p=>by rw[cH,h.len,hs.len,hk],fun H enc W base spare held cs hl hall=>by
  obtain⟨n,y,h1⟩:=hall fd (List.mem_cons_self ..)
  rw[ho,hk]at h1
  obtain⟨a,h2,h3⟩:=h.rd H enc W base spare held _ _ _ h1
  obtain⟨b,h4,h5⟩:=hs.rd H enc W base spare held cs (by omega) (fun fd hfd=>hall fd (List.mem_cons_of_mem _ hfd))
  exact⟨(a,b),⟨h2,h4⟩,RelL.glue h3 h5⟩⟩
theorem RdC.struct {t:TypeId}{fs:List Field}{m:Nat}{α:Type}{f:α→List AV}{good:α→Prop}(ht:P.underlying t=some (.struct fs.toArray))(hm:P.cellsOf t=m)(h:FR P fs 0 m f good):RdC P t f good:=
 ⟨fun a=>by rw[h.len,hm],fun H enc W base spare held n cs x hx=>by
  obtain⟨xs,n',_,_,hl,hlen,hf⟩:=DataW.trod_struct ht hx
  obtain⟨a,h1,h2⟩:=h.rd H enc W base spare held cs (by omega) (fun fd hfd=>by
   obtain⟨i,hi,rfl⟩:=List.getElem_of_mem hfd
   have h0:=hf i fs[i] (by simp[hi])
   have hxi:i<xs.length:=by rw[hlen];simpa using hi
   rw[List.getElem?_eq_getElem hxi]at h0
   exact⟨n',_,h0⟩)
  exact⟨a,h1,by simpa using h2⟩⟩
theorem RdC.map {t:TypeId}{α β:Type}{f:α→List AV}{good:α→Prop}{g:β→List AV}{good':β→Prop}(h:RdC P t f good)(φ:α→β)(hφ: ∀a,good a→good' (φ a)∧f a=g (φ a))(hl: ∀b,(g b).length=P.cellsOf t):RdC P t g good':=
 ⟨hl,fun H enc W base spare held n cs x hx=>by
  obtain⟨a,h1,h2⟩:=h.rd H enc W base spare held n cs x hx
  exact⟨φ a,(hφ a h1).1,(hφ a h1).2▸h2⟩⟩
theorem RdC.reads {t:TypeId}{α:Type}{f:α→List AV}{good:α→Prop}(h:RdC P t f good)(g:α→AV)(hg: ∀a,f a= [g a])(hw: ∀(W:World) (b:Nat) (v:Value),Value.okWide P W .any b t v→v.cells.toList= [v]):Reads P t (fun x=> ∃a,good a∧x=g a):=
 fun H enc W base b0 spare held v d p hv ⟨n,hx⟩=>by
  obtain⟨a,h1,h2⟩:=h.rd H enc W base spare held n _ _ hx
  rw[hg]at h2
  exact⟨g a,⟨a,h1,rfl⟩,i0U (hw _ _ _ hv) h2⟩
theorem RdC.readsAgg {t:TypeId}{α:Type}{f:α→List AV}{good:α→Prop}(h:RdC P t f good)(hw: ∀(W:World) (b:Nat) (v:Value),Value.okWide P W .any b t v→ ∃cs,v= .agg cs):Reads P t (fun x=> ∃a,good a∧x= .agg (f a)):=
 fun H enc W base b0 spare held v d p hv ⟨n,hx⟩=>by
  obtain⟨cs,rfl⟩:=hw _ _ _ hv
  obtain⟨a,h1,h2⟩:=h.rd H enc W base spare held n _ _ hx
  exact⟨.agg (f a),⟨a,h1,rfl⟩,i0V h2⟩
theorem Reads.int {t:TypeId}{k:IntKind}(ht:P.underlying t=some (.int k))(h1:P.cellsOf t=1):Reads P t (fun x=> ∃z:Int,(Lit.int k z).wf=true∧x= .val (.int k z)):=(RdC.int ht h1).reads (fun z=> .val (.int k z)) (fun _=>rfl) (fun _ _ _ h=>s0b ht h)
theorem Reads.bool {t:TypeId}(ht:P.underlying t=some .bool)(h1:P.cellsOf t=1):Reads P t (fun x=> ∃z:Bool,True∧x= .val (.bool z)):=(RdC.bool ht h1).reads (fun z=> .val (.bool z)) (fun _=>rfl) (fun _ _ _ h=>p0j ht h)
theorem Reads.bytes {t e:TypeId}(ht:P.underlying t=some (.slice e))(he:P.underlying e=some (.int .u8))(h1:P.cellsOf t=1)(h2:P.cellsOf e=1):Reads P t (fun x=> ∃l:List UInt8,l.length≤maxLen∧x=roB l):=(RdC.bytes ht he h1 h2).reads roB (fun _=>rfl) (fun _ _ _ h=>f0t ht h)
theorem Reads.ints {t e:TypeId}{k:IntKind}(ht:P.underlying t=some (.slice e))(he:P.underlying e=some (.int k))(h1:P.cellsOf t=1)(h2:P.cellsOf e=1):
  Reads P t (fun x=> ∃l:List Int,((∀z∈l,(Lit.int k z).wf=true)∧l.length≤maxLen)∧x= .ro false l.length (d0k k l)):=(RdC.ints ht he h1 h2).reads (fun l=> .ro false l.length (d0k k l)) (fun _=>rfl) (fun _ _ _ h=>f0t ht h)
theorem Reads.slice {t e:TypeId}{α:Type}{f:α→List AV}{good:α→Prop}(ht:P.underlying t=some (.slice e))(h1:P.cellsOf t=1)(hpos:0<P.cellsOf e)(h:RdC P e f good):
  Reads P t (fun x=> ∃l:List α,((∀a∈l,good a)∧l.length≤maxLen)∧x= .ro false l.length (l.flatMap f)):=(RdC.slice ht h1 hpos h).reads (fun l=> .ro false l.length (l.flatMap f)) (fun _=>rfl) (fun _ _ _ h=>f0t ht h)
def ReadsL (P:Program):List TypeId→List (AV→Prop)→Prop
 | [],[]=>True
 |t::ts,φ::φs=>Reads P t φ∧ReadsL P ts φs
 |_,_=>False
theorem ReadsL.nil:ReadsL P [] []:=trivial
theorem ReadsL.cons {t:TypeId}{ts:List TypeId}{φ:AV→Prop}{φs:List (AV→Prop)}(h:Reads P t φ)(hs:ReadsL P ts φs):ReadsL P (t::ts) (φ::φs):=⟨h,hs⟩
def s0P:List (AV→Prop)→(List AV→Prop)→Prop
 | [],K=>K []
 |φ::φs,K=> ∀x,φ x→s0P φs (fun xs=>K (x::xs))
theorem m0D {H:Type}{enc:TypeId×Value→H}{W:World}{base b0:Nat}{spare:Nat→Bool}{held:Bool}: ∀{ts:List TypeId} {φs:List (AV→Prop)} {K:List AV→Prop} {vs:List Value} {ds:List (DataW H)} {ps:List MemPlace},
  ReadsL P ts φs→s0P φs K→(∀(j:Nat) t v,ts[j]? =some t→vs[j]? =some v→Value.okWide P W .any b0 t v)→DataW.TrodAll enc P W base spare held ts vs ds ps→ ∃xs,K xs∧RelL (Old W) W xs vs
 | [],[],K,vs,ds,ps,_,hK,_,hT=>by
  obtain⟨rfl,_,_⟩:=trodAll_nil hT
  exact⟨[],hK,RelL.nil⟩
 | [],_::_,_,_,_,_,h,_,_,_=>h.elim
 |_::_,[],_,_,_,_,h,_,_,_=>h.elim
 |t::ts,φ::φs,K,vs,ds,ps,h,hK,hv,hT=>by
  obtain⟨v0,vs0,d0,ds0,p0,q0,rfl,rfl,rfl,h0,r0⟩:=trodAll_cons hT
  obtain⟨x,h1,h2⟩:=h.1 H enc W base b0 spare held v0 d0 p0 (hv 0 t v0 rfl rfl) h0
  obtain⟨xs,h3,h4⟩:=m0D h.2 (hK x h1) (fun j t v a b=>hv (j+1) t v a b) r0
  exact⟨x::xs,h3,RelL.cons h2 h4⟩
end
theorem i0h {f:FuncId}{fn:Func}{s:ChangeSpec}{H:Type}(enc:TypeId×Value→H){ts:List TypeId}{φs:List (AV→Prop)}(hp:fn.params.toList=ts)(hr:ReadsL Tryz.prog ts φs)
  (h:s0P φs fun xs=>Sp Tryz.prog f xs [] (Is (.val (.bool true)))) {W:World} {base:Nat} {args:Array Value} {ds gs:List (DataW H)} {before:List MemPlace}
  (hval: ∀(j:Nat) t v,fn.params[j]? =some t→args[j]? =some v→Value.okWide Tryz.prog W .any base t v)
  (hW:DataW.Whole enc Tryz.prog fn.params.toList s.vars false W args.toList ds gs before)
  (post: ∀W',Ext W W'→s.post enc Tryz.prog fn false true false false W args (.bool true) W'):
  Calls Tryz.prog f args W fun e W'=> ∃v,e= .returned v∧s.post enc Tryz.prog fn false true false false W args v W':=by
 obtain⟨p,q,hA,hV,rfl,hfz,hnd⟩:=hW
 rw[hp]at hA
 obtain⟨xs,hS,hR⟩:=m0D (b0:=base) hr h (fun j t v h1 h2=>hval j t v (by rw[←Array.getElem?_toList,hp];exact h1) (by rw[←Array.getElem?_toList];exact h2)) hA
 have hc:=hS W (Old W) args.toList (fun b hb=>hb) (fun e he=>by cases he) .nil hR
 rw[Array.toArray_toList]at hc
 refine hc.mono ?_
 rintro e W' ⟨u,r,H',R',rfl,⟨rfl,rfl⟩,hs,hv⟩
 obtain rfl:=hv.val_inv
 exact⟨_,rfl,post W' (hs.mods.mono fun b _ ⟨e,he,_⟩=>by cases he)⟩
end Go.Proofs.YtojomcdjcpmnkaaGreat.A
namespace Go.Proofs.YtojomcdjcpmnkaaGreat.By
open Go.RowKit L A
theorem i64_in {z:Int}(h:(Lit.int .i64 z).wf=true): -9223372036854775808≤z∧z≤9223372036854775807:=by
 simpa[Lit.wf,IntKind.min,IntKind.max,IntKind.signed,IntKind.bits]using h
def u0u (o:Opt):Prop:=(Lit.int .i64 o.num).wf=true∧o.val.length≤maxLen
def v0D (m:Msg):Prop:=((Lit.int .i64 m.ty).wf=true∧(Lit.int .i64 m.code).wf=true∧(Lit.int .i64 m.id).wf=true)∧m.tok.length≤maxLen∧((∀o∈m.opts,u0u o)∧m.opts.length≤maxLen)∧m.pay.length≤maxLen
theorem v0e:RdC Tryz.prog 96 n0R u0u:=
 (RdC.struct Tryz.underlying96 (by kernel_rfl)
  (.cons (k:=1) (RdC.int Tryz.underlying3 (by kernel_rfl)) rfl (by kernel_rfl)
  (.cons (k:=1) (RdC.bytes Tryz.underlying22 Tryz.underlying5 (by kernel_rfl) (by kernel_rfl)) rfl (by kernel_rfl) .nil))).map
  (fun p=>⟨p.1,p.2.1⟩) (fun p h=>⟨⟨h.1,h.2.1⟩,rfl⟩) (fun _=>by show 2=_;kernel_rfl)
theorem v0f:RdC Tryz.prog 29 u0k v0D:=
 (RdC.struct Tryz.underlying29 (by kernel_rfl)
  (.cons (k:=1) (RdC.int Tryz.underlying3 (by kernel_rfl)) rfl (by kernel_rfl)
  (.cons (k:=1) (RdC.int Tryz.underlying3 (by kernel_rfl)) rfl (by kernel_rfl)
  (.cons (k:=1) (RdC.int Tryz.underlying3 (by kernel_rfl)) rfl (by kernel_rfl)
  (.cons (k:=1) (RdC.bytes Tryz.underlying22 Tryz.underlying5 (by kernel_rfl) (by kernel_rfl)) rfl (by kernel_rfl)
  (.cons (k:=1) (RdC.slice Tryz.underlying27 (by kernel_rfl) (of_decide_eq_true (by kernel_rfl)) v0e) rfl (by kernel_rfl)
  (.cons (k:=1) (RdC.bytes Tryz.underlying22 Tryz.underlying5 (by kernel_rfl) (by kernel_rfl)) rfl (by kernel_rfl) .nil))))))).map
  (fun p=>⟨p.1,p.2.1,p.2.2.1,p.2.2.2.1,p.2.2.2.2.1,p.2.2.2.2.2.1⟩) (fun p h=>⟨⟨⟨h.1,h.2.1,h.2.2.1⟩,h.2.2.2.1,h.2.2.2.2.1,h.2.2.2.2.2.1⟩,rfl⟩) (fun _=>by show 6=_;kernel_rfl)
end Go.Proofs.YtojomcdjcpmnkaaGreat.By
namespace Go.Proofs.YtojomcdjcpmnkaaGreat.By
open Go.RowKit Go.Deep L A
abbrev q0R (b:Bd):Prop:=b.ctx.length≤maxLen∧b.kid.length≤maxLen∧(Lit.int .i64 b.piv).wf=true
theorem w0s:RdC Tryz.prog 42 cBd q0R:=
 (RdC.struct Tryz.underlying42 (by kernel_rfl)
  (.cons (k:=1) (RdC.bytes Tryz.underlying22 Tryz.underlying5 (by kernel_rfl) (by kernel_rfl)) rfl (by kernel_rfl)
  (.cons (k:=1) (RdC.bytes Tryz.underlying22 Tryz.underlying5 (by kernel_rfl) (by kernel_rfl)) rfl (by kernel_rfl)
  (.cons (k:=1) (RdC.int Tryz.underlying3 (by kernel_rfl)) rfl (by kernel_rfl) .nil)))).map
  (fun p=>⟨p.1,p.2.1,p.2.2.1⟩) (fun p h=>⟨⟨h.1,h.2.1,h.2.2.1⟩,rfl⟩) (fun _=>by show 3=_;kernel_rfl)
abbrev u0t (r:Rg):Prop:=r.tok.length≤maxLen∧q0R r.b∧(Lit.int .i64 r.top).wf=true
theorem w0r:RdC Tryz.prog 66 cRg u0t:=
 (RdC.struct Tryz.underlying66 (by kernel_rfl)
  (.cons (k:=1) (RdC.bytes Tryz.underlying22 Tryz.underlying5 (by kernel_rfl) (by kernel_rfl)) rfl (by kernel_rfl)
  (.cons (k:=3) w0s rfl (by kernel_rfl)
  (.cons (k:=1) (RdC.int Tryz.underlying3 (by kernel_rfl)) rfl (by kernel_rfl)
  (.cons (k:=1) (RdC.bool Tryz.underlying4 (by kernel_rfl)) rfl (by kernel_rfl) .nil))))).map
  (fun p=>⟨p.1,p.2.1,p.2.2.1,p.2.2.2.1⟩) (fun p h=>⟨⟨h.1,h.2.1,h.2.2.1⟩,rfl⟩) (fun _=>by show 6=_;kernel_rfl)
end Go.Proofs.YtojomcdjcpmnkaaGreat.By
