/-
  OscoreResponses, the statement: for every input the law returns true, and its arguments read as before. No condition.
-/
import Derived.ChangeSame
import Derived.JoinedOf
import Derived.JoinedAt
import Derived.RowKit3
import Derived.ReadAgain
import Derived.Deep.Slices
import Derived.ChangeSlices
import Derived.Test.YtojomcdjcpmnkaaGreatZs5
set_option linter.unusedVariables false
set_option linter.unusedSimpArgs false
set_option maxRecDepth 20000
set_option maxHeartbeats 4000000
namespace Go.Proofs.YtojomcdjcpmnkaaGreat.By
open Go.RowKit L A
attribute [local irreducible] AW AQ AO
theorem q0P {c:Cmp}(h:(c0O c).2=0):i0Y c:=by
 by_cases hv:i0Y c
 ·exact hv
 unfold c0O at h;rw[if_pos hv]at h;cases h
theorem m0O {m:Msg}(h:(a0S m).2=0):i0Y (a0S m).1:=by
 unfold a0S at*
 split at h
 ·cases h
 ·rename_i v e
  exact q0P (by rw[p0I (r:=v) (y:=(n0S v).1) (by rw[←h])])
 cases h
abbrev SmT (m:Msg):Prop:=SmS m∧m.pay.length≤900000
abbrev d0c (c:Cx)(b:Bd):Prop:=b.kid=c.inp.snd∧b.ctx=c.inp.ctx∧b0R b.piv
abbrev l0Z (v:Cmp):Prop:=v.hasKid=false∧v.hasCtx=false∧v.group=false
noncomputable def orP (c:Cx)(b:Bd)(m:Msg):Msg×Int:=h0v c.rk m (b0r c b c.inp.rcp (a0S m).1.piv) (h0Q b.kid b.piv).1 false
noncomputable def orR (c:Cx)(b:Bd)(m:Msg):Msg×Int×Int:=
 if ¬d0D c then(Msg.none,0,1)else if ¬d0c c b then(Msg.none,0,36)else
 if(a0S m).2≠0 then(Msg.none,0,(a0S m).2)else if ¬l0Z (a0S m).1 then(Msg.none,0,4)else
 if(orP c b m).2≠0 then(Msg.none,0,(orP c b m).2)else((orP c b m).1,(a0S m).1.piv,0)
abbrev v0D (r:Msg×Int×Int):AV:= .tup [a0U r.1,.val (.int .i64 r.2.1),.val (.int .i64 r.2.2)]
theorem t0y {c:Cx}{b:Bd}{m:Msg}(h: ¬d0D c):orR c b m=(Msg.none,0,1):=if_pos h
theorem t0x {c:Cx}{b:Bd}{m:Msg}(h:d0D c)(h2: ¬d0c c b):orR c b m=(Msg.none,0,36):=(if_neg (fun g=>g h)).trans (if_pos h2)
theorem t0w {c:Cx}{b:Bd}{m:Msg}(h:d0D c)(h2:d0c c b)(h3:(a0S m).2≠0):orR c b m=(Msg.none,0,(a0S m).2):=(if_neg (fun g=>g h)).trans ((if_neg (fun g=>g h2)).trans (if_pos h3))
theorem t0v {c:Cx}{b:Bd}{m:Msg}(h:d0D c)(h2:d0c c b)(h3:(a0S m).2=0)(h4: ¬l0Z (a0S m).1):orR c b m=(Msg.none,0,4):=(if_neg (fun g=>g h)).trans ((if_neg (fun g=>g h2)).trans ((if_neg (fun g=>g h3)).trans (if_pos h4)))
theorem r0H {c:Cx}{b:Bd}{m:Msg}(h:d0D c)(h2:d0c c b)(h3:(a0S m).2=0)(h4:l0Z (a0S m).1)(h5:(orP c b m).2≠0):orR c b m=(Msg.none,0,(orP c b m).2):=(if_neg (fun g=>g h)).trans ((if_neg (fun g=>g h2)).trans ((if_neg (fun g=>g h3)).trans ((if_neg (fun g=>g h4)).trans (if_pos h5))))
theorem r0G {c:Cx}{b:Bd}{m:Msg}(h:d0D c)(h2:d0c c b)(h3:(a0S m).2=0)(h4:l0Z (a0S m).1)(h5:(orP c b m).2=0):orR c b m=((orP c b m).1,(a0S m).1.piv,0):=(if_neg (fun g=>g h)).trans ((if_neg (fun g=>g h2)).trans ((if_neg (fun g=>g h3)).trans ((if_neg (fun g=>g h4)).trans (if_neg (fun g=>g h5)))))
theorem t0z (c:Cx)(b:Bd)(m:Msg)(hm:SmT m):Sp Tryz.prog 48 [g0p c,g0j b,a0U m] [] (Is (v0D (orR c b m))):=by
 have hmo:=s0Y hm.1
 refine yN Tryz.func48 _ Tryz.ntmps48 (fun w0 R0=> ?_)
 refine zD (zr ?_)
 refine ye ?_
 intro B1
 refine ye ?_
 intro B2
 refine ye ?_
 intro B3
 refine zd ?_
 intro B4
 refine zc ?_
 refine zc (zI (zo (zD (zD (zr ?_)))))
 refine zC ?_
 refine vT (xH rfl Tryz.func27 rfl rfl rfl (f0C c)) ?_
 refine xq (zI (zo ?_))
 refine yk (fun h1=> ?_) (fun h1=> ?_)<;>(try simp only[vX]at h1)
 ·rw[t0y h1]
  refine zD (zr ?_)
  refine zN ?_
  refine za 0 ?_
  refine zc ?_
  refine zc (zI (zo (xc (xr ?_))))
  refine x8 xg zj (⟨rfl,rfl⟩)
 have h1':d0D c:=h1
 obtain⟨-,k9,k10,k11⟩:=id h1'
 refine yX (zo (zD (zD (zr ?_))))
 refine zt ?_
 refine zn ?_
 refine zt ?_
 refine zt ?_
 refine zn ?_
 refine vT (xH rfl Tryz.func92 rfl rfl rfl (f0a _ _)) ?_
 refine xq ?_
 refine zb ?_
 refine zM ?_
 refine zX 26 ?_
 refine zM ?_
 refine AO.opG rfl rfl rfl (fun hp=>wW 28 rfl (by exact hp) zw) ?_
 refine zX 29 ?_
 refine AO.opG rfl rfl rfl (fun hp=>wW 27 rfl (by exact hp) (wW 30 rfl (by exact hp) (xH rfl Tryz.func92 rfl rfl rfl (f0a _ _)))) ?_
 refine yZ 31 ?_
 refine zE ?_
 refine zb ?_
 refine zM ?_
 refine zX 35 ?_
 refine AO.opG rfl rfl rfl (fun hp=>wW 36 rfl (by exact hp) (xH rfl Tryz.func58 rfl rfl rfl (h0w _))) ?_
 refine yZ 37 ?_
 refine zE (zI (zo ?_))
 refine yk (fun h2=> ?_) (fun h2=> ?_)<;>(try simp only[vX]at h2)
 ·rw[t0x h1' (fun g=>by
   obtain⟨g1,g2,g3⟩:=g
   rcases h2 with(h|h)|h
   ·exact h g1
   ·exact h g2
   exact h g3)]
  refine zD (zr ?_)
  refine zN ?_
  refine za 0 ?_
  refine zc ?_
  refine zc (zI (zo (xc (xr ?_))))
  refine x8 xg zj (⟨rfl,rfl⟩)
 have h2':d0c c b:=⟨h2.1.1,h2.1.2,h2.2⟩
 refine yX (zo (zD (zr ?_)))
 refine zC ?_
 refine vT (xH rfl Tryz.func21 rfl rfl rfl (p0h m hmo)) ?_
 refine zb ?_
 refine zO ?_
 refine zO ?_
 refine zd ?_
 intro B5
 refine za 0 ?_
 refine zc (zI (zo (zD (zD (zr ?_)))))
 refine zb ?_
 refine y1 (zI (zo ?_))
 refine yk (fun h3=> ?_) (fun h3=> ?_)<;>(try simp only[vX]at h3)
 ·rw[t0w h1' h2' h3]
  refine zD (zr ?_)
  refine zN ?_
  refine zb ?_
  refine za 1 ?_
  refine zc ?_
  refine zc (zI (zo (xc (xr ?_))))
  refine x8 y4 zj (⟨rfl,rfl⟩)
 refine yX (zo (zD (zD (zr ?_))))
 refine zt ?_
 refine zy ?_
 refine zb ?_
 refine zM ?_
 refine zv 53 ?_
 refine zE ?_
 refine zb ?_
 refine zM ?_
 refine zv 57 ?_
 refine zE (zI (zo ?_))
 refine yk (fun h4=> ?_) (fun h4=> ?_)<;>(try simp only[vX]at h4)
 ·rw[t0v h1' h2' h3 (fun g=>by
   obtain⟨g1,g2,g3⟩:=g
   rw[g1,g2,g3]at h4
   simp at h4)]
  refine zD (zr ?_)
  refine zN ?_
  refine za 1 ?_
  refine zc ?_
  refine zc (zI (zo (xc (xr ?_))))
  refine x8 y4 zj (⟨rfl,rfl⟩)
 have h4':l0Z (a0S m).1:=by
  obtain⟨⟨g1,g2⟩,g3⟩:=h4
  exact⟨by simpa using g1,by simpa using g2,by simpa using g3⟩
 have hal:=e0e b.kid b.piv
 have hop:Sp Tryz.prog 93 [g0p c,a0U m,roB (b0r c b c.inp.rcp (a0S m).1.piv),roB (h0Q b.kid b.piv).1,.fn (.func 91) []] [] (Is (g0r (orP c b m))):=l0x c m _ _ hm.1 (by omega) hm.2
 refine yX (zo (zD (zr ?_)))
 refine zt ?_
 refine zn ?_
 refine zt ?_
 refine zn ?_
 refine vT (xH rfl Tryz.func60 rfl rfl rfl (j0O _ _)) ?_
 refine zb ?_
 refine zO ?_
 refine zO ?_
 refine zc ?_
 refine zc (zI (zo (zD ?_)))
 refine AW.regionM [(0,false),(1,false),(2,false),(3,false),(4,false),(5,false),(6,false),(7,false),(8,false),(9,false),(10,false),(11,false),(12,false),(13,false),(14,false),(15,false),(16,true),(17,true),(18,false)] (by kernel_rfl) (by kernel_rfl) (by exact a0h) ?_
 dsimp only[List.eraseIdx]
 refine zZ ?_
 refine zZ ?_
 refine zZ ?_
 refine zZ ?_
 refine xd ?_
 refine xd ?_
 refine yT ?_
 refine vU rfl (xH rfl Tryz.func78 rfl rfl rfl (i0O c b c.inp.rcp)) ?_
 refine xd ?_
 refine we ?_
 refine vU rfl (O.callV rfl rfl Tryz.func131 rfl rfl rfl (g0W c b c.inp.rcp (a0S m).1.piv (by omega))) ?_
 refine yR ?_
 refine vU rfl (xH rfl Tryz.func93 rfl rfl rfl hop) ?_
 refine yR ?_
 refine vU rfl yy ?_
 refine vU rfl yy ?_
 refine xX _ (fun w0 R0=> ?_)
 refine zd ?_
 intro B6
 refine AM.ok ?_
 dsimp only[a0z]
 refine xX _ (fun w0 R0=> ?_)
 refine za 0 (AM.okN ?_)
 dsimp only[a0z]
 refine wM ?_
 refine vg ?_
 dsimp only[cA,cN]
 refine zo (zD (zD (zr ?_)))
 refine zb ?_
 refine y1 (zI (zo ?_))
 refine yk (fun h5=> ?_) (fun h5=> ?_)<;>(try simp only[vX]at h5)
 ·rw[r0H h1' h2' h3 h4' h5]
  refine zD (zr ?_)
  refine zN ?_
  refine zb ?_
  refine za 2 ?_
  refine zc ?_
  refine zc (zI (zo (xc (xr ?_))))
  refine x8 y4 zj (⟨rfl,rfl⟩)
 rw[r0G h1' h2' h3 h4' h5]
 refine yX (zo (zD ?_))
 refine AW.regionM [(0,false),(1,false),(2,false),(3,true),(4,false),(5,false)] (by kernel_rfl) (by kernel_rfl) (by exact(by exact a0C 6 2 rfl rfl a0h)) ?_
 dsimp only[List.eraseIdx]
 refine yO ?_
 refine xd ?_
 refine yT ?_
 refine xX _ (fun w0 R0=> ?_)
 refine za 0 (AM.okN ?_)
 dsimp only[a0z]
 refine wM ?_
 refine wM ?_
 refine vg ?_
 dsimp only[cA,cN]
 refine zo (xc ?_)
 refine x8 xg xe (⟨rfl,rfl⟩)
theorem t0c (c:Cx)(b:Bd)(m:Msg)(hm:SmT m):Sp Tryz.prog 49 [g0p c,g0j b,a0U m] [] (Is (v0D (orR c b m))):=by
 have hmo:=s0Y hm.1
 refine yN Tryz.func49 _ Tryz.ntmps49 (fun w0 R0=> ?_)
 refine zD (zr ?_)
 refine ye ?_
 intro B1
 refine ye ?_
 intro B2
 refine ye ?_
 intro B3
 refine zd ?_
 intro B4
 refine zc ?_
 refine zc (zI (zo (zD (zD (zr ?_)))))
 refine zC ?_
 refine vT (xH rfl Tryz.func28 rfl rfl rfl (e0p c)) ?_
 refine xq (zI (zo ?_))
 refine yk (fun h1=> ?_) (fun h1=> ?_)<;>(try simp only[vX]at h1)
 ·rw[t0y h1]
  refine zD (zr ?_)
  refine zN ?_
  refine za 0 ?_
  refine zc ?_
  refine zc (zI (zo (xc (xr ?_))))
  refine x8 xg zj (⟨rfl,rfl⟩)
 have h1':d0D c:=h1
 obtain⟨-,k9,k10,k11⟩:=id h1'
 refine yX (zo (zD (zD (zr ?_))))
 refine zt ?_
 refine zn ?_
 refine zt ?_
 refine zt ?_
 refine zn ?_
 refine vT (xH rfl Tryz.func31 rfl rfl rfl (b0S _ _)) ?_
 refine xq ?_
 refine zb ?_
 refine zM ?_
 refine zX 28 ?_
 refine zM ?_
 refine AO.opG rfl rfl rfl (fun hp=>wW 30 rfl (by exact hp) zw) ?_
 refine zX 31 ?_
 refine AO.opG rfl rfl rfl (fun hp=>wW 29 rfl (by exact hp) (wW 32 rfl (by exact hp) (xH rfl Tryz.func31 rfl rfl rfl (b0S _ _)))) ?_
 refine yZ 33 ?_
 refine zE ?_
 refine zb ?_
 refine zM ?_
 refine zX 37 ?_
 refine AO.opG rfl rfl rfl (fun hp=>wW 38 rfl (by exact hp) (xH rfl Tryz.func64 rfl rfl rfl (j0r _))) ?_
 refine zE (zI (zo ?_))
 refine yk (fun h2=> ?_) (fun h2=> ?_)<;>(try simp only[vX]at h2)
 ·rw[t0x h1' (fun g=>by
   obtain⟨g1,g2,g3⟩:=g
   rcases h2 with(h|h)|h
   ·exact h g1
   ·exact h g2
   exact h g3)]
  refine zD (zr ?_)
  refine zN ?_
  refine za 0 ?_
  refine zc ?_
  refine zc (zI (zo (xc (xr ?_))))
  refine x8 xg zj (⟨rfl,rfl⟩)
 have h2':d0c c b:=⟨h2.1.1,h2.1.2,(by exact h2.2)⟩
 refine yX (zo (zD (zr ?_)))
 refine zC ?_
 refine vT (xH rfl Tryz.func22 rfl rfl rfl (o0I m hmo)) ?_
 refine zb ?_
 refine zO ?_
 refine zO ?_
 refine zd ?_
 intro B5
 refine za 0 ?_
 refine zc (zI (zo (zD (zD (zr ?_)))))
 refine zb ?_
 refine y1 (zI (zo ?_))
 refine yk (fun h3=> ?_) (fun h3=> ?_)<;>(try simp only[vX]at h3)
 ·rw[t0w h1' h2' h3]
  refine zD (zr ?_)
  refine zN ?_
  refine zb ?_
  refine za 1 ?_
  refine zc ?_
  refine zc (zI (zo (xc (xr ?_))))
  refine x8 y4 zj (⟨rfl,rfl⟩)
 have hvc:=m0O h3
 refine yX (zo (zD (zD (zr ?_))))
 refine zt ?_
 refine zy ?_
 refine zb ?_
 refine zM ?_
 refine zv 54 ?_
 refine zE ?_
 refine zb ?_
 refine zM ?_
 refine zv 58 ?_
 refine zE (zI (zo ?_))
 refine yk (fun h4=> ?_) (fun h4=> ?_)<;>(try simp only[vX]at h4)
 ·rw[t0v h1' h2' h3 (fun g=>by
   obtain⟨g1,g2,g3⟩:=g
   rw[g1,g2,g3]at h4
   simp at h4)]
  refine zD (zr ?_)
  refine zN ?_
  refine za 1 ?_
  refine zc ?_
  refine zc (zI (zo (xc (xr ?_))))
  refine x8 y4 zj (⟨rfl,rfl⟩)
 have h4':l0Z (a0S m).1:=by
  obtain⟨⟨g1,g2⟩,g3⟩:=h4
  exact⟨by simpa using g1,by simpa using g2,by simpa using g3⟩
 have hal:=e0e b.kid b.piv
 obtain⟨⟨p1,p2, -, -⟩, -⟩:=hvc
 have hop:Sp Tryz.prog 94 [a0U m,roB m.pay,roB c.rk,roB (b0r c b c.inp.rcp (a0S m).1.piv),roB (h0Q b.kid b.piv).1,.val (.bool false)] [] (Is (g0r (orP c b m))):=n0k m _ _ _ false hm.1 (by omega) hm.2
 refine yX (zo (zD (zr ?_)))
 refine zt ?_
 refine zn ?_
 refine zt ?_
 refine zn ?_
 refine zt ?_
 refine zn ?_
 refine vT (xH rfl Tryz.func66 rfl rfl rfl (d0N _ _ _ (by omega))) ?_
 refine zb ?_
 refine zO ?_
 refine zO ?_
 refine zc ?_
 refine zc (zI (zo (zD (zD (zr ?_)))))
 refine zt ?_
 refine zy ?_
 refine ww (zI (zo ?_))
 refine yk (fun h6=> ?_) (fun h6=> ?_)<;>(try simp only[vX]at h6)
 ·rw[i0P (by omega)]at hop
  refine zr ?_
  refine zt ?_
  refine zn ?_
  refine zt ?_
  refine zt ?_
  refine zn ?_
  refine zt ?_
  refine zy ?_
  refine vT (xH rfl Tryz.func66 rfl rfl rfl (d0N _ _ _ (by omega))) ?_
  refine zb ?_
  refine zO ?_
  refine zO ?_
  refine zc (zI (zo (zD (zr ?_))))
  refine zt ?_
  refine zn ?_
  refine zt ?_
  refine zn ?_
  refine vT (xH rfl Tryz.func67 rfl rfl rfl (j0s _ _)) ?_
  refine zb ?_
  refine zO ?_
  refine zO ?_
  refine zc ?_
  refine zc (zI (zo (zD (zr ?_))))
  refine zC ?_
  refine zt ?_
  refine zn ?_
  refine zt ?_
  refine zn ?_
  refine zb ?_
  refine zb ?_
  refine vT (xH rfl Tryz.func94 rfl rfl rfl hop) ?_
  refine zb ?_
  refine zO ?_
  refine zO ?_
  refine zd ?_
  intro B6
  refine za 0 ?_
  refine zc (zI (zo (zD (zD (zr ?_)))))
  refine zb ?_
  refine y1 (zI (zo ?_))
  refine yk (fun h5=> ?_) (fun h5=> ?_)<;>(try simp only[vX]at h5)
  ·rw[r0H h1' h2' h3 h4' h5]
   refine zD (zr ?_)
   refine zN ?_
   refine zb ?_
   refine za 2 ?_
   refine zc ?_
   refine zc (zI (zo (xc (xr ?_))))
   refine x8 y4 zj (⟨rfl,rfl⟩)
  rw[r0G h1' h2' h3 h4' h5]
  refine yX (zo (zD ?_))
  refine AW.regionM [(0,false),(1,false),(2,false),(3,true),(4,false),(5,false)] (by kernel_rfl) (by kernel_rfl) (by exact(by exact a0C 6 2 rfl rfl a0h)) ?_
  dsimp only[List.eraseIdx]
  refine yO ?_
  refine xd ?_
  refine yT ?_
  refine xX _ (fun w0 R0=> ?_)
  refine za 0 (AM.okN ?_)
  dsimp only[a0z]
  refine wM ?_
  refine wM ?_
  refine vg ?_
  dsimp only[cA,cN]
  refine zo (xc ?_)
  refine x8 xg xe (⟨rfl,rfl⟩)
 rw[i0Q (by omega)]at hop
 refine yX (zo (zD (zr ?_)))
 refine zt ?_
 refine zn ?_
 refine zt ?_
 refine zn ?_
 refine vT (xH rfl Tryz.func67 rfl rfl rfl (j0s _ _)) ?_
 refine zb ?_
 refine zO ?_
 refine zO ?_
 refine zc ?_
 refine zc (zI (zo (zD (zr ?_))))
 refine zC ?_
 refine zt ?_
 refine zn ?_
 refine zt ?_
 refine zn ?_
 refine zb ?_
 refine zb ?_
 refine vT (xH rfl Tryz.func94 rfl rfl rfl hop) ?_
 refine zb ?_
 refine zO ?_
 refine zO ?_
 refine zd ?_
 intro B7
 refine za 0 ?_
 refine zc (zI (zo (zD (zD (zr ?_)))))
 refine zb ?_
 refine y1 (zI (zo ?_))
 refine yk (fun h5=> ?_) (fun h5=> ?_)<;>(try simp only[vX]at h5)
 ·rw[r0H h1' h2' h3 h4' h5]
  refine zD (zr ?_)
  refine zN ?_
  refine zb ?_
  refine za 2 ?_
  refine zc ?_
  refine zc (zI (zo (xc (xr ?_))))
  refine x8 y4 zj (⟨rfl,rfl⟩)
 rw[r0G h1' h2' h3 h4' h5]
 refine yX (zo (zD ?_))
 refine AW.regionM [(0,false),(1,false),(2,false),(3,true),(4,false),(5,false)] (by kernel_rfl) (by kernel_rfl) (by exact(by exact a0C 6 2 rfl rfl a0h)) ?_
 dsimp only[List.eraseIdx]
 refine yO ?_
 refine xd ?_
 refine yT ?_
 refine xX _ (fun w0 R0=> ?_)
 refine za 0 (AM.okN ?_)
 dsimp only[a0z]
 refine wM ?_
 refine wM ?_
 refine vg ?_
 dsimp only[cA,cN]
 refine zo (xc ?_)
 refine x8 xg xe (⟨rfl,rfl⟩)
abbrev Win:=Wi.Win
abbrev v0s (v:Cmp):Prop:=0≤v.piv∧v.hasKid=true∧v.group=false
abbrev s0w (c:Cx)(v:Cmp):Prop:=v.kid=c.inp.rcp∧v.hasCtx=c.inp.has∧v.ctx=c.inp.ctx
noncomputable def oqP (c:Cx)(m:Msg):Msg×Int:=h0v c.rk m (b0z c.com (a0S m).1.kid (a0S m).1.piv).1 (h0Q (a0S m).1.kid (a0S m).1.piv).1 true
abbrev v0z (w:Win)(n:Int):Prop:=w.l=true∨Wi.check w n=0
abbrev s0B (e:Int):Msg×Bd×Win×Int:=(Msg.none,Bd.none,Wi.zeroW,e)
noncomputable def oqR (c:Cx)(w:Win)(m:Msg):Msg×Bd×Win×Int:=
 if ¬(d0D c∧Wi.valid w=true)then s0B 1 else
 if(a0S m).2≠0 then s0B (a0S m).2 else if ¬v0s (a0S m).1 then s0B 4 else if ¬s0w c (a0S m).1 then s0B 18 else
 if ¬v0z w (a0S m).1.piv then s0B (Wi.check w (a0S m).1.piv)else
 if(oqP c m).2≠0 then s0B (oqP c m).2 else((oqP c m).1,⟨(a0S m).1.ctx,(a0S m).1.kid,(a0S m).1.piv⟩,(if w.l=true then w else Wi.acc w (a0S m).1.piv),0)
end Go.Proofs.YtojomcdjcpmnkaaGreat.By
namespace Go.Proofs.YtojomcdjcpmnkaaGreat.Wi
open Go.RowKit L A Dk W
attribute [local irreducible] AW AQ AO
end Go.Proofs.YtojomcdjcpmnkaaGreat.Wi
namespace Go.Proofs.YtojomcdjcpmnkaaGreat.By
open Go.RowKit L A Dk
attribute [local irreducible] AW AQ AO
abbrev SmC (m:Msg):Prop:=m.tok.length≤1000∧m.pay.length≤10000∧m.opts.length≤100∧ ∀o∈m.opts,o.val.length≤10000
theorem c0y:SmC Msg.none:=⟨by simp[Msg.none],by simp[Msg.none],by simp[Msg.none],fun o ho=>by cases ho⟩
theorem r0a {m:Msg}(h:ValM m):SmC m:=by
 obtain⟨h1,h2,h3,h4⟩:=ValM.sm h
 refine⟨by omega,by omega,by omega,fun o ho=> ?_⟩
 obtain⟨k,hk,rfl⟩:=List.getElem_of_mem ho
 have:=h4 k hk
 have e:oat m.opts k=m.opts[k]:=by simp[hk]
 rw[e]at this;omega
theorem m0r {m:Msg}(h:g0m m):SmC m:=by
 obtain⟨⟨h1,h2,h3⟩,h4⟩:=h
 refine⟨by omega,by omega,by omega,fun o ho=> ?_⟩
 obtain⟨k,hk,rfl⟩:=List.getElem_of_mem ho
 have:=h4 k hk
 have e:oat m.opts k=m.opts[k]:=by simp[hk]
 rw[e]at this;omega
theorem o0B {m:Msg}(h:SmC m):SmT m:=by
 obtain⟨h1,h2,h3,h4⟩:=h
 exact⟨⟨by omega,by omega,by omega,fun o ho=>by have:=h4 o ho;omega⟩,by omega⟩
theorem u0J {m:Msg}(h:SmC m):SmM m:=by
 obtain⟨h1,h2,h3,h4⟩:=h
 exact⟨by omega,by omega,by omega,fun o ho=>by have:=h4 o ho;omega⟩
theorem m0A (outer inner:Msg)(v:Cmp)(key nonce aad:List UInt8):SmC (h0m outer inner v key nonce aad).1:=by
 by_cases h1:(b0n inner).2≠0
 ·rw[j0l h1];exact c0y
 have h1:=Decidable.not_not.1 h1
 by_cases h2:d0s key nonce aad (b0n inner).1 8≠0
 ·rw[j0k h1 h2];exact c0y
 have h2:=Decidable.not_not.1 h2
 by_cases h3:(d0X (n0g outer inner v key nonce aad)).2≠0
 ·rw[j0j h1 h2 h3];exact c0y
 have h3:=Decidable.not_not.1 h3
 rw[h0l h1 h2 h3]
 by_cases hv:ValM (n0g outer inner v key nonce aad)
 ·exact r0a hv
 rw[d0X,if_neg hv]at h3;cases h3
theorem m0Z (m:Msg)(v:Cmp)(key nonce aad:List UInt8):SmC (l0r m v key nonce aad).1:=by
 by_cases h:(a0u m).2.2≠0
 ·rw[j0t h];exact c0y
 rw[h0p (Decidable.not_not.1 h)];exact m0A ..
theorem f0y (c:Cx)(b:Bd)(m:Msg)(piv:Int):SmC (d0P c b m piv).1:=by
 unfold d0P
 split
 ·exact c0y
 split
 ·exact c0y
 split
 ·exact c0y
 exact m0Z ..
def IsT (r:AV):Prop:= ∃m,SmT m∧r=a0U m
theorem h0j {m:Msg}(h:SmC m)(n:Int){vs:List (List UInt8)}(hv:vs.length≤200)(hs: ∀v∈vs,v.length≤20000):SmT ⟨m.ty,m.code,m.id,m.tok,e0m m.opts n vs,m.pay⟩:=by
 obtain⟨h1,h2,h3,h4⟩:=h
 have:=h0k m.opts n vs
 refine⟨⟨by show m.tok.length≤_;omega,by show m.pay.length≤_;omega,by show(e0m m.opts n vs).length≤_;omega,fun o ho=> ?_⟩,by show m.pay.length≤_;omega⟩
 rcases d0f ho with h|⟨v,h,rfl⟩
 ·have:=h4 o h;omega
 have:=hs v h;show v.length≤_;omega
abbrev u0M (m:Msg)(n:Int)(vs:List (List UInt8)):Msg:=⟨m.ty,m.code,m.id,m.tok,e0m m.opts n vs,m.pay⟩
theorem j0h {m:Msg}(h:SmC m)(n:Int)(vs:List (List UInt8))(hv:vs.length≤200)(hs: ∀v∈vs,v.length≤20000):Sp Tryz.prog 25 [a0U m,.val (.int .i64 n),r0j vs] [] (Is (a0U (u0M m n vs))):=by
 obtain⟨h1,h2,h3,h4⟩:=h
 exact m0x m n vs (by omega) (by omega) (by omega) (by omega) (fun o ho=>by have:=h4 o ho;omega) (fun v hv=>by have:=hs v hv;omega)
theorem k0k {m:Msg}(h:SmC m)(n:Int)(x:List UInt8)(hx:x.length≤20000):Sp Tryz.prog 25 [a0U m,.val (.int .i64 n),.ro false 1 [roB x]] [] (Is (a0U (u0M m n [x]))):=j0h h n [x] (by simp) (fun v hv=>by obtain rfl:=List.mem_singleton.1 hv;exact hx)
theorem r0x {m:Msg}(h:SmC m){x:List UInt8}(hx:x.length≤20000):SmT ⟨m.ty,m.code,m.id,m.tok,m.opts,x⟩:=by
 obtain⟨h1,h2,h3,h4⟩:=h
 exact⟨⟨by show m.tok.length≤_;omega,by show x.length≤_;omega,by show m.opts.length≤_;omega,fun o ho=>by have:=h4 o ho;omega⟩,by show x.length≤_;omega⟩
theorem u0c (l:List (List UInt8)):(bsA l).all AV.one=true:=by
 rw[List.all_eq_true]
 intro x hx
 unfold bsA at hx
 obtain⟨v, -,rfl⟩:=List.mem_map.1 hx
 rfl
theorem l0Q (m:Msg)(what at' by':Int)(h:SmC m)(hby: -9223372036854775808≤by'∧by'≤9223372036854775807):Sp Tryz.prog 47 [a0U m,.val (.int .i64 what),.val (.int .i64 at'),.val (.int .i64 by')] [] (u0l IsT):=by
 have h3:m.opts.length≤1000000:=by have:=h.2.2.1;omega
 have hat: ∀o∈m.opts,o.val.length≤140737488355328:=fun o ho=>by have:=h.2.2.2 o ho;omega
 refine yN Tryz.func47 _ Tryz.ntmps47 (fun w0 R0=> ?_)
 refine zD (zr ?_)
 refine ye ?_
 intro B1
 refine zd ?_
 intro B2
 refine zI (zo (zD (zr ?_)))
 refine zC ?_
 refine vT (xH rfl Tryz.func38 rfl rfl rfl (s0j m (u0J h))) ?_
 refine zd ?_
 intro B3
 refine za 0 (zI (zo (zD (zr ?_))))
 refine zC ?_
 refine vV (xH rfl Tryz.func71 rfl rfl rfl (o0j m 9 h3 hat)) ?_
 intro V4 hV4
 refine zc (zI (zo (zD (zD (zr ?_)))))
 refine zb ?_
 refine vT (xH rfl Tryz.func82 rfl rfl rfl (Dk.mod_fn _ _ (by omega) (by omega))) (zI (zo (xj (zD (zr ?_)))))
 refine z9 ?_
 refine zc (zI (zo ?_))
 have hav: ∀v∈b0B m.opts 9,v.length≤10000:=fun v hv=>by
  obtain⟨o,ho,rfl⟩:=h0O hv
  exact h.2.2.2 o ho
 have hal:(b0B m.opts 9).length≤100:=Nat.le_trans (d0r _ _) h.2.2.1
 have hpl:=h.2.1
 refine yk (fun c0=> ?_) (fun c0=> ?_)<;>(try simp only[vX]at c0)
 ·refine zr ?_
  refine zt ?_
  refine zn ?_
  refine zb ?_
  refine zb ?_
  refine AO.opN (xH rfl Tryz.func39 rfl rfl rfl (h0X _ _ _ (by omega) hby)) rfl rfl rfl ?_
  rintro _ _ ⟨⟨x5,hx5,rfl⟩,rfl⟩
  simp only[cA,cN]
  refine zt ?_
  refine za 1 (zI (xz (zo (zD (zr ?_)))))
  refine zC ?_
  refine za 2 (zI (zo (xc ?_)))
  refine AQ.retCell rfl rfl mM (by(dsimp only[List.set,cA,cN,List.take,List.drop];rfl)) rfl nS (⟨⟨_,r0x h (by omega),rfl⟩,rfl⟩)
 refine zD (zr ?_)
 refine z9 ?_
 refine zc (zI (zo ?_))
 refine yk (fun c1=> ?_) (fun c1=> ?_)<;>(try simp only[vX]at c1)
 ·refine AW.g ?_
  refine yf 0 [10] ?_
  refine AW.u ?_
  try dsimp only[List.map,List.eraseIdx,cA,cN]
  refine zD (zr ?_)
  refine zb ?_
  refine zW ?_
  refine yS (zI (zo ?_))
  refine yk (fun c2=> ?_) (fun c2=> ?_)<;>(try simp only[vX]at c2)
  ·have hv0:(vat (b0B m.opts 9) 0).length≤10000:=hav _ (b0f [] (by omega))
   refine vm [[(0,false),(1,false),(2,false),(3,false),(4,false),(5,false),(6,true),(7,false)],[(8,false)],[(9,true)]] ?_
   refine vO ?_
   try dsimp only[List.eraseIdx]
   refine yO ?_
   refine yR ?_
   refine vU rfl z6 ?_
   refine vU rfl (O.loadR rfl rfl (by exact e0P (k:=0) (by omega) rfl)) ?_
   refine yR ?_
   refine yR ?_
   refine xX _ (fun w0 R0=> ?_)
   refine AO.opN (xH rfl Tryz.func39 rfl rfl rfl (h0X (vat (b0B m.opts 9) 0) _ _ (by omega) hby)) rfl rfl rfl ?_
   rintro _ _ ⟨⟨x6,hx6,rfl⟩,rfl⟩
   simp only[cA,cN]
   refine AM.ok ?_
   dsimp only[a0z]
   refine xh ?_
   refine vg ?_
   try dsimp only[cA,cN]
   refine vO ?_
   try dsimp only[List.eraseIdx]
   refine vU rfl (xH rfl Tryz.func25 rfl rfl rfl (k0k h 9 _ (by omega))) ?_
   refine vg ?_
   try dsimp only[cA,cN]
   refine AMS.go (by exact(by exact a0C 9 0 rfl rfl a0h)) ?_
   try dsimp only[List.eraseIdx]
   refine xX _ (fun w0 R0=> ?_)
   refine za 0 (AM.okN ?_)
   dsimp only[a0z]
   refine vg ?_
   try dsimp only[cA,cN]
   refine AMS.nil (xz (zo (zD (zr ?_))))
   refine zB ?_
   refine za 1 (zI (zo (xc ?_)))
   refine AQ.retCell rfl rfl mM (by(dsimp only[List.set,cA,cN,List.take,List.drop];rfl)) rfl nS (⟨⟨_,h0j h 9 (by simp) (fun v hv=>by obtain rfl:=List.mem_singleton.1 hv;omega),rfl⟩,rfl⟩)
  refine yX (xz (zo (zD (zr ?_))))
  refine zB ?_
  refine za 1 (zI (zo (xc ?_)))
  refine AQ.retCell rfl rfl mM (by rfl) rfl nS (⟨⟨m,o0B h,rfl⟩,rfl⟩)
 refine zD (zr ?_)
 refine z9 ?_
 refine zc (zI (zo ?_))
 refine yk (fun c2=> ?_) (fun c2=> ?_)<;>(try simp only[vX]at c2)
 ·have hal2:(b0B m.opts 9++b0B m.opts 9).length=(b0B m.opts 9).length+(b0B m.opts 9).length:=List.length_append
  have hbs:bsA (b0B m.opts 9)++bsA (b0B m.opts 9)=bsA (b0B m.opts 9++b0B m.opts 9):=by unfold bsA;simp
  have hset:Sp Tryz.prog 25 [a0U m,.val (.int .i64 9),.ro false ((b0B m.opts 9).length+(b0B m.opts 9).length) (bsA (b0B m.opts 9)++bsA (b0B m.opts 9))] [] (Is (a0U (u0M m 9 (b0B m.opts 9++b0B m.opts 9)))):=by
   rw[hbs,←hal2]
   exact j0h h 9 _ (by omega) (fun v hv=>by rcases List.mem_append.1 hv with hv|hv<;>(have:=hav v hv;omega))
  refine vm [[(0,false),(1,false),(2,false),(3,true)],[(4,false)],[(5,true)]] ?_
  refine AMS.go (by exact(a0Y 0 rfl a0h)) ?_
  try dsimp only[List.eraseIdx]
  refine yO ?_
  refine yR ?_
  refine yR ?_
  refine xX _ (fun w0 R0=> ?_)
  refine AO.append' (i:=0) rfl rfl rfl rfl (by rfl) (by rfl) rfl rfl rfl (by exact SrcA.row TyD.ax (by repeat(exact List.Mem.head _)) (by(simp;done))) (by exact u0c _) (by(unfold maxLen;omega)) (by omega) (by(dsimp only[List.set,cA,cN,List.take,List.drop];done)) (fun _=>by(dsimp only[List.set];done)) ?_
  intro V7 hV7
  refine AO.g ?_
  refine yH 0 [44] ?_
  refine AO.u ?_
  dsimp only[List.map,List.eraseIdx,cA,cN]
  refine AM.ok ?_
  dsimp only[a0z]
  refine vg ?_
  try dsimp only[cA,cN]
  refine vO ?_
  try dsimp only[List.eraseIdx]
  refine vU rfl (xH rfl Tryz.func25 rfl rfl rfl hset) ?_
  refine vg ?_
  try dsimp only[cA,cN]
  refine AMS.go (by exact(by exact a0C 9 0 rfl rfl a0h)) ?_
  try dsimp only[List.eraseIdx]
  refine xX _ (fun w0 R0=> ?_)
  refine za 0 (AM.okN ?_)
  dsimp only[a0z]
  refine vg ?_
  try dsimp only[cA,cN]
  refine AMS.nil (xz (zo (zD (zr ?_))))
  refine zB ?_
  refine za 1 (zI (zo (xc ?_)))
  refine AQ.retCell rfl rfl mM (by(dsimp only[List.set,cA,cN,List.take,List.drop];rfl)) rfl nS (⟨⟨_,h0j h 9 (vs:=b0B m.opts 9++b0B m.opts 9) (by omega) (fun v hv=>by rcases List.mem_append.1 hv with hv|hv<;>(have:=hav v hv;omega)),rfl⟩,rfl⟩)
 refine AW.g ?_
 refine yf 0 [10] ?_
 refine AW.u ?_
 try dsimp only[List.map,List.eraseIdx,cA,cN]
 refine zD (zr ?_)
 refine z9 ?_
 refine zc (zI (zo ?_))
 refine yk (fun c3=> ?_) (fun c3=> ?_)<;>(try simp only[vX]at c3)
 ·refine zr ?_
  refine zB ?_
  refine vT (O.callC rfl Tryz.func25 rfl rfl rfl (j0h h 9 [] (by simp) (fun v hv=>by cases hv)) (by(repeat(first|exact CoeL.nil|refine CoeL.cons Coe.rfl ?_|refine CoeL.cons Coe.nil ?_));done)) ?_
  refine za 0 (zI (xz (zo (zD (zr ?_)))))
  refine zB ?_
  refine za 1 (zI (zo (xc ?_)))
  refine AQ.retCell rfl rfl mM (by(dsimp only[List.set,cA,cN,List.take,List.drop];rfl)) rfl nS (⟨⟨_,h0j h 9 (vs:= []) (by simp) (fun v hv=>by cases hv),rfl⟩,rfl⟩)
 refine zD (zr ?_)
 refine z9 ?_
 refine zc (zI (zo ?_))
 refine yk (fun c4=> ?_) (fun c4=> ?_)<;>(try simp only[vX]at c4)
 ·refine zr ?_
  refine zB ?_
  refine zb ?_
  refine xa ?_
  refine zQ ?_
  intro B8
  refine AO.g ?_
  refine yc 0 55 ?_
  refine wd 55 ?_
  refine AO.u ?_
  dsimp only[List.eraseIdx]
  refine zQ ?_
  intro B9
  refine AO.g ?_
  refine yc 0 56 ?_
  refine wd 56 ?_
  refine AO.u ?_
  dsimp only[List.eraseIdx]
  refine vT (xH rfl Tryz.func25 rfl rfl rfl (k0k h 6 [u8 by'] (by simp))) ?_
  refine za 0 (zI (xz (zo (zD (zr ?_)))))
  refine zB ?_
  refine za 1 (zI (zo (xc ?_)))
  refine AQ.retCell rfl rfl mM (by(dsimp only[List.set,cA,cN,List.take,List.drop];rfl)) rfl nS (⟨⟨_,h0j h 6 (vs:= [[u8 by']]) (by simp) (fun v hv=>by obtain rfl:=List.mem_singleton.1 hv;simp),rfl⟩,rfl⟩)
 refine yX (xz (zo (zD (zr ?_))))
 refine zB ?_
 refine za 1 (zI (zo (xc ?_)))
 refine AQ.retCell rfl rfl mM (by rfl) rfl nS (⟨⟨m,o0B h,rfl⟩,rfl⟩)
end Go.Proofs.YtojomcdjcpmnkaaGreat.By
namespace Go.Proofs.YtojomcdjcpmnkaaGreat.By
open Go.RowKit L A
theorem l0E {l:List Opt}{o:Opt}(h:o∈b0N l):o∈l:=by
 have key: ∀(l a:List Opt),o∈l.foldl c0N a→o∈a∨o∈l:=by
  intro l
  induction l with
  |nil=>intro a h;exact .inl h
  | cons x l ih=>
   intro a h
   rcases ih _ h with h|h
   ·unfold c0N at h
    rcases List.mem_append.1 h with h|h
    ·exact .inl (List.mem_of_mem_take h)
    rcases List.mem_append.1 h with h|h
    ·exact .inr (List.mem_cons.2 (.inl (List.mem_singleton.1 h)))
    exact .inl (List.mem_of_mem_drop h)
   exact .inr (List.mem_cons_of_mem _ h)
 rcases key l [] h with h|h
 ·cases h
 exact h
theorem s0a {m i:Msg}(hm:SmS m)(hi:ValM i):(c0l m i).1.opts.length≤1000000∧ ∀o∈(c0l m i).1.opts,o.val.length≤140737488355328:=by
 have hnone:Msg.none.opts.length≤1000000∧ ∀o∈Msg.none.opts,o.val.length≤140737488355328:=⟨by simp[Msg.none],fun o ho=>by cases ho⟩
 unfold c0l
 split
 ·split
  ·split
   ·exact hnone
   obtain⟨h1,h2,h3,h4⟩:=hm
   obtain⟨g1,g2,g3,g4⟩:=(q0d hi)
   have hl:=h0u m.opts
   refine⟨by show(b0N _).length≤_;rw[e0x,cH];omega,fun o ho=> ?_⟩
   rcases List.mem_append.1 (l0E ho)with h|h
   ·have:=g4 o h;omega
   have:=h4 o (List.mem_filter.1 h).1;omega
  exact hnone
 exact hnone
theorem p0i {key:List UInt8}{m:Msg}{nonce aad:List UInt8}{q:Bool}(hm:SmS m):(h0v key m nonce aad q).1.opts.length≤1000000∧ ∀o∈(h0v key m nonce aad q).1.opts,o.val.length≤140737488355328:=by
 have hnone:Msg.none.opts.length≤1000000∧ ∀o∈Msg.none.opts,o.val.length≤140737488355328:=⟨by simp[Msg.none],fun o ho=>by cases ho⟩
 unfold h0v
 split
 ·exact hnone
 unfold q0S
 split
 ·exact hnone
 rename_i h
 split
 ·exact hnone
 exact s0a hm (e0j (Decidable.not_not.1 h)).1
theorem t0u {c:Cx}{b:Bd}{m:Msg}(hm:SmS m):SmO (orR c b m).1:=by
 have hnone:Msg.none.opts.length≤1000000∧ ∀o∈Msg.none.opts,o.val.length≤140737488355328:=⟨by simp[Msg.none],fun o ho=>by cases ho⟩
 unfold orR
 (repeat' split)<;>first|exact hnone|exact p0i hm
end Go.Proofs.YtojomcdjcpmnkaaGreat.By
namespace Go.Proofs.YtojomcdjcpmnkaaGreat.By
open Go.RowKit L A Dk
attribute [local irreducible] AW AQ AO
theorem t0Y {c:Cx}(h:d0D c):SmX c:=by
 obtain⟨⟨⟨q1,q2,q3,q4,q5⟩,k6,k7,k8⟩,k9,k10,k11⟩:=h
 exact⟨⟨by omega,by omega,by omega,by omega,by omega⟩,by omega,by omega,by omega⟩
def q0y (b:Bd):List AV:=cBd b
theorem l0S (b:Bd):(q0y b).length=3:=rfl
def u0x (l:List Bd):List AV:=l.flatMap q0y
def t0d (l:List Bd):AV:= .ro false l.length (u0x l)
abbrev v0n (l:List Bd)(k:Nat):Bd:=l.getD k Bd.none
theorem q0q {l:List Bd}{k:Nat}(h:k<l.length){j:Nat}(hj:j=k):((u0x l).drop (j*3)).take 3=cBd (v0n l k):=f0O l0S Bd.none h hj
theorem d0y (c:Cx)(b:Bd)(m:Msg)(piv:Int):Sp Tryz.prog 35 [g0p c,g0j b,a0U m,.val (.int .i64 piv)] [] (Is (g0r (d0P c b m piv))):=by
 have hrs:=b0H m.code
 rw[t0b]at hrs
 exact i0b c b m piv hrs
theorem m0H (c:Cx)(b:Bd)(m:Msg)(piv:Int):(d0P c b m piv).1.opts.length≤140737488355328:=by
 have:=(f0y c b m piv).2.2.1;omega
theorem r0F {c:Cx}{b:Bd}{m:Msg}(h:SmS m):(orR c b m).1.opts.length≤140737488355328:=by
 have:=(t0u (c:=c) (b:=b) h).1;omega
set_option maxHeartbeats 8000000 in
theorem f0I (l:List Int)(m:Msg)(raw:Bd)(what at' by' piv:Int)(hl:l.length≤maxLen)(hop:m.opts.length≤maxLen)(hby: -9223372036854775808≤by'∧by'≤9223372036854775807):Sp Tryz.prog 6 [roI l,a0U m,g0j raw,.val (.int .i64 what),.val (.int .i64 at'),.val (.int .i64 by'),.val (.int .i64 piv)] [] (Is (.val (.bool true))):=by
 have hall:Sp Tryz.prog 20 [.ro false 2 [roB raw.kid,roB raw.ctx]] [] (Is (.val (.bool (u0y [raw.kid,raw.ctx])))):=s0q [raw.kid,raw.ctx]
 refine yN Tryz.func6 _ Tryz.ntmps6 (fun w0 R0=> ?_)
 refine zD (zr ?_)
 refine ye ?_
 intro B1
 refine ye ?_
 intro B2
 refine zc (zI (zo (zD (zD (zr ?_)))))
 refine zC ?_
 refine vT (xH rfl Tryz.func9 rfl rfl rfl (m0s m hop)) ?_
 refine xq ?_
 refine zb ?_
 refine zM ?_
 refine zv 47 ?_
 refine zM ?_
 refine zv 49 ?_
 refine AO.opG rfl rfl rfl (fun hp=>wW 48 rfl (by exact hp) (wW 50 rfl (by exact hp) vC)) ?_
 refine AO.opG rfl rfl rfl (fun hp=>wW 51 rfl (by exact hp) (xH rfl Tryz.func20 rfl rfl rfl hall)) ?_
 refine yZ 52 ?_
 refine zE (zI (zo ?_))
 refine yk (fun h=> ?_) (fun h=> ?_)<;>(try simp only[vX]at h)
 ·refine zD (zr ?_)
  refine vT (xH rfl Tryz.func10 rfl rfl rfl g0Z) ?_
  refine zc (zI (zo (xc (xr ?_))))
  refine yE
 have hsm:SmC m:=m0r h.1
 refine yX (zo (zD (zr ?_)))
 refine zb ?_
 refine AO.opB (xH rfl Tryz.func11 rfl rfl rfl (t0A _)) rfl rfl rfl ?_
 intro B3
 refine zc (zI (zo (zD (zr ?_))))
 refine zb ?_
 refine AO.callMG 0 rfl rfl Tryz.func12 rfl rfl rfl rfl rfl rfl (j0N _ l _ hl (by exact Nat.zero_le _)) ?_
 rintro _ _ ⟨⟨c4,hc4,rfl⟩,kd4,hkd4,rfl⟩
 dsimp only[cA,cN,List.eraseIdx]
 refine zd ?_
 intro B5
 refine za 0 (zI (zo (zD ?_)))
 refine AW.regionA _ (Al.mk' (i:=9) (d:=17) (T:=42) _ rfl rfl rfl rfl rfl (by(dsimp only[List.set,cA,cN,List.take,List.drop];done)) (by rfl)) [(0,false),(1,false),(2,false),(3,false),(4,false),(5,false),(6,false),(7,true),(8,false),(9,true),(10,true)] (by kernel_rfl) (by kernel_rfl) (by exact(by exact a0C 15 1 rfl rfl a0h)) ?_
 dsimp only[List.eraseIdx]
 refine AN.op rfl zw rfl rfl rfl ?_
 refine AN.op rfl zw rfl rfl rfl ?_
 refine AN.op rfl zk rfl rfl rfl ?_
 refine AN.op rfl zw rfl rfl rfl ?_
 refine AN.op rfl zw rfl rfl rfl ?_
 refine AN.op rfl zk rfl rfl rfl ?_
 refine vy ?_
 refine AN.main _ rfl rfl (fun w0 R0=> ?_)
 refine AO.callMG 0 rfl rfl Tryz.func14 rfl rfl rfl rfl rfl rfl (j0v _ l _ hl (by assumption)) ?_
 rintro _ _ ⟨⟨n6,hn6,rfl⟩,kd6,hkd6,rfl⟩
 dsimp only[cA,cN,List.eraseIdx]
 refine AM.ok ?_
 dsimp only[a0z]
 refine AN.op rfl z7 rfl rfl rfl ?_
 refine AN.box rfl ?_
 intro B7
 dsimp only[Al.he]
 refine AN.main _ rfl rfl (fun w0 R0=> ?_)
 refine za 0 (AM.okN ?_)
 dsimp only[a0z]
 refine AN.nil ?_
 dsimp only[cA,cN]
 refine zo (zD (zr ?_))
 refine zC ?_
 refine vT (xH rfl Tryz.func36 rfl rfl rfl (q0X _ (by exact t0Y ‹_›))) ?_
 refine zb ?_
 refine AO.callMG 1 rfl rfl Tryz.func15 rfl rfl rfl rfl rfl rfl (i0e _ l _ hl (by assumption)) ?_
 rintro _ _ ⟨⟨m8,hm8,rfl⟩,kd8,hkd8,rfl⟩
 dsimp only[cA,cN,List.eraseIdx]
 refine zd ?_
 intro B9
 refine zd ?_
 intro B10
 refine za 1 ?_
 refine za 0 (zI (zo (zD (zD (zr ?_)))))
 refine zb ?_
 refine AO.callMG 2 rfl rfl Tryz.func14 rfl rfl rfl rfl rfl rfl (j0v _ l _ hl (by assumption)) ?_
 rintro _ _ ⟨⟨n11,hn11,rfl⟩,kd11,hkd11,rfl⟩
 dsimp only[cA,cN,List.eraseIdx]
 refine zb ?_
 refine y6 ?_
 intro B12
 refine AO.g ?_
 refine yc 0 76 ?_
 refine wd 76 ?_
 refine AO.u ?_
 dsimp only[List.eraseIdx]
 refine zW ?_
 refine zb (zI (zo (xj ?_)))
 refine AW.g ?_
 refine G.freezePtr 6 8 rfl rfl ?_
 refine AW.u ?_
 dsimp only[List.eraseIdx]
 refine AW.g ?_
 refine G.freezePtr 5 9 rfl rfl ?_
 refine AW.u ?_
 dsimp only[List.eraseIdx]
 refine AW.g ?_
 refine G.freezePtr 4 16 rfl rfl ?_
 refine AW.u ?_
 dsimp only[List.eraseIdx]
 refine AW.g ?_
 refine G.freezePtr 3 17 rfl rfl ?_
 refine AW.u ?_
 dsimp only[List.eraseIdx]
 refine AW.g ?_
 refine G.freezePtr 2 18 rfl rfl ?_
 refine AW.u ?_
 dsimp only[List.eraseIdx]
 refine AW.g ?_
 refine G.freezePtr 1 19 rfl rfl ?_
 refine AW.u ?_
 dsimp only[List.eraseIdx]
 obtain⟨bb,hbb⟩: ∃bb:Bd,bb=⟨c4.inp.ctx,c4.inp.snd,n6⟩:=⟨_,rfl⟩
 refine AW.g ?_
 refine G.re 17 (.rp (cBd bb) 0) (by rw[hbb];rfl) ?_
 refine AW.u ?_
 obtain⟨ps,hps⟩: ∃ps:List Int,ps= [-1,n11,piv]:=⟨_,rfl⟩
 have hpl:ps.length=3:=by rw[hps];rfl
 refine AW.g ?_
 refine G.re 76 (roI ps) (by rw[hps];rfl) ?_
 refine AW.u ?_
 refine zh [(3,_),(4,_),(5,_),(8,_),(9,_),(15,_),(16,_),(17,_),(18,_),(19,_),(76,_),(77,_)] (fun nn E H=> ∃(i:Nat) (kd:Nat),(i≤3)∧(kd≤l.length)∧nn=3-i∧E= [(78,.val (.int .i64 (i:Int)))]∧H= [f0Z B3 l kd]) _ (⟨0,_,by omega,hkd11,rfl,rfl,rfl⟩) ?_
 rintro nn E H ⟨i,kd,hi,hkd,rfl,rfl,rfl⟩
 dsimp only[cA,cN]
 refine zD (zr ?_)
 refine zP (zI (zo (zD ?_)))
 refine yk (fun h1=> ?_) (fun h1=> ?_)<;>(try simp only[vX]at h1)
 ·have hip:i<ps.length:=by omega
  refine yX (zo (zD (xj (zD (zr ?_)))))
  refine z8 ?_
  refine vT (O.loadR rfl rfl (by exact q0e hip (by omega))) ?_
  refine zc (zI (zo (zD (zD (zr ?_)))))
  refine wH ?_
  refine wH ?_
  refine y6 ?_
  intro B13
  refine AO.g ?_
  refine yc 0 84 ?_
  refine wd 84 ?_
  refine AO.u ?_
  dsimp only[List.eraseIdx]
  refine zW ?_
  refine zb (zI (zo (xj ?_)))
  generalize ps.getD i 0=n at*
  obtain⟨bs,hbs⟩: ∃bs:List Bd,bs= [bb,raw]:=⟨_,rfl⟩
  have hbl:bs.length=2:=by rw[hbs];rfl
  refine AW.g ?_
  refine G.re 84 (t0d bs) (by rw[hbs];rfl) ?_
  refine AW.u ?_
  refine zh [(3,_),(4,_),(5,_),(8,_),(9,_),(15,_),(16,_),(17,_),(18,_),(19,_),(21,_),(76,_),(77,_),(78,_),(84,_),(85,_)] (fun nn E H=> ∃(j:Nat),(j≤2)∧nn=2-j∧E= [(86,.val (.int .i64 (j:Int)))]∧H= [f0Z B3 l kd]) _ (⟨0,by omega,rfl,rfl,rfl⟩) ?_
  rintro nn E H ⟨j,hj,rfl,rfl,rfl⟩
  dsimp only[cA,cN]
  refine zD (zr ?_)
  refine zP (zI (zo (zD ?_)))
  refine yk (fun h2=> ?_) (fun h2=> ?_)<;>(try simp only[vX]at h2)
  ·obtain⟨y,hy⟩: ∃y,y=v0n bs j:=⟨_,rfl⟩
   have hg3:((u0x bs).drop (Int.toNat (j:Int)*3)).take 3=cBd y:=by rw[q0q (k:=j) (by omega) (by omega),hy]
   refine yX (zo (zD (xj (zD (zr ?_)))))
   refine z8 ?_
   refine vT (O.loadRK rfl rfl (by exact hg3) (by rfl)) ?_
   refine zd ?_
   intro B14
   refine za 0 (zI (zo (zD (zr ?_))))
   refine wo ?_
   refine wo ?_
   refine y6 ?_
   intro B15
   refine AO.g ?_
   refine yc 0 92 ?_
   refine wd 92 ?_
   refine AO.u ?_
   dsimp only[List.eraseIdx]
   refine zW ?_
   refine zb (zI (zo (xj ?_)))
   refine AW.g ?_
   refine G.freezePtr 0 23 rfl rfl ?_
   refine AW.u ?_
   dsimp only[List.eraseIdx]
   obtain⟨ms,hms⟩: ∃ms:List Msg,ms= [m8,m]:=⟨_,rfl⟩
   have hml:ms.length=2:=by rw[hms];rfl
   refine AW.g ?_
   refine G.re 92 (v0B ms) (by rw[hms];rfl) ?_
   refine AW.u ?_
   refine zh [(3,_),(4,_),(5,_),(8,_),(9,_),(15,_),(16,_),(17,_),(18,_),(19,_),(21,_),(23,_),(76,_),(77,_),(78,_),(84,_),(85,_),(86,_),(92,_),(93,_)] (fun nn E H=> ∃(q:Nat),(q≤2)∧nn=2-q∧E= [(94,.val (.int .i64 (q:Int)))]∧H= [f0Z B3 l kd]) _ (⟨0,by omega,rfl,rfl,rfl⟩) ?_
   rintro nn E H ⟨q,hq,rfl,rfl,rfl⟩
   dsimp only[cA,cN]
   refine zD (zr ?_)
   refine zP (zI (zo (zD ?_)))
   refine yk (fun h3=> ?_) (fun h3=> ?_)<;>(try simp only[vX]at h3)
   ·obtain⟨x,hx⟩: ∃x,x=q0o ms q:=⟨_,rfl⟩
    have hg6:((ms6 ms).drop (Int.toNat (q:Int)*6)).take 6= [.val (.int .i64 x.ty),.val (.int .i64 x.code),.val (.int .i64 x.id),roB x.tok,roO x.opts,roB x.pay]:=by rw[t0N (k:=q) (by omega) (by omega),hx]
    refine yX (zo (zD (xj (zD (zr ?_)))))
    refine z8 ?_
    refine vT (O.loadRK rfl rfl (by exact hg6) (by rfl)) ?_
    refine zd ?_
    intro B16
    refine za 0 (zI (zo (zD (zr ?_))))
    refine wo ?_
    refine wo ?_
    refine vf ?_
    refine zb ?_
    refine vT (xH rfl Tryz.func46 rfl rfl rfl (i0s (h0V c4) y x n)) ?_
    refine zb ?_
    refine zO ?_
    refine zO ?_
    refine zd ?_
    intro B17
    refine za 0 ?_
    refine zc (zI (zo (zD (zr ?_))))
    refine wo ?_
    refine wo ?_
    refine vz ?_
    refine zb ?_
    refine vT (xH rfl Tryz.func35 rfl rfl rfl (d0y (h0V c4) y x n)) ?_
    refine zb ?_
    refine zO ?_
    refine zO ?_
    refine zd ?_
    intro B18
    refine za 0 ?_
    refine zc (zI (zo (zD (zr ?_))))
    refine zb ?_
    refine zb ?_
    refine vT (O.neq rfl rfl rfl (by exact bne_eq_false_iff_eq.2 (by omega))) ?_
    refine zb ?_
    refine vz ?_
    refine vf ?_
    refine vT (xH rfl Tryz.func18 rfl rfl rfl (m0B (d0P (h0V c4) y x n).1 (d0P (h0V c4) y x n).1 (m0H _ _ _ _))) ?_
    refine xq ?_
    refine vT (O.pickF rfl rfl rfl) (zI (zo ?_))
    refine yk (fun h4=> ?_) (fun h4=> ?_)<;>(try simp only[vX]at h4)
    ·exact absurd h4 (by simp)
    refine yX (xz (zo (zr ?_)))
    refine zA ?_
    refine zb (zI ?_)
    refine AQ.loopKN _ _ _ (by omega) (⟨q+1,by omega,rfl,rfl,rfl⟩) (by repeat(first|exact a0j|refine a0i rfl ?_)) (by repeat(first|exact a0j|refine a0i rfl ?_)) (by repeat(first|exact a0A|refine a0v 3 rfl ?_))
   refine wb ?_
   refine xY ?_
   refine x3 ?_
   refine xx (xz (zo (zr ?_)))
   refine zA ?_
   refine zb (zI ?_)
   refine zq _ _ _ (by omega) (⟨j+1,by omega,rfl,rfl,rfl⟩)
  refine wb ?_
  refine xY ?_
  refine x3 ?_
  refine xx (zo (zD (zr ?_)))
  refine wH ?_
  refine wH ?_
  refine wH ?_
  refine zb ?_
  refine vT (xH rfl Tryz.func35 rfl rfl rfl (d0y (h0V c4) bb m8 n)) ?_
  refine zb ?_
  refine zO ?_
  refine zO ?_
  refine zd ?_
  intro B19
  refine za 0 ?_
  refine zc (zI (zo (zD ?_)))
  refine AW.regionA _ (Al.mk' (i:=7) (d:=32) (T:=42) _ rfl rfl rfl rfl rfl (by(dsimp only[List.set,cA,cN,List.take,List.drop];done)) (by rfl)) [(0,false),(1,false),(2,false),(3,false),(4,false),(5,true),(6,false),(7,true),(8,true)] (by kernel_rfl) (by kernel_rfl) (by exact(by exact a0C 15 1 rfl rfl a0h)) ?_
  dsimp only[List.eraseIdx]
  refine AN.op rfl vR rfl rfl rfl ?_
  refine AN.op rfl (O.loadR rfl rfl (by rfl)) rfl rfl rfl ?_
  refine AN.op rfl vR rfl rfl rfl ?_
  refine AN.op rfl (O.loadR rfl rfl (by rfl)) rfl rfl rfl ?_
  refine vy ?_
  refine AN.main _ rfl rfl (fun w0 R0=> ?_)
  refine AO.callMG 0 rfl rfl Tryz.func14 rfl rfl rfl rfl rfl rfl (j0v _ l _ hl (by assumption)) ?_
  rintro _ _ ⟨⟨n20,hn20,rfl⟩,kd20,hkd20,rfl⟩
  dsimp only[cA,cN,List.eraseIdx]
  refine AM.ok ?_
  dsimp only[a0z]
  refine AN.op rfl z7 rfl rfl rfl ?_
  refine AN.box rfl ?_
  intro B21
  dsimp only[Al.he]
  refine AN.main _ rfl rfl (fun w0 R0=> ?_)
  refine za 0 (AM.okN ?_)
  dsimp only[a0z]
  refine AN.nil ?_
  dsimp only[cA,cN]
  refine zo (zD ?_)
  refine AW.regionM [(0,false),(1,false),(2,false),(3,false),(4,false),(6,false),(9,false),(5,true),(7,false),(8,false)] (by kernel_rfl) (by kernel_rfl) (by exact a0h) ?_
  dsimp only[List.eraseIdx]
  refine zZ ?_
  refine zZ ?_
  refine yR ?_
  refine yR ?_
  refine yR ?_
  refine vU rfl wC ?_
  refine yR ?_
  refine xX _ (fun w0 R0=> ?_)
  refine AO.opN (xH rfl Tryz.func47 rfl rfl rfl (l0Q (d0P (h0V c4) bb m8 n).1 _ _ _ (f0y _ _ _ _) hby)) rfl rfl rfl ?_
  rintro _ _ ⟨⟨m22,hm22,rfl⟩,rfl⟩
  simp only[cA,cN]
  refine AM.ok ?_
  dsimp only[a0z]
  refine vU rfl vC ?_
  refine vU rfl (xW rfl rfl) ?_
  refine vg ?_
  dsimp only[cA,cN]
  refine zo (xj ?_)
  refine AW.g ?_
  refine G.freezePtr 0 32 rfl rfl ?_
  refine AW.u ?_
  dsimp only[List.eraseIdx]
  obtain⟨oo,hoo⟩: ∃oo:Bd,oo=⟨bb.ctx,bb.kid,n20⟩:=⟨_,rfl⟩
  refine AW.g ?_
  refine G.re 32 (.rp (cBd oo) 0) (by rw[hoo];rfl) ?_
  refine AW.u ?_
  obtain⟨xs,hxs⟩: ∃xs:List Msg,xs= [(d0P (h0V c4) bb m8 n).1,m22,m]:=⟨_,rfl⟩
  have hxl:xs.length=3:=by rw[hxs];rfl
  have hxt: ∀x∈xs,SmT x:=fun x hx=>by
   rw[hxs]at hx
   rcases List.mem_cons.1 hx with rfl|hx
   ·exact o0B (f0y _ _ _ _)
   rcases List.mem_cons.1 hx with rfl|hx
   ·exact hm22
   obtain rfl:=List.mem_singleton.1 hx;exact o0B hsm
  refine AW.g ?_
  refine G.re 147 (v0B xs) (by rw[hxs];rfl) ?_
  refine AW.u ?_
  refine zh [(3,_),(4,_),(5,_),(8,_),(9,_),(15,_),(16,_),(17,_),(18,_),(19,_),(32,_),(76,_),(77,_),(78,_),(147,_),(148,_)] (fun nn E H=> ∃(q:Nat),(q≤3)∧nn=3-q∧E= [(149,.val (.int .i64 (q:Int)))]∧H= [f0Z B3 l kd20]) _ (⟨0,by omega,rfl,rfl,rfl⟩) ?_
  rintro nn E H ⟨q,hq,rfl,rfl,rfl⟩
  dsimp only[cA,cN]
  refine zD (zr ?_)
  refine zP (zI (zo (zD ?_)))
  refine yk (fun h3=> ?_) (fun h3=> ?_)<;>(try simp only[vX]at h3)
  ·obtain⟨x,hx⟩: ∃x,x=q0o xs q:=⟨_,rfl⟩
   have hxq:SmT x:=by rw[hx];exact hxt _ (b0f Msg.none (by omega))
   have hg6:((ms6 xs).drop (Int.toNat (q:Int)*6)).take 6= [.val (.int .i64 x.ty),.val (.int .i64 x.code),.val (.int .i64 x.id),roB x.tok,roO x.opts,roB x.pay]:=by rw[t0N (k:=q) (by omega) (by omega),hx]
   refine yX (zo (zD (xj (zD (zr ?_)))))
   refine z8 ?_
   refine vT (O.loadRK rfl rfl (by exact hg6) (by rfl)) ?_
   refine zd ?_
   intro B23
   refine za 0 (zI (zo (zD (zr ?_))))
   refine wo ?_
   refine wo ?_
   refine wo ?_
   refine y6 ?_
   intro B24
   refine AO.g ?_
   refine yc 0 156 ?_
   refine wd 156 ?_
   refine AO.u ?_
   dsimp only[List.eraseIdx]
   refine zW ?_
   refine zb (zI (zo (xj ?_)))
   refine AW.g ?_
   refine G.freezePtr 0 34 rfl rfl ?_
   refine AW.u ?_
   dsimp only[List.eraseIdx]
   obtain⟨ys,hys⟩: ∃ys:List Bd,ys= [bb,raw,oo]:=⟨_,rfl⟩
   have hyl:ys.length=3:=by rw[hys];rfl
   refine AW.g ?_
   refine G.re 156 (t0d ys) (by rw[hys];rfl) ?_
   refine AW.u ?_
   refine zh [(3,_),(4,_),(5,_),(8,_),(9,_),(15,_),(16,_),(17,_),(18,_),(19,_),(32,_),(34,_),(76,_),(77,_),(78,_),(147,_),(148,_),(149,_),(156,_),(157,_)] (fun nn E H=> ∃(j2:Nat),(j2≤3)∧nn=3-j2∧E= [(158,.val (.int .i64 (j2:Int)))]∧H= [f0Z B3 l kd20]) _ (⟨0,by omega,rfl,rfl,rfl⟩) ?_
   rintro nn E H ⟨j2,hj2,rfl,rfl,rfl⟩
   dsimp only[cA,cN]
   refine zD (zr ?_)
   refine zP (zI (zo (zD ?_)))
   refine yk (fun h5=> ?_) (fun h5=> ?_)<;>(try simp only[vX]at h5)
   ·obtain⟨y,hy⟩: ∃y,y=v0n ys j2:=⟨_,rfl⟩
    have hg3:((u0x ys).drop (Int.toNat (j2:Int)*3)).take 3=cBd y:=by rw[q0q (k:=j2) (by omega) (by omega),hy]
    refine yX (zo (zD (xj (zD (zr ?_)))))
    refine z8 ?_
    refine vT (O.loadRK rfl rfl (by exact hg3) (by rfl)) ?_
    refine zd ?_
    intro B25
    refine za 0 (zI (zo (zD (zr ?_))))
    refine wo ?_
    refine vf ?_
    refine wo ?_
    refine vT (xH rfl Tryz.func48 rfl rfl rfl (t0z c4 y x hxq)) ?_
    refine zb ?_
    refine zO ?_
    refine zO ?_
    refine zO ?_
    refine zd ?_
    intro B26
    refine za 0 ?_
    refine zc ?_
    refine zc (zI (zo (zD (zr ?_))))
    refine wo ?_
    refine vz ?_
    refine wo ?_
    refine vT (xH rfl Tryz.func49 rfl rfl rfl (t0c c4 y x hxq)) ?_
    refine zb ?_
    refine zO ?_
    refine zO ?_
    refine zO ?_
    refine zd ?_
    intro B27
    refine za 0 ?_
    refine zc ?_
    refine zc (zI (zo (zD (zr ?_))))
    refine zb ?_
    refine zb ?_
    refine vT (O.neq rfl rfl rfl (by exact bne_eq_false_iff_eq.2 (by omega))) ?_
    refine zb ?_
    refine zb ?_
    refine zb ?_
    refine vT (O.neq rfl rfl rfl (by exact bne_eq_false_iff_eq.2 (by omega))) ?_
    refine vT (O.pickF rfl rfl rfl) ?_
    refine zb ?_
    refine vz ?_
    refine vf ?_
    refine vT (xH rfl Tryz.func18 rfl rfl rfl (m0B (orR c4 y x).1 (orR c4 y x).1 (r0F hxq.1))) ?_
    refine xq ?_
    refine vT (O.pickF rfl rfl rfl) (zI (zo ?_))
    refine yk (fun h6=> ?_) (fun h6=> ?_)<;>(try simp only[vX]at h6)
    ·exact absurd h6 (by simp)
    refine yX (xz (zo (zr ?_)))
    refine zA ?_
    refine zb (zI ?_)
    refine AQ.loopKN _ _ _ (by omega) (⟨j2+1,by omega,rfl,rfl,rfl⟩) (by repeat(first|exact a0j|refine a0i rfl ?_)) (by repeat(first|exact a0j|refine a0i rfl ?_)) (by repeat(first|exact a0A|refine a0v 3 rfl ?_))
   refine wb ?_
   refine xY ?_
   refine x3 ?_
   refine xx (xz (zo (zr ?_)))
   refine zA ?_
   refine zb (zI ?_)
   refine zq _ _ _ (by omega) (⟨q+1,by omega,rfl,rfl,rfl⟩)
  refine wb ?_
  refine xY ?_
  refine x3 ?_
  refine xx (xz (zo (zr ?_)))
  refine zA ?_
  refine zb (zI ?_)
  refine zq _ _ _ (by omega) (⟨i+1,_,by omega,hkd20,rfl,rfl,rfl⟩)
 refine wb ?_
 refine xY ?_
 refine x3 ?_
 refine xx (zo (zD (zr ?_)))
 refine vT (xH rfl Tryz.func10 rfl rfl rfl g0Z) ?_
 refine zc (zI (zo (xc ?_)))
 refine yE
end Go.Proofs.YtojomcdjcpmnkaaGreat.By
namespace Go.Proofs.YtojomcdjcpmnkaaGreat.A
open Go.ChangeShapes Go.WideShapes Go.ChangeAt Go.RowKit Go.Deep L
theorem own:ownKnob Tryz.prog.godebug=none:=by kernel_rfl
theorem w0h:Kids Tryz.prog (· <Tryz.prog.types.size):=kids_rows (by kernel_rfl) (by kernel_rfl)
theorem full: ∀t e,t<Tryz.prog.types.size→Tryz.prog.underlying t=some (.slice e)→0<Tryz.prog.cellsOf e:=slices_full_of Tryz.prog (by kernel_rfl)
theorem l0h {W W':World}(h:Ext W W')(p:MemPlace)(hp:p.block<W.heap.size):W.sameAt W' p:=by
 have hb:W'.heap[p.block]? =W.heap[p.block]? :=h.block _ hp (fun hh=>hh)
 cases p with
 |cell b off=>exact World.cell?_of_block (w:=W) (a:=⟨b,off,none⟩) hb
 |map b=>exact hb
section
variable {H:Type}{enc:TypeId×Value→H}
theorem d0J {P:Program}{W W':World}{base:Nat}{spare:Nat→Bool}{held:Bool}: ∀{ts:List TypeId} {vs:List Value} {ds:List (DataW H)} {ps:List MemPlace},
  DataW.TrodAll enc P W base spare held ts vs ds ps→(∀p∈ps,W.sameAt W' p)→DataW.TrodAll enc P W' base spare held ts vs ds ps
 | [],[],[],_,h,_=>h
 |_::_,_::_,_::_,_,⟨p,q,⟨n,h1⟩,h2,e⟩,hs=>⟨p,q,⟨n,DataW.trod_carry n _ _ _ h1 (fun x hx=>hs x (by rw[e];exact List.mem_append_left _ hx))⟩,d0J h2 (fun x hx=>hs x (by rw[e];exact List.mem_append_right _ hx)),e⟩
theorem r0W {fn:Func}{s:ChangeSpec}{W W':World}{args:Array Value}{ds gs:List (DataW H)}{before:List MemPlace}{bt:TypeId}
  (hW:DataW.Whole enc Tryz.prog fn.params.toList s.vars false W args.toList ds gs before) (hv:s.vars= []) (hfn:s.fn H (ds++gs)={results:= [.lit (.bool true)],args:=ds}) (hres:fn.resultTypes= #[bt]) (hbt:Tryz.prog.underlying bt=some .bool)
  (hpar: ∀t∈fn.params.toList,t<Tryz.prog.types.size) (hE:Ext W W'):s.post enc Tryz.prog fn false true false false W args (.bool true) W':=by
 have hold: ∀p∈before,(fun b=>decide (b<W.heap.size)) p.block=true:=fun p hp=>by simpa using hW.lt p hp
 have hlt:=hW.lt
 have hW':=hW
 obtain⟨pa,pv,hA,hV,rfl,hz,hn⟩:=hW
 rw[hv]at hV
 obtain⟨rfl,rfl⟩:=trodVars_none hV
 have hA':DataW.TrodAll enc Tryz.prog W' 0 (fun _=>true) true fn.params.toList args.toList ds pa:=d0J hA fun p hp=>l0h hE p (hlt p (List.mem_append_left _ hp))
 have hargs: ∀sp:Nat→Bool,(∀p∈pa++[],sp p.block=true)→DataW.TrodAll enc Tryz.prog W' 0 sp true fn.params.toList args.toList ds pa:=fun sp hsp=>
  DataW.TrodAll.respare w0h full hpar hA' fun p hp=>hsp p (by simpa using hp)
 have hres': ∀(b:Nat) (sp:Nat→Bool) (hd:Bool),DataW.TrodAll enc Tryz.prog W' b sp hd fn.resultTypes.toList ((Value.bool true).resultList fn.resultTypes.size) [.lit (.bool true)] []:=fun b sp hd=>by
  rw[hres];exact trodAll_cons_mk (shut_bool hbt true) trodAll_mk0
 refine⟨ds,[],pa++[],[],pa,[],hW',by rw[hfn];exact hres' _ _ _,by rw[hfn];exact hargs _ hold,by rw[hfn,hv];rfl,World.keptBut_mono (fun p hp=>⟨hp,?_⟩) ((hE.toBelow).frame (· ∈pa++[])),fun h=>by cases h⟩
 exact Or.inr (by simpa using hp)
def Old (W:World):Nat→Prop:=fun b=>b<W.heap.size
variable {P:Program}{W:World}
theorem q0g {base:Nat}{spare:Nat→Bool}{held:Bool}{t:TypeId}{k:IntKind}(ht:P.underlying t=some (.int k)){n:Nat}{cs:List Value}{x:DataW H×List MemPlace}(h:DataW.trod enc P W base spare held n t cs=some x):
  ∃z:Int,(Lit.int k z).wf=true∧RelL (Old W) W [.val (.int k z)] cs:=by
 cases n with
 |zero=>simp[DataW.trod]at h
 |succ n=>
  obtain⟨z,rfl,_,hw⟩:=DataW.trod_int ht h
  exact⟨z,hw,RelL.cons (.val _) RelL.nil⟩
theorem k0v {α:Type}{enc':α→List AV}{good:α→Prop}{base:Nat}{spare:Nat→Bool}{held:Bool}{t e:TypeId}(ht:P.underlying t=some (.slice e))(hsz: ∀a,(enc' a).length=P.cellsOf e)(hpos:0<P.cellsOf e)
  (he: ∀(n:Nat) (cs:List Value) (x:DataW H×List MemPlace),cs.length=P.cellsOf e→DataW.trod enc P W base spare held n e cs=some x→ ∃a,good a∧RelL (Old W) W (enc' a) cs)
  {n:Nat} {cs:List Value} {x:DataW H×List MemPlace} (h:DataW.trod enc P W base spare held n t cs=some x):
  ∃l:List α,(∀a∈l,good a)∧l.length≤maxLen∧RelL (Old W) W [.ro false l.length (l.flatMap enc')] cs:=by
 rcases open_slice ht h with⟨rfl, -⟩|⟨ad,len,cap,m,n',D,Pl,rfl,hb,hl,hm,hmm,hx,hi⟩
 ·exact⟨[],fun _ h=>(by cases h),Nat.zero_le _,RelL.cons (.emp _ _ _ (fun h=>by cases h) (Nat.zero_le _)) RelL.nil⟩
 ·have hlm:len≤m:=by rw[hmm];split<;>omega
  have hex: ∀i:Nat,∃a:Option α,i<len→ ∃a',a=some a'∧good a'∧ ∃cs',W.cells? base (ad.add (i*P.cellsOf e)) (P.cellsOf e)=some cs'∧RelL (Old W) W (enc' a') cs':=fun i=>by
   by_cases hil:i<len
   ·obtain⟨cs',hc,htr⟩:=hi i (by omega)
    obtain⟨_,hcl,_⟩:=World.cells?_some hc
    obtain⟨a,hg,hr⟩:=he _ _ _ hcl htr
    exact⟨some a,fun _=>⟨a,rfl,hg,cs',hc,hr⟩⟩
   ·exact⟨none,fun h=>absurd h hil⟩
  obtain⟨f,hf⟩:=Classical.axiomOfChoice hex
  by_cases hlen0:len=0
  ·subst hlen0
   exact⟨[],fun _ h=>(by cases h),Nat.zero_le _,RelL.cons (.emp _ _ _ (fun h=>by cases h) hm) RelL.nil⟩
  ·obtain⟨a0,_,_⟩:=hf 0 (by omega)
   let g:Nat→α:=fun i=>(f i).getD a0
   have hg: ∀i,i<len→good (g i)∧ ∃cs',W.cells? base (ad.add (i*P.cellsOf e)) (P.cellsOf e)=some cs'∧RelL (Old W) W (enc' (g i)) cs':=fun i hi'=>by
    obtain⟨a',ha',h1,h2⟩:=hf i hi'
    have:g i=a':=by simp[g,ha']
    rw[this];exact⟨h1,h2⟩
   have hflat: ∀(len:Nat),(((List.range len).map g).flatMap enc').length=len*P.cellsOf e:=by
    intro len
    induction len with
    |zero=>simp
    |succ k ih=>rw[List.range_succ,List.map_append,List.flatMap_append,cH,ih];simp[hsz,Nat.add_mul]
   have hflatget: ∀(len i j:Nat),i<len→j<P.cellsOf e→(((List.range len).map g).flatMap enc')[i*P.cellsOf e+j]? =(enc' (g i))[j]? :=by
    intro len
    induction len with
    |zero=>intro i j h;omega
    | succ k ih=>
     intro i j h hj
     rw[List.range_succ,List.map_append,List.flatMap_append,List.getElem?_append]
     by_cases hik:i<k
     ·have h1:(i+1)*P.cellsOf e≤k*P.cellsOf e:=Nat.mul_le_mul_right _ (by omega)
      rw[Nat.add_mul]at h1
      rw[if_pos (by rw[hflat];omega)]
      exact ih i j hik hj
     ·have:i=k:=by omega
      subst this
      rw[if_neg (by rw[hflat];omega),hflat]
      simp
   have hblk:ad.spot=none∧ad.block<W.heap.size:=by
    obtain⟨_,cs',hc,_⟩:=hg 0 (by omega)
    obtain⟨_,hcl,hat⟩:=World.cells?_some hc
    have h0:=hat 0 hpos
    simp only[Nat.zero_mul]at h0
    have h1:W.cell? ad≠none:=by
     intro hn
     rw[show(ad.add 0).add 0=ad by simp[Addr.add]]at h0
     rw[hn]at h0
     have:=(List.getElem?_eq_none_iff.1 h0.symm)
     omega
    refine⟨?_,?_⟩
    ·cases hsp:ad.spot with
     |none=>rfl
     |some _=>exfalso;apply h1;unfold World.cell?;split<;>simp[hsp]
    ·cases hc:W.cell? ad with
     |none=>exact absurd hc h1
     |some u=>exact World.block_lt_of_cell? W ad hc
   obtain⟨b,off,sp⟩:=ad
   obtain⟨rfl,hblt⟩:=hblk
   have hcell: ∀i j,i<len→j<P.cellsOf e→ ∃u,W.cell? ⟨b,off+(i*P.cellsOf e+j),none⟩=some u∧ ∃x,(enc' (g i))[j]? =some x∧RelV (Old W) W x u:=fun i j hi' hj=>by
    obtain⟨_,cs',hc,hr⟩:=hg i hi'
    obtain⟨_,hcl,hat⟩:=World.cells?_some hc
    have h0:=hat j hj
    rw[a0K,a0K]at h0
    have hjl:j<cs'.length:=by omega
    have hjx:j<(enc' (g i)).length:=by rw[hsz];exact hj
    refine⟨cs'[j],by rw[←Nat.add_assoc,h0];simp[hjl],(enc' (g i))[j],by simp[hjx],?_⟩
    have:=hr.2 j hjx
    simpa[hjl]using this
   refine⟨(List.range len).map g,fun a ha=> ?_,by simp;omega,RelL.cons ?_ RelL.nil⟩
   ·obtain⟨i,hi',rfl⟩:=List.mem_map.1 ha
    exact(hg i (List.mem_range.1 hi')).1
   ·rw[List.length_map,List.length_range]
    have hq: ∀j,j<(((List.range len).map g).flatMap enc').length→ ∃u,W.cell? ⟨b,off+j,none⟩=some u∧ ∃x,(((List.range len).map g).flatMap enc')[j]? =some x∧RelV (Old W) W x u:=fun j hj=>by
     rw[hflat]at hj
     have h1:j/P.cellsOf e<len:=(Nat.div_lt_iff_lt_mul hpos).2 hj
     have h2:=Nat.mod_lt j hpos
     have h3:j/P.cellsOf e*P.cellsOf e+j%P.cellsOf e=j:=by rw[Nat.mul_comm];exact Nat.div_add_mod j _
     obtain⟨u,hu,x,hx',hr⟩:=hcell (j/P.cellsOf e) (j%P.cellsOf e) h1 h2
     rw[h3]at hu
     refine⟨u,hu,x,?_,hr⟩
     have:=hflatget len _ _ h1 h2
     rw[h3]at this
     rw[this,hx']
    refine .ro false len _ b off cap (fun j=>(W.cell? ⟨b,off+j,none⟩).getD undef) hblt (fun j hj=> ?_) (fun j hj=> ?_) hl hm (fun h=>by cases h)
    ·obtain⟨u,hu,_⟩:=hq j hj
     rw[hu];rfl
    ·obtain⟨u,hu,x,hx',hr⟩:=hq j hj
     rw[hu]
     simp only[Option.getD_some]
     have:x=(((List.range len).map g).flatMap enc')[j]:=by
      rw[List.getElem?_eq_getElem hj]at hx';exact(Option.some.inj hx').symm
     rw[←this];exact hr
theorem j0F {α:Type}(f:α→AV)(l:List α):l.flatMap (fun a=> [f a])=l.map f:=by
 induction l with
 |nil=>rfl
 |cons a l ih=>simp[List.flatMap_cons,ih]
theorem m0T {base:Nat}{spare:Nat→Bool}{held:Bool}{t e:TypeId}{k:IntKind}(ht:P.underlying t=some (.slice e))(he:P.underlying e=some (.int k))(h1:P.cellsOf e=1){n:Nat}{cs:List Value}{x:DataW H×List MemPlace}(h:DataW.trod enc P W base spare held n t cs=some x):
  ∃l:List Int,(∀z∈l,(Lit.int k z).wf=true)∧l.length≤maxLen∧RelL (Old W) W [.ro false l.length (d0t k l)] cs:=by
 obtain⟨l,h2,h3,h4⟩:=k0v (enc':=fun z:Int=> [.val (.int k z)]) (good:=fun z=>(Lit.int k z).wf=true) ht (fun _=>h1.symm) (by omega) (fun n cs x _ h=>q0g he h) h
 rw[j0F]at h4
 exact⟨l,h2,h3,h4⟩
theorem o0T {base:Nat}{spare:Nat→Bool}{held:Bool}{t e:TypeId}(ht:P.underlying t=some (.slice e))(he:P.underlying e=some (.int .u8))(h1:P.cellsOf e=1){n:Nat}{cs:List Value}{x:DataW H×List MemPlace}(h:DataW.trod enc P W base spare held n t cs=some x):
  ∃l:List UInt8,l.length≤maxLen∧RelL (Old W) W [roB l] cs:=by
 obtain⟨l,h2,h3,h4⟩:=m0T ht he h1 h
 have hb: ∃m:List UInt8,l=m.map fun b=>((b.toNat:Nat):Int):=by
  clear h h3 h4
  induction l with
  |nil=>exact⟨[],rfl⟩
  |cons z l ih=>
   obtain⟨m,rfl⟩:=ih fun z hz=>h2 z (List.mem_cons_of_mem _ hz)
   have hz:=h2 z (List.mem_cons_self ..)
   have hz':0≤z∧z≤255:=by simpa[Lit.wf,IntKind.min,IntKind.max,IntKind.signed,IntKind.bits]using hz
   refine⟨UInt8.ofNat z.toNat::m,?_⟩
   simp only[List.map_cons,List.cons.injEq,and_true]
   rw[UInt8.toNat_ofNat_of_lt' (by simp[UInt8.size];omega)]
   omega
 obtain⟨m,rfl⟩:=hb
 refine⟨m,by simpa using h3,?_⟩
 simpa[roB,a0a,d0t,Function.comp_def]using h4
theorem j0n {R:Nat→Prop}{a:AV}{v:Value}(hc:v.cells.toList= [v])(h:RelL R W [a] v.cells.toList):RelV R W a v:=by
 rw[hc]at h
 obtain⟨u,r,he,h1,_⟩:=h.uncons
 cases he
 exact h1
theorem j0o {R:Nat→Prop}{xs:List AV}{cs:Array Value}(h:RelL R W xs (Value.agg cs).cells.toList):RelV R W (.agg xs) (.agg cs):=by
 have:=h.toAgg
 simpa[Value.cells]using this
end
end Go.Proofs.YtojomcdjcpmnkaaGreat.A
namespace Go.Proofs.YtojomcdjcpmnkaaGreat.A
open Go.ChangeShapes Go.WideShapes Go.ChangeAt Go.RowKit L
section
variable {P:Program}
def Reads (P:Program)(t:TypeId)(φ:AV→Prop):Prop:=
 ∀(H:Type) (enc:TypeId×Value→H) (W:World) (base b0:Nat) (spare:Nat→Bool) (held:Bool) (v:Value) (d:DataW H) (p:List MemPlace),
  Value.okWide P W .any b0 t v→DataW.Trod enc P W base spare held t v d p→ ∃x,φ x∧RelV (Old W) W x v
structure RdC (P:Program) (t:TypeId) {α:Type} (f:α→List AV) (good:α→Prop):Prop where
 len: ∀a,(f a).length=P.cellsOf t
 rd: ∀(H:Type) (enc:TypeId×Value→H) (W:World) (base:Nat) (spare:Nat→Bool) (held:Bool) (n:Nat) (cs:List Value) (x:DataW H×List MemPlace),
  DataW.trod enc P W base spare held n t cs=some x→ ∃a,good a∧RelL (Old W) W (f a) cs
theorem r0N {W:World}{r:Reach}{b:Nat}{t:TypeId}{k:IntKind}(ht:P.underlying t=some (.int k)){v:Value}(h:Value.okWide P W r b t v):v.cells.toList= [v]:=by
 cases v<;>simp[Value.okWide,ht,Cell.okWide,Cell.ok]at h<;>rfl
theorem f0E {W:World}{r:Reach}{b:Nat}{t e:TypeId}(ht:P.underlying t=some (.slice e)){v:Value}(h:Value.okWide P W r b t v):v.cells.toList= [v]:=by
 cases v<;>simp[Value.okWide,ht,Cell.okWide,Cell.ok]at h<;>rfl
theorem p0j {W:World}{r:Reach}{b:Nat}{t:TypeId}(ht:P.underlying t=some .bool){v:Value}(h:Value.okWide P W r b t v):v.cells.toList= [v]:=by
 cases v<;>simp[Value.okWide,ht,Cell.okWide,Cell.ok]at h<;>rfl
theorem RelL.glue {R:Nat→Prop}{W:World}{xs ys:List AV}{cs:List Value}{o k:Nat}(h1:RelL R W xs ((cs.drop o).take k))(h2:RelL R W ys (cs.drop (o+k))):RelL R W (xs++ys) (cs.drop o):=by
 have:=h1.app h2
 rwa [show(cs.drop o).take k++cs.drop (o+k)=cs.drop o by rw[←List.drop_drop,List.take_append_drop]]at this
theorem RdC.int {t:TypeId}{k:IntKind}(ht:P.underlying t=some (.int k))(h1:P.cellsOf t=1):RdC P t (fun z:Int=> [.val (.int k z)]) (fun z=>(Lit.int k z).wf=true):=
 ⟨fun _=>h1.symm,fun H enc W base spare held n cs x h=>q0g ht h⟩
theorem RdC.bool {t:TypeId}(ht:P.underlying t=some .bool)(h1:P.cellsOf t=1):RdC P t (fun z:Bool=> [.val (.bool z)]) (fun _=>True):=
 ⟨fun _=>h1.symm,fun H enc W base spare held n cs x h=>by
  obtain⟨b,rfl,_⟩:=DataW.trod_bool ht h
  exact⟨b,trivial,RelL.cons (.val _) RelL.nil⟩⟩
theorem RdC.string {t:TypeId}(ht:P.underlying t=some .string)(h1:P.cellsOf t=1):RdC P t (fun s:ByteArray=> [.val (.string s)]) (fun s=>s.size≤maxLen):=
 ⟨fun _=>h1.symm,fun H enc W base spare held n cs x h=>by
  obtain⟨b,rfl,_,hs⟩:=DataW.trod_string ht h
  exact⟨b,hs,RelL.cons (.val _) RelL.nil⟩⟩
theorem RdC.slice {t e:TypeId}{α:Type}{f:α→List AV}{good:α→Prop}(ht:P.underlying t=some (.slice e))(h1:P.cellsOf t=1)(hpos:0<P.cellsOf e)(h:RdC P e f good):
  RdC P t (fun l:List α=> [.ro false l.length (l.flatMap f)]) (fun l=>(∀a∈l,good a)∧l.length≤maxLen):=
 ⟨fun _=>h1.symm,fun H enc W base spare held n cs x hx=>by
  obtain⟨l,h2,h3,h4⟩:=k0v ht h.len hpos (fun n cs x _ hx=>h.rd H enc W base spare held n cs x hx) hx
  exact⟨l,⟨h2,h3⟩,h4⟩⟩
theorem RdC.bytes {t e:TypeId}(ht:P.underlying t=some (.slice e))(he:P.underlying e=some (.int .u8))(h1:P.cellsOf t=1)(h2:P.cellsOf e=1):RdC P t (fun l:List UInt8=> [roB l]) (fun l=>l.length≤maxLen):=
 ⟨fun _=>h1.symm,fun H enc W base spare held n cs x hx=>o0T ht he h2 hx⟩
theorem RdC.ints {t e:TypeId}{k:IntKind}(ht:P.underlying t=some (.slice e))(he:P.underlying e=some (.int k))(h1:P.cellsOf t=1)(h2:P.cellsOf e=1):
  RdC P t (fun l:List Int=> [.ro false l.length (d0t k l)]) (fun l=>(∀z∈l,(Lit.int k z).wf=true)∧l.length≤maxLen):=
 ⟨fun _=>h1.symm,fun H enc W base spare held n cs x hx=>by
  obtain⟨l,h3,h4,h5⟩:=m0T ht he h2 hx
  exact⟨l,⟨h3,h4⟩,h5⟩⟩
structure FR (P:Program) (fs:List Field) (o m:Nat) {α:Type} (f:α→List AV) (good:α→Prop):Prop where
 len: ∀a,(f a).length=m
 rd: ∀(H:Type) (enc:TypeId×Value→H) (W:World) (base:Nat) (spare:Nat→Bool) (held:Bool) (cs:List Value),cs.length=o+m→
  (∀fd∈fs,∃(n:Nat) (y:DataW H×List MemPlace),DataW.trod enc P W base spare held n fd.type ((cs.drop fd.offset).take (P.cellsOf fd.type))=some y)→ ∃a,good a∧RelL (Old W) W (f a) (cs.drop o)
theorem FR.nil {o:Nat}:FR P [] o 0 (fun _:Unit=> []) (fun _=>True):=
 ⟨fun _=>rfl,fun H enc W base spare held cs hl _=>⟨(),trivial,by rw[List.drop_of_length_le (by omega)];exact RelL.nil⟩⟩
theorem FR.cons {fd:Field}{fs:List Field}{o k m:Nat}{α β:Type}{f:α→List AV}{good:α→Prop}{g:β→List AV}{good':β→Prop}(h:RdC P fd.type f good)(ho:fd.offset=o)(hk:P.cellsOf fd.type=k)(hs:FR P fs (o+k) m g good'):
  FR P (fd::fs) o (k+m) (fun p:α×β=>f p.1++g p.2) (fun p=>good p.1∧good' p.2):=
 ⟨fun p=>by rw[cH,h.len,hs.len,hk],fun H enc W base spare held cs hl hall=>by
  obtain⟨n,y,h1⟩:=hall fd (List.mem_cons_self ..)
  rw[ho,hk]at h1
  obtain⟨a,h2,h3⟩:=h.rd H enc W base spare held _ _ _ h1
  obtain⟨b,h4,h5⟩:=hs.rd H enc W base spare held cs (by omega) (fun fd hfd=>hall fd (List.mem_cons_of_mem _ hfd))
  exact⟨(a,b),⟨h2,h4⟩,RelL.glue h3 h5⟩⟩
theorem RdC.struct {t:TypeId}{fs:List Field}{m:Nat}{α:Type}{f:α→List AV}{good:α→Prop}(ht:P.underlying t=some (.struct fs.toArray))(hm:P.cellsOf t=m)(h:FR P fs 0 m f good):RdC P t f good:=
 ⟨fun a=>by rw[h.len,hm],fun H enc W base spare held n cs x hx=>by
  obtain⟨xs,n',_,_,hl,hlen,hf⟩:=DataW.trod_struct ht hx
  obtain⟨a,h1,h2⟩:=h.rd H enc W base spare held cs (by omega) (fun fd hfd=>by
   obtain⟨i,hi,rfl⟩:=List.getElem_of_mem hfd
   have h0:=hf i fs[i] (by simp[hi])
   have hxi:i<xs.length:=by rw[hlen];simpa using hi
   rw[List.getElem?_eq_getElem hxi]at h0
   exact⟨n',_,h0⟩)
  exact⟨a,h1,by simpa using h2⟩⟩
theorem RdC.map {t:TypeId}{α β:Type}{f:α→List AV}{good:α→Prop}{g:β→List AV}{good':β→Prop}(h:RdC P t f good)(φ:α→β)(hφ: ∀a,good a→good' (φ a)∧f a=g (φ a))(hl: ∀b,(g b).length=P.cellsOf t):RdC P t g good':=
 ⟨hl,fun H enc W base spare held n cs x hx=>by
  obtain⟨a,h1,h2⟩:=h.rd H enc W base spare held n cs x hx
  exact⟨φ a,(hφ a h1).1,(hφ a h1).2▸h2⟩⟩
theorem RdC.reads {t:TypeId}{α:Type}{f:α→List AV}{good:α→Prop}(h:RdC P t f good)(g:α→AV)(hg: ∀a,f a= [g a])(hw: ∀(W:World) (b:Nat) (v:Value),Value.okWide P W .any b t v→v.cells.toList= [v]):Reads P t (fun x=> ∃a,good a∧x=g a):=
 fun H enc W base b0 spare held v d p hv ⟨n,hx⟩=>by
  obtain⟨a,h1,h2⟩:=h.rd H enc W base spare held n _ _ hx
  rw[hg]at h2
  exact⟨g a,⟨a,h1,rfl⟩,j0n (hw _ _ _ hv) h2⟩
theorem RdC.readsAgg {t:TypeId}{α:Type}{f:α→List AV}{good:α→Prop}(h:RdC P t f good)(hw: ∀(W:World) (b:Nat) (v:Value),Value.okWide P W .any b t v→ ∃cs,v= .agg cs):Reads P t (fun x=> ∃a,good a∧x= .agg (f a)):=
 fun H enc W base b0 spare held v d p hv ⟨n,hx⟩=>by
  obtain⟨cs,rfl⟩:=hw _ _ _ hv
  obtain⟨a,h1,h2⟩:=h.rd H enc W base spare held n _ _ hx
  exact⟨.agg (f a),⟨a,h1,rfl⟩,j0o h2⟩
theorem Reads.int {t:TypeId}{k:IntKind}(ht:P.underlying t=some (.int k))(h1:P.cellsOf t=1):Reads P t (fun x=> ∃z:Int,(Lit.int k z).wf=true∧x= .val (.int k z)):=(RdC.int ht h1).reads (fun z=> .val (.int k z)) (fun _=>rfl) (fun _ _ _ h=>r0N ht h)
theorem Reads.bool {t:TypeId}(ht:P.underlying t=some .bool)(h1:P.cellsOf t=1):Reads P t (fun x=> ∃z:Bool,True∧x= .val (.bool z)):=(RdC.bool ht h1).reads (fun z=> .val (.bool z)) (fun _=>rfl) (fun _ _ _ h=>p0j ht h)
theorem Reads.bytes {t e:TypeId}(ht:P.underlying t=some (.slice e))(he:P.underlying e=some (.int .u8))(h1:P.cellsOf t=1)(h2:P.cellsOf e=1):Reads P t (fun x=> ∃l:List UInt8,l.length≤maxLen∧x=roB l):=(RdC.bytes ht he h1 h2).reads roB (fun _=>rfl) (fun _ _ _ h=>f0E ht h)
theorem Reads.ints {t e:TypeId}{k:IntKind}(ht:P.underlying t=some (.slice e))(he:P.underlying e=some (.int k))(h1:P.cellsOf t=1)(h2:P.cellsOf e=1):
  Reads P t (fun x=> ∃l:List Int,((∀z∈l,(Lit.int k z).wf=true)∧l.length≤maxLen)∧x= .ro false l.length (d0t k l)):=(RdC.ints ht he h1 h2).reads (fun l=> .ro false l.length (d0t k l)) (fun _=>rfl) (fun _ _ _ h=>f0E ht h)
theorem Reads.slice {t e:TypeId}{α:Type}{f:α→List AV}{good:α→Prop}(ht:P.underlying t=some (.slice e))(h1:P.cellsOf t=1)(hpos:0<P.cellsOf e)(h:RdC P e f good):
  Reads P t (fun x=> ∃l:List α,((∀a∈l,good a)∧l.length≤maxLen)∧x= .ro false l.length (l.flatMap f)):=(RdC.slice ht h1 hpos h).reads (fun l=> .ro false l.length (l.flatMap f)) (fun _=>rfl) (fun _ _ _ h=>f0E ht h)
def ReadsL (P:Program):List TypeId→List (AV→Prop)→Prop
 | [],[]=>True
 |t::ts,φ::φs=>Reads P t φ∧ReadsL P ts φs
 |_,_=>False
theorem ReadsL.nil:ReadsL P [] []:=trivial
theorem ReadsL.cons {t:TypeId}{ts:List TypeId}{φ:AV→Prop}{φs:List (AV→Prop)}(h:Reads P t φ)(hs:ReadsL P ts φs):ReadsL P (t::ts) (φ::φs):=⟨h,hs⟩
def s0x:List (AV→Prop)→(List AV→Prop)→Prop
 | [],K=>K []
 |φ::φs,K=> ∀x,φ x→s0x φs (fun xs=>K (x::xs))
theorem m0S {H:Type}{enc:TypeId×Value→H}{W:World}{base b0:Nat}{spare:Nat→Bool}{held:Bool}: ∀{ts:List TypeId} {φs:List (AV→Prop)} {K:List AV→Prop} {vs:List Value} {ds:List (DataW H)} {ps:List MemPlace},
  ReadsL P ts φs→s0x φs K→(∀(j:Nat) t v,ts[j]? =some t→vs[j]? =some v→Value.okWide P W .any b0 t v)→DataW.TrodAll enc P W base spare held ts vs ds ps→ ∃xs,K xs∧RelL (Old W) W xs vs
 | [],[],K,vs,ds,ps,_,hK,_,hT=>by
  obtain⟨rfl,_,_⟩:=trodAll_nil hT
  exact⟨[],hK,RelL.nil⟩
 | [],_::_,_,_,_,_,h,_,_,_=>h.elim
 |_::_,[],_,_,_,_,h,_,_,_=>h.elim
 |t::ts,φ::φs,K,vs,ds,ps,h,hK,hv,hT=>by
  obtain⟨v0,vs0,d0,ds0,p0,q0,rfl,rfl,rfl,h0,r0⟩:=trodAll_cons hT
  obtain⟨x,h1,h2⟩:=h.1 H enc W base b0 spare held v0 d0 p0 (hv 0 t v0 rfl rfl) h0
  obtain⟨xs,h3,h4⟩:=m0S h.2 (hK x h1) (fun j t v a b=>hv (j+1) t v a b) r0
  exact⟨x::xs,h3,RelL.cons h2 h4⟩
end
theorem i0z {f:FuncId}{fn:Func}{s:ChangeSpec}{H:Type}(enc:TypeId×Value→H){ts:List TypeId}{φs:List (AV→Prop)}(hp:fn.params.toList=ts)(hr:ReadsL Tryz.prog ts φs)
  (h:s0x φs fun xs=>Sp Tryz.prog f xs [] (Is (.val (.bool true)))) {W:World} {base:Nat} {args:Array Value} {ds gs:List (DataW H)} {before:List MemPlace}
  (hval: ∀(j:Nat) t v,fn.params[j]? =some t→args[j]? =some v→Value.okWide Tryz.prog W .any base t v)
  (hW:DataW.Whole enc Tryz.prog fn.params.toList s.vars false W args.toList ds gs before)
  (post: ∀W',Ext W W'→s.post enc Tryz.prog fn false true false false W args (.bool true) W'):
  Calls Tryz.prog f args W fun e W'=> ∃v,e= .returned v∧s.post enc Tryz.prog fn false true false false W args v W':=by
 obtain⟨p,q,hA,hV,rfl,hfz,hnd⟩:=hW
 rw[hp]at hA
 obtain⟨xs,hS,hR⟩:=m0S (b0:=base) hr h (fun j t v h1 h2=>hval j t v (by rw[←Array.getElem?_toList,hp];exact h1) (by rw[←Array.getElem?_toList];exact h2)) hA
 have hc:=hS W (Old W) args.toList (fun b hb=>hb) (fun e he=>by cases he) .nil hR
 rw[Array.toArray_toList]at hc
 refine hc.mono ?_
 rintro e W' ⟨u,r,H',R',rfl,⟨rfl,rfl⟩,hs,hv⟩
 obtain rfl:=hv.val_inv
 exact⟨_,rfl,post W' (hs.mods.mono fun b _ ⟨e,he,_⟩=>by cases he)⟩
end Go.Proofs.YtojomcdjcpmnkaaGreat.A
namespace Go.Proofs.YtojomcdjcpmnkaaGreat.By
open Go.RowKit L A
theorem i64_in {z:Int}(h:(Lit.int .i64 z).wf=true): -9223372036854775808≤z∧z≤9223372036854775807:=by
 simpa[Lit.wf,IntKind.min,IntKind.max,IntKind.signed,IntKind.bits]using h
def u0n (o:Opt):Prop:=(Lit.int .i64 o.num).wf=true∧o.val.length≤maxLen
def v0w (m:Msg):Prop:=((Lit.int .i64 m.ty).wf=true∧(Lit.int .i64 m.code).wf=true∧(Lit.int .i64 m.id).wf=true)∧m.tok.length≤maxLen∧((∀o∈m.opts,u0n o)∧m.opts.length≤maxLen)∧m.pay.length≤maxLen
theorem u0S:RdC Tryz.prog 96 n0Y u0n:=
 (RdC.struct Tryz.underlying96 (by kernel_rfl)
  (.cons (k:=1) (RdC.int Tryz.underlying3 (by kernel_rfl)) rfl (by kernel_rfl)
  (.cons (k:=1) (RdC.bytes Tryz.underlying22 Tryz.underlying5 (by kernel_rfl) (by kernel_rfl)) rfl (by kernel_rfl) .nil))).map
  (fun p=>⟨p.1,p.2.1⟩) (fun p h=>⟨⟨h.1,h.2.1⟩,rfl⟩) (fun _=>by show 2=_;kernel_rfl)
theorem u0T:RdC Tryz.prog 29 u0b v0w:=
 (RdC.struct Tryz.underlying29 (by kernel_rfl)
  (.cons (k:=1) (RdC.int Tryz.underlying3 (by kernel_rfl)) rfl (by kernel_rfl)
  (.cons (k:=1) (RdC.int Tryz.underlying3 (by kernel_rfl)) rfl (by kernel_rfl)
  (.cons (k:=1) (RdC.int Tryz.underlying3 (by kernel_rfl)) rfl (by kernel_rfl)
  (.cons (k:=1) (RdC.bytes Tryz.underlying22 Tryz.underlying5 (by kernel_rfl) (by kernel_rfl)) rfl (by kernel_rfl)
  (.cons (k:=1) (RdC.slice Tryz.underlying27 (by kernel_rfl) (of_decide_eq_true (by kernel_rfl)) u0S) rfl (by kernel_rfl)
  (.cons (k:=1) (RdC.bytes Tryz.underlying22 Tryz.underlying5 (by kernel_rfl) (by kernel_rfl)) rfl (by kernel_rfl) .nil))))))).map
  (fun p=>⟨p.1,p.2.1,p.2.2.1,p.2.2.2.1,p.2.2.2.2.1,p.2.2.2.2.2.1⟩) (fun p h=>⟨⟨⟨h.1,h.2.1,h.2.2.1⟩,h.2.2.2.1,h.2.2.2.2.1,h.2.2.2.2.2.1⟩,rfl⟩) (fun _=>by show 6=_;kernel_rfl)
end Go.Proofs.YtojomcdjcpmnkaaGreat.By
namespace Go.Proofs.YtojomcdjcpmnkaaGreat.By
open Go.RowKit Go.Deep L A
abbrev u0o (b:Bd):Prop:=b.ctx.length≤maxLen∧b.kid.length≤maxLen∧(Lit.int .i64 b.piv).wf=true
theorem w0d:RdC Tryz.prog 42 cBd u0o:=
 (RdC.struct Tryz.underlying42 (by kernel_rfl)
  (.cons (k:=1) (RdC.bytes Tryz.underlying22 Tryz.underlying5 (by kernel_rfl) (by kernel_rfl)) rfl (by kernel_rfl)
  (.cons (k:=1) (RdC.bytes Tryz.underlying22 Tryz.underlying5 (by kernel_rfl) (by kernel_rfl)) rfl (by kernel_rfl)
  (.cons (k:=1) (RdC.int Tryz.underlying3 (by kernel_rfl)) rfl (by kernel_rfl) .nil)))).map
  (fun p=>⟨p.1,p.2.1,p.2.2.1⟩) (fun p h=>⟨⟨h.1,h.2.1,h.2.2.1⟩,rfl⟩) (fun _=>by show 3=_;kernel_rfl)
end Go.Proofs.YtojomcdjcpmnkaaGreat.By
