/-
  OscoreOpens, the statement: for every input the law returns true, and its arguments read as before. No condition.
-/
import Derived.Maps.AppendAt
import Derived.ChangeSame
import Derived.JoinedOf
import Derived.JoinedAt
import Derived.RowKit3
import Derived.ReadAgain
import Derived.Deep.Slices
import Derived.ChangeSlices
import Derived.Test.YtojomcdjcpmnkaaGreatZo5
set_option linter.unusedVariables false
set_option linter.unusedSimpArgs false
set_option maxRecDepth 20000
set_option maxHeartbeats 4000000
namespace Go.Proofs.YtojomcdjcpmnkaaGreat.By
open Go.RowKit L A
attribute [local irreducible] AW AQ AO
theorem q0v {c:Int}(h:rq c=true):rs c=false:=by
 unfold rq at h
 unfold rs
 simp only[Bool.and_eq_true,cQ]at h
 exact decide_eq_false (by omega)
set_option maxHeartbeats 8000000 in
theorem q0D (outer inner:Msg)(ho:n0r outer)(hi:n0r inner):Sp Tryz.prog 175 [b0c outer,b0c inner] [] (Is (w0A (c0C outer inner))):=by
 obtain⟨a1,a2,a3,a4⟩:=ho
 obtain⟨b1,b2,b3,b4⟩:=hi
 refine yX Tryz.func175 _ Tryz.ntmps175 (fun w0 R0=> ?_)
 refine zD (zr ?_)
 refine yo ?_
 intro B1
 refine yo ?_
 intro B2
 refine zd ?_
 intro B3
 refine zc (zJ (zn (zD (zD (zr ?_)))))
 refine zq ?_
 refine zp ?_
 refine vO (xM rfl Tryz.func63 rfl rfl rfl (b0N inner.code)) ?_
 refine xu ?_
 refine zb ?_
 refine zN ?_
 refine yn 22 ?_
 refine AO.opG rfl rfl rfl (fun hp=>ve 23 rfl (by exact hp) (xM rfl Tryz.func83 rfl rfl rfl (c0e inner.code))) ?_
 refine xc 24 ?_
 refine zW (zJ (zn ?_))
 refine yt (fun h=> ?_) (fun h=> ?_)<;>(try simp only[vT]at h)
 ·have e:c0C outer inner=(Msg.none,1):=if_neg (by rw[h.1,h.2];simp)
  refine zD (zr ?_)
  refine zP ?_
  refine za 0 ?_
  refine zc (zJ (zn (xj (xx ?_))))
  refine wa yd zl (i0R e)
 have hc:rq inner.code=true∨rs inner.code=true:=by cases hq:rq inner.code<;>simp_all
 refine y6 (zn (zD (zD (zr ?_))))
 refine zq ?_
 refine zp ?_
 refine vO (xM rfl Tryz.func63 rfl rfl rfl (b0N inner.code)) ?_
 refine zb ?_
 refine zN ?_
 refine yn 32 ?_
 refine AO.opG rfl rfl rfl (fun hp=>ve 33 rfl (by exact hp) (xM rfl Tryz.func63 rfl rfl rfl (b0N outer.code))) ?_
 refine xc 34 ?_
 refine zW ?_
 refine zb ?_
 refine zN ?_
 refine yn 38 ?_
 refine AO.opG rfl rfl rfl (fun hp=>ve 39 rfl (by exact hp) (xM rfl Tryz.func83 rfl rfl rfl (c0e inner.code))) ?_
 refine wQ 40 ?_
 refine zN ?_
 refine yn 42 ?_
 refine AO.opG rfl rfl rfl (fun hp=>ve 43 rfl (by exact hp) (xM rfl Tryz.func83 rfl rfl rfl (c0e outer.code))) ?_
 refine xc 44 ?_
 refine va 41 ?_
 refine zI (zJ (zn ?_))
 refine yt (fun hm=> ?_) (fun hm=> ?_)<;>(try simp only[vT]at hm)
 ·have e:c0C outer inner=(Msg.none,18):=by
   rw[c0C,if_pos hc,if_neg]
   rintro⟨k1,k2⟩
   rw[k1,k2]at hm
   simp at hm
  refine zD (zr ?_)
  refine zP ?_
  refine za 0 ?_
  refine zc (zJ (zn (xj (xx ?_))))
  refine wa yd zl (i0R e)
 have hm2:rq inner.code=rq outer.code∧rs inner.code=rs outer.code:=by
  rcases hc with hc|hc
  ·have h1:=hm.1 hc
   rw[hc,h1,q0v hc,q0v h1];exact⟨rfl,rfl⟩
  have h1:=hm.2 hc
  have h2:rq inner.code=false:=by cases hq:rq inner.code;rfl;rw[q0v hq]at hc;cases hc
  have h3:rq outer.code=false:=by cases hq:rq outer.code;rfl;rw[q0v hq]at h1;cases h1
  rw[hc,h1,h2,h3];exact⟨rfl,rfl⟩
 refine y6 (zn (zD ?_))
 refine yA 14 ?_
 simp only[cT,cZ,cD,cO]
 refine yw ?_
 refine zM ?_
 refine yw ?_
 refine zM ?_
 refine yw ?_
 refine zM ?_
 refine vP (xM rfl Tryz.func69 rfl rfl rfl (a0p _ (by assumption))) ?_
 refine yw ?_
 refine zM ?_
 refine yw ?_
 refine zM ?_
 refine vP (xM rfl Tryz.func69 rfl rfl rfl (a0p _ (by assumption))) ?_
 refine x0 ?_
 refine yS ?_
 refine vb ?_
 simp only[a0h,cN,cA,cP]
 rintro _ _ ⟨B4,rfl,rfl⟩
 simp only[cA,cN]
 refine za 0 (zJ (zn (zD (zr ?_))))
 refine zc (zJ (zn (zD (zD (zr ?_)))))
 refine zq ?_
 refine zp ?_
 refine zX ?_
 refine zb (zJ (zn (xo ?_)))
 refine AW.g ?_
 refine G.nilRow 96 2 ?_
 refine AW.u ?_
 refine xQ [(2,_),(4,_),(6,_),(63,_),(64,_)] (fun nn E H=> ∃(k:Nat) (V:Value),(k≤inner.opts.length)∧(V.oneCell'=true)∧(r0B (inner.opts.take k)=false)∧nn=inner.opts.length-k∧E= [(7,.val V),(65,.val (.int .i64 (k:Int)))]∧H= [.row V 96 2 (inner.opts.take k).length (a0z (inner.opts.take k)),.blk B4 29 6 [.val (.int .i64 outer.ty),.val (.int .i64 inner.code),.val (.int .i64 outer.id),roB outer.tok,.val (.slice none 0 0),roB inner.pay],.blk B3 29 6 [.val (.int .i64 0),.val (.int .i64 0),.val (.int .i64 0),.val (.slice none 0 0),.val (.slice none 0 0),.val (.slice none 0 0)],.blk B1 29 6 [.val (.int .i64 outer.ty),.val (.int .i64 outer.code),.val (.int .i64 outer.id),roB outer.tok,roO outer.opts,roB outer.pay]]) _ (⟨0,_,by omega,rfl,rfl,rfl,rfl,rfl⟩) ?_
 rintro nn E H ⟨k,V,hk,hV,hb,rfl,rfl,rfl⟩
 dsimp only[cA,cN]
 have hlk:(inner.opts.take k).length=k:=by rw[List.length_take];omega
 refine zD (zr ?_)
 refine zT (zJ (zn (zD ?_)))
 refine yt (fun h2=> ?_) (fun h2=> ?_)<;>(try simp only[vT]at h2)
 ·have hkk:k<inner.opts.length:=by omega
  have hv4:=b4 k hkk
  have hts:inner.opts.take (k+1)=inner.opts.take k++[oat inner.opts k]:=a0i Opt.none hkk
  refine y6 (zn (zD (xo (zD (zr ?_)))))
  refine ye ?_
  refine y3 ?_
  refine zd ?_
  intro B5
  refine za 0 (zJ (zn (zD (zD (zr ?_)))))
  refine zq ?_
  refine zv ?_
  refine vO (xM rfl Tryz.func121 rfl rfl rfl (g0g _)) ?_
  refine z8 (zJ (zn ?_))
  refine yt (fun h3=> ?_) (fun h3=> ?_)<;>(try simp only[vT]at h3)
  ·have e:c0C outer inner=(Msg.none,4):=by
    rw[c0C,if_pos hc,if_pos hm2,if_pos]
    exact List.any_eq_true.2 ⟨oat inner.opts k,b0m _ hkk,by simpa using h3⟩
   refine zD (zr ?_)
   refine zP ?_
   refine za 3 ?_
   refine zc (zJ (zn (xj (xx ?_))))
   refine ww (xx ?_)
   refine AQ.loopR ?_
   refine ww (xx ?_)
   refine wa zm zl (i0R e)
  have hb':r0B (inner.opts.take (k+1))=false:=by
   rw[hts];unfold r0B at hb⊢;rw[List.any_append,hb];simp only[List.any_cons,List.any_nil,Bool.false_or,Bool.or_false];exact decide_eq_false h3
  refine y6 (zn (zr ?_))
  refine zb ?_
  refine zC ?_
  refine zR ?_
  intro B6
  refine AO.g ?_
  refine yi 0 76 ?_
  refine wm 76 ?_
  refine AO.u ?_
  dsimp only[List.eraseIdx]
  refine zy 1 ?_
  intro V7 hV7
  refine zc (zJ (xE (zn (zr ?_))))
  refine zB ?_
  refine zb (zJ ?_)
  refine zL _ _ _ (by omega) (⟨k+1,_,by omega,‹_›,hb',rfl,rfl,by rw[hts,a0D,cH]⟩)
 obtain rfl:k=inner.opts.length:=by omega
 rw[List.take_length]at hb⊢
 have hnc: ¬r0B inner.opts=true:=by rw[hb];simp
 have e:c0C outer inner=(⟨outer.ty,inner.code,outer.id,outer.tok,b0W (inner.opts++g0T outer.opts),inner.pay⟩,0):=by rw[c0C,if_pos hc,if_pos hm2,if_neg hnc]
 refine wj ?_
 refine x8 ?_
 refine wd ?_
 refine xD (zn (zD (zD (zr ?_))))
 refine zq ?_
 refine zp ?_
 refine zX ?_
 refine zb (zJ (zn (xo ?_)))
 refine zi [(4,_),(6,_),(80,_),(81,_)] (fun nn E H=> ∃(k:Nat) (V:Value),(k≤outer.opts.length)∧(V.oneCell'=true)∧nn=outer.opts.length-k∧E= [(7,.val V),(82,.val (.int .i64 (k:Int)))]∧H= [.row V 96 2 (inner.opts++g0T (outer.opts.take k)).length (a0z (inner.opts++g0T (outer.opts.take k))),.blk B4 29 6 [.val (.int .i64 outer.ty),.val (.int .i64 inner.code),.val (.int .i64 outer.id),roB outer.tok,.val (.slice none 0 0),roB inner.pay],.blk B3 29 6 [.val (.int .i64 0),.val (.int .i64 0),.val (.int .i64 0),.val (.slice none 0 0),.val (.slice none 0 0),.val (.slice none 0 0)]]) _ (⟨0,V,by omega,hV,rfl,rfl,by rw[show inner.opts++g0T (outer.opts.take 0)=inner.opts by simp[g0T]]⟩) ?_
 rintro nn E H ⟨k,V,hk,hV,rfl,rfl,rfl⟩
 dsimp only[cA,cN]
 have hl2:=i0d (outer.opts.take k)
 rw[List.length_take]at hl2
 have hl3:(inner.opts++g0T (outer.opts.take k)).length=inner.opts.length+(g0T (outer.opts.take k)).length:=List.length_append
 refine zD (zr ?_)
 refine zT (zJ (zn (zD ?_)))
 refine yt (fun h4=> ?_) (fun h4=> ?_)<;>(try simp only[vT]at h4)
 ·have hkk:k<outer.opts.length:=by omega
  have hv4:=a4 k hkk
  have hsc:=j0g (outer.opts.take k) (oat outer.opts k)
  rw[←a0i Opt.none hkk]at hsc
  refine y6 (zn (zD (xo (zD (zr ?_)))))
  refine ye ?_
  refine y3 ?_
  refine zd ?_
  intro B8
  refine za 0 (zJ (zn (zD (zr ?_))))
  refine zq ?_
  refine zv ?_
  refine vO (xM rfl Tryz.func121 rfl rfl rfl (g0g _)) ?_
  refine z8 ?_
  refine zb ?_
  refine zN ?_
  refine zw 91 ?_
  refine xW 92 ?_
  refine zW (zJ (zn ?_))
  refine yt (fun h5=> ?_) (fun h5=> ?_)<;>(try simp only[vT]at h5)
  ·rw[if_pos h5,]at hsc
   refine zr ?_
   refine zb ?_
   refine zC ?_
   refine zR ?_
   intro B9
   refine AO.g ?_
   refine yi 0 97 ?_
   refine wm 97 ?_
   refine AO.u ?_
   dsimp only[List.eraseIdx]
   refine zy 1 ?_
   intro V10 hV10
   refine zc (zJ (xE (zn (zr ?_))))
   refine zB ?_
   refine zb (zJ ?_)
   refine zL _ _ _ (by omega) (⟨k+1,_,by omega,‹_›,rfl,rfl,by rw[hsc,←List.append_assoc,a0D,List.length_append (bs:= [_])]⟩)
  rw[if_neg (fun hh=>hh.2 (h5 hh.1))]at hsc
  refine y6 (xE (zn (zr ?_)))
  refine zB ?_
  refine zb (zJ ?_)
  refine zL _ _ _ (by omega) (⟨k+1,V,by omega,hV,rfl,rfl,by rw[hsc]⟩)
 obtain rfl:k=outer.opts.length:=by omega
 rw[List.take_length]at hl2 hl3⊢
 refine AW.g ?_
 refine yf 0 [7] ?_
 refine AW.u ?_
 try dsimp only[List.map,List.eraseIdx,cA,cN]
 refine wj ?_
 refine x8 ?_
 refine wd ?_
 refine xD (zn (zD (zD (zr ?_))))
 refine zb ?_
 refine zX ?_
 refine zb (zJ (zn (xo ?_)))
 obtain⟨L,hL⟩: ∃L,L=inner.opts++g0T outer.opts:=⟨_,rfl⟩
 have hLv: ∀o∈L,o.val.length≤140737488355328:=fun o hoL=>by
  rw[hL]at hoL
  rcases List.mem_append.1 hoL with hoL|hoL
  ·obtain⟨j,hj,rfl⟩:=List.getElem_of_mem hoL
   have:=b4 j hj
   simpa[hj]using this
  obtain⟨j,hj,rfl⟩:=List.getElem_of_mem (List.mem_filter.1 hoL).1
  have:=a4 j hj
  simpa[hj]using this
 rw[←hL]at hl3 e⊢
 refine AW.g ?_
 refine G.nilRow 96 2 ?_
 refine AW.u ?_
 refine zi [(4,_),(6,_),(100,_),(101,_)] (fun nn E H=> ∃(k:Nat) (os:List Opt) (V:Value),(k≤L.length)∧(os=b0W (L.take k))∧(V.oneCell'=true)∧(os= []→V= .slice none 0 0)∧nn=L.length-k∧E= [(102,.val (.int .i64 (k:Int)))]∧H= [.row V 96 2 (os).length (a0z (os)),.blk B4 29 6 [.val (.int .i64 outer.ty),.val (.int .i64 inner.code),.val (.int .i64 outer.id),roB outer.tok,.val V,roB inner.pay],.blk B3 29 6 [.val (.int .i64 0),.val (.int .i64 0),.val (.int .i64 0),.val (.slice none 0 0),.val (.slice none 0 0),.val (.slice none 0 0)]]) _ (⟨0,[],_,by omega,rfl,rfl,fun _=>rfl,rfl,rfl,rfl⟩) ?_
 rintro nn E H ⟨k,os,V,hk,hos,hV,h0,rfl,rfl,rfl⟩
 dsimp only[cA,cN]
 have hosl:os.length=k:=by rw[hos,f0a,List.length_take];omega
 refine zD (zr ?_)
 refine zT (zJ (zn (zD ?_)))
 refine yt (fun h6=> ?_) (fun h6=> ?_)<;>(try simp only[vT]at h6)
 ·have hkk:k<L.length:=by omega
  have hvL:(oat L k).val.length≤140737488355328:=hLv _ (b0m _ hkk)
  have hsc:b0W (L.take (k+1))=d0k os (oat L k):=by rw[a0i Opt.none hkk,g0s,hos]
  rcases Nat.eq_zero_or_pos os.length with hz|hz
  ·obtain rfl:os= []:=List.eq_nil_of_length_eq_zero hz
   obtain rfl:=h0 rfl
   refine y6 (zn (zD (xo (zD (zr ?_)))))
   refine ye ?_
   refine y3 ?_
   refine zd ?_
   intro B11
   refine za 0 (zJ (zn (zD ?_)))
   refine yA 7 ?_
   simp only[cT,cZ,cD,cO]
   refine yw ?_
   refine yU ?_
   refine yw ?_
   refine yU ?_
   refine vP (xM rfl Tryz.func69 rfl rfl rfl (a0p _ (by assumption))) ?_
   refine x0 ?_
   refine yS ?_
   refine vb ?_
   simp only[a0h,cN,cA,cP]
   rintro _ _ ⟨B12,rfl,rfl⟩
   simp only[cA,cN]
   refine za 0 (zJ (zn (zD (zr ?_))))
   refine zq ?_
   refine zp ?_
   refine vO (O.lenV rfl rfl) ?_
   refine zc (zJ (zn (zD (xo ?_))))
   refine zi [(4,_),(6,_),(13,_),(14,_),(100,_),(101,_),(102,_)] (fun nn E H=> ∃(i:Nat),(i=0)∧i=nn∧E= [(15,.val (.int .i64 (i:Int)))]∧H= [.blk B12 96 2 [.val (.int .i64 (oat L k).num),roB (oat L k).val],.blk B11 96 2 [.val (.int .i64 (oat L k).num),roB (oat L k).val],.row (.slice none 0 0) 96 2 0 [],.blk B4 29 6 [.val (.int .i64 outer.ty),.val (.int .i64 inner.code),.val (.int .i64 outer.id),roB outer.tok,.val (.slice none 0 0),roB inner.pay],.blk B3 29 6 [.val (.int .i64 0),.val (.int .i64 0),.val (.int .i64 0),.val (.slice none 0 0),.val (.slice none 0 0),.val (.slice none 0 0)]]) _ (⟨0,rfl,rfl,rfl,rfl⟩) ?_
   rintro nn E H ⟨i,hi,rfl,rfl,rfl⟩
   dsimp only[cA,cN]
   subst hi
   refine zD (zD ?_)
   refine yA 14 ?_
   simp only[cT,cZ,cD,cO]
   refine zH ?_
   refine vP (O.gtr rfl rfl rfl (by exact e0G (by omega))) ?_
   refine zH ?_
   refine wy ?_
   refine FA.opG rfl rfl rfl rfl (fun hp=>xI 118 rfl (by exact hp)) ?_
   refine FA.opG rfl rfl rfl rfl (fun hp=>zg) ?_
   refine FA.opG rfl rfl rfl rfl (fun hp=>vH 120 rfl (by exact hp)) ?_
   refine FA.no rfl rfl rfl rfl ?_
   refine FA.no rfl rfl rfl rfl ?_
   refine FA.no rfl rfl rfl rfl ?_
   refine wy ?_
   refine FA.opG rfl rfl rfl rfl (fun hp=>xI 125 rfl (by exact hp)) ?_
   refine FA.no rfl rfl rfl rfl ?_
   refine vP (O.pickF rfl rfl rfl) ?_
   refine vb ?_
   simp only[a0h,cN,cA,cP]
   refine zJ (zn ?_)
   refine yt (fun hq=> ?_) (fun hq=> ?_)
   ·simp at hq
   refine wj ?_
   refine x8 ?_
   refine wd ?_
   refine xD (zn (zD (zr ?_)))
   refine zq ?_
   refine zp ?_
   refine zb ?_
   refine vO (O.sliceN rfl rfl rfl rfl ⟨by omega,by omega,by omega⟩) ?_
   refine vR (O.appendNil rfl (by rfl) (by rfl) rfl rfl (by exact SrcA.nil TyD.ax) (by rfl) (by(unfold maxLen;omega)) (by omega)) ?_
   intro V13 hV13
   refine zc (zJ (zn ?_))
   refine vo [[(0,false),(1,false),(2,false),(3,false),(4,false),(5,false),(7,false),(6,true)],[(8,true)],[(9,false)],[(10,true)]] ?_
   refine AMS.go (by exact(a0s 3 rfl a0g)) ?_
   try dsimp only[List.eraseIdx]
   refine y1 ?_
   refine yu ?_
   refine yW ?_
   refine vQ rfl (O.sliceN rfl rfl rfl rfl ⟨by omega,by omega,by omega⟩) ?_
   refine zQ ?_
   refine xk ?_
   refine yW ?_
   refine xN _ (fun w0 R0=> ?_)
   refine zy 0 ?_
   intro V14 hV14
   refine AM.ok ?_
   dsimp only[a0q]
   refine vd ?_
   try dsimp only[cA,cN]
   refine vf ?_
   try dsimp only[List.eraseIdx]
   refine xN _ (fun w0 R0=> ?_)
   refine AO.append' (i:=0) rfl rfl rfl rfl (by rfl) (by rfl) rfl rfl rfl (by exact SrcA.row TyD.ax mM (by rfl)) (by rfl) (by(unfold maxLen;omega)) (by omega) (by(dsimp only[List.set,cA,cN,List.take,List.drop];done)) (fun _=>by(dsimp only[List.set];done)) ?_
   intro V15 hV15
   refine AM.ok ?_
   dsimp only[a0q]
   refine vd ?_
   try dsimp only[cA,cN]
   refine vL ?_
   try dsimp only[List.eraseIdx]
   refine y1 ?_
   refine vd ?_
   try dsimp only[cA,cN]
   refine AMS.go (by exact(by exact a0K 145 4 rfl rfl a0g)) ?_
   try dsimp only[List.eraseIdx]
   refine xN _ (fun w0 R0=> ?_)
   refine yF 0 (vI ?_)
   dsimp only[a0q]
   refine vd ?_
   try dsimp only[cA,cN]
   refine AMS.nil (xE (zn (zr ?_)))
   refine zB ?_
   refine zb (zJ ?_)
   refine AQ.g ?_
   refine G.coeRow 1 (d0k [] (oat L k)).length (a0z (d0k [] (oat L k))) rfl rfl (CoeL.of_eq rfl) ?_
   refine AQ.u ?_
   refine wl _ _ _ (by omega) (⟨k+1,d0k [] (oat L k),_,by omega,hsc.symm,‹_›,fun hh=>absurd (congrArg List.length hh) (by rw[b0g];simp),rfl,rfl,rfl⟩)
  refine AW.g ?_
  refine G.openRow 0 rfl hz (fun b' cap hc1 hc2 hxs hVe=> ?_)
  refine AW.u ?_
  subst hVe
  have hc3:=hc2
  unfold maxLen at hc3
  refine y6 (zn (zD (xo (zD (zr ?_)))))
  refine ye ?_
  refine y3 ?_
  refine zd ?_
  intro B11
  refine za 0 (zJ (zn (zD ?_)))
  refine yA 7 ?_
  simp only[cT,cZ,cD,cO]
  refine yw ?_
  refine yU ?_
  refine yw ?_
  refine yU ?_
  refine vP (xM rfl Tryz.func69 rfl rfl rfl (a0p _ (by assumption))) ?_
  refine x0 ?_
  refine yS ?_
  refine vb ?_
  simp only[a0h,cN,cA,cP]
  rintro _ _ ⟨B12,rfl,rfl⟩
  simp only[cA,cN]
  refine za 0 (zJ (zn (zD (zr ?_))))
  refine zq ?_
  refine zp ?_
  refine vO (O.lenV rfl rfl) ?_
  refine zc (zJ (zn (zD (xo ?_))))
  refine zi [(4,_),(6,_),(13,_),(14,_),(100,_),(101,_),(102,_)] (fun nn E H=> ∃(i:Nat),(i≤os.length)∧(i0a os (oat L k).num i=i0a os (oat L k).num os.length)∧i=nn∧E= [(15,.val (.int .i64 (i:Int)))]∧H= [.blk B12 96 2 [.val (.int .i64 (oat L k).num),roB (oat L k).val],.blk B11 96 2 [.val (.int .i64 (oat L k).num),roB (oat L k).val],.blk b' 96 (cap*2) (a0z os),.blk B4 29 6 [.val (.int .i64 outer.ty),.val (.int .i64 inner.code),.val (.int .i64 outer.id),roB outer.tok,.val (.slice (some ⟨b',0,none⟩) os.length cap),roB inner.pay],.blk B3 29 6 [.val (.int .i64 0),.val (.int .i64 0),.val (.int .i64 0),.val (.slice none 0 0),.val (.slice none 0 0),.val (.slice none 0 0)]]) _ (⟨os.length,Nat.le_refl _,rfl,rfl,rfl,rfl⟩) ?_
  rintro nn E H ⟨i,hi,hp,rfl,rfl,rfl⟩
  dsimp only[cA,cN]
  rcases i with _|i
  ·refine zD (zD ?_)
   refine yA 14 ?_
   simp only[cT,cZ,cD,cO]
   refine zH ?_
   refine vP (O.gtr rfl rfl rfl (by exact e0G (by omega))) ?_
   refine zH ?_
   refine wy ?_
   refine FA.opG rfl rfl rfl rfl (fun hp=>xI 118 rfl (by exact hp)) ?_
   refine FA.opG rfl rfl rfl rfl (fun hp=>zg) ?_
   refine FA.opG rfl rfl rfl rfl (fun hp=>vH 120 rfl (by exact hp)) ?_
   refine FA.no rfl rfl rfl rfl ?_
   refine FA.no rfl rfl rfl rfl ?_
   refine FA.no rfl rfl rfl rfl ?_
   refine wy ?_
   refine FA.opG rfl rfl rfl rfl (fun hp=>xI 125 rfl (by exact hp)) ?_
   refine FA.no rfl rfl rfl rfl ?_
   refine vP (O.pickF rfl rfl rfl) ?_
   refine vb ?_
   simp only[a0h,cN,cA,cP]
   refine zJ (zn ?_)
   refine yt (fun hq=> ?_) (fun hq=> ?_)
   ·simp at hq
   obtain⟨p,hp0⟩: ∃p:Nat,p=0:=⟨_,rfl⟩
   refine AW.g ?_
   refine G.re 15 (.val (.int .i64 (p:Int))) (by rw[hp0];rfl) ?_
   refine AW.u ?_
   have hpp:p=i0a os (oat L k).num os.length:=by rw[hp0,←hp];rfl
   have hpl:p<os.length:=by omega
   clear hp0 hp
   refine wj ?_
   refine x8 ?_
   refine wd ?_
   refine xD (zn (zD (zr ?_)))
   refine zq ?_
   refine zp ?_
   refine zb ?_
   refine vO wA ?_
   refine vR (O.appendNil rfl (by rfl) (by rfl) rfl rfl (by exact SrcA.blk TyD.ax mM (by(dsimp only[List.set,cA,cN,List.take,List.drop];done)) (by(simp;omega))) (by exact c0Z (b0R _) _ _) (by(unfold maxLen;omega)) (by omega)) ?_
   intro V13 hV13
   refine zc (zJ (zn ?_))
   refine vo [[(0,false),(1,false),(2,false),(3,false),(4,false),(5,false),(7,false),(6,true)],[(8,true)],[(9,false)],[(10,true)]] ?_
   refine AMS.go (by exact(a0s 3 rfl a0g)) ?_
   try dsimp only[List.eraseIdx]
   refine y1 ?_
   refine yu ?_
   refine yW ?_
   refine wP ?_
   refine zQ ?_
   refine xk ?_
   refine yW ?_
   refine xN _ (fun w0 R0=> ?_)
   refine AO.appendCut (i:=0) rfl rfl rfl rfl (by rfl) (by rfl) rfl rfl rfl (by omega) (by exact SrcA.ro TyD.ax (by rfl) (lB rfl)) (by rfl) (by(unfold maxLen;omega)) (by omega) ⟨by omega,by assumption⟩ (by(dsimp only[List.set,cA,cN,List.take,List.drop];done)) (fun _=>by(dsimp only[List.set];done)) ?_
   intro V14 hV14
   refine AM.ok ?_
   dsimp only[a0q]
   refine vd ?_
   try dsimp only[cA,cN]
   refine vf ?_
   try dsimp only[List.eraseIdx]
   refine xN _ (fun w0 R0=> ?_)
   refine AO.append' (i:=0) rfl rfl rfl rfl (by rfl) (by rfl) rfl rfl rfl (by exact SrcA.row TyD.ax mM (by(simp;omega))) (by exact c0Z (b0R _) _ _) (by(unfold maxLen;omega)) (by omega) (by(dsimp only[List.set,cA,cN,List.take,List.drop];done)) (fun _=>by(dsimp only[List.set];done)) ?_
   intro V15 hV15
   refine AM.ok ?_
   dsimp only[a0q]
   refine vd ?_
   try dsimp only[cA,cN]
   refine vL ?_
   try dsimp only[List.eraseIdx]
   refine y1 ?_
   refine vd ?_
   try dsimp only[cA,cN]
   refine AMS.go (by exact(by exact a0K 145 4 rfl rfl a0g)) ?_
   try dsimp only[List.eraseIdx]
   refine xN _ (fun w0 R0=> ?_)
   refine yF 0 (vI ?_)
   dsimp only[a0q]
   refine vd ?_
   try dsimp only[cA,cN]
   refine AMS.nil (xE (zn (zr ?_)))
   refine zB ?_
   refine zb (zJ ?_)
   refine AQ.g ?_
   refine G.coeRow 1 (d0k os (oat L k)).length (a0z (d0k os (oat L k))) rfl (by rw[b0g];omega) (CoeL.of_eq ((List.append_assoc _ _ _).trans (d0t hpp (by omega) (by omega) (by omega)))) ?_
   refine AQ.u ?_
   refine wl _ _ _ (by omega) (⟨k+1,d0k os (oat L k),_,by omega,hsc.symm,‹_›,fun hh=>absurd (congrArg List.length hh) (by rw[b0g];simp),rfl,rfl,rfl⟩)
  refine zD (zD ?_)
  refine yA 14 ?_
  simp only[cT,cZ,cD,cO]
  refine zH ?_
  refine vP (O.gtr rfl rfl rfl (by exact p0J (by omega))) ?_
  refine zH ?_
  refine wy ?_
  refine FA.opG rfl rfl rfl rfl (fun hp=>xI 118 rfl (by exact hp)) ?_
  refine FA.opG rfl rfl rfl rfl (fun hp=>zg) ?_
  refine FA.opG rfl rfl rfl rfl (fun hp=>vH 120 rfl (by exact hp)) ?_
  refine FA.opG rfl rfl rfl rfl (fun hp=>ve 119 rfl (by exact hp) (ve 121 rfl (by exact hp) wk)) ?_
  refine FA.opG rfl rfl rfl rfl (fun hp=>ve 122 rfl (by exact hp) zx) ?_
  refine FA.opG rfl rfl rfl rfl (fun hp=>ve 123 rfl (by exact hp) (O.load rfl rfl mM (by exact t0W (k:=i) (by omega) (by omega)))) ?_
  refine wy ?_
  refine FA.opG rfl rfl rfl rfl (fun hp=>xI 125 rfl (by exact hp)) ?_
  refine FA.opG rfl rfl rfl rfl (fun hp=>ve 124 rfl (by exact hp) (ve 126 rfl (by exact hp) yT)) ?_
  refine vP ym ?_
  refine vb ?_
  simp only[a0h,cN,cA,cP]
  refine zJ (zn ?_)
  refine yt (fun hq=> ?_) (fun hq=> ?_)<;>(try simp only[vT]at hq)
  ·refine y6 (zn (xo (zr ?_)))
   refine zb ?_
   refine yN ?_
   refine zc (zJ (xE ?_))
   rw[show((i+1:Nat):Int)-1=(i:Int) by omega]
   refine zu _ _ _ (by omega) (⟨i,by omega,by rw[←hp,i0a,if_pos hq.2],rfl,rfl,rfl⟩)
  have hpp:i+1=i0a os (oat L k).num os.length:=by rw[←hp,i0a,if_neg (by have:=hq trivial;omega)]
  clear hp
  rcases Nat.lt_or_ge (i+1) os.length with hlt|hge
  ·refine wj ?_
   refine x8 ?_
   refine wd ?_
   refine xD (zn (zD (zr ?_)))
   refine zq ?_
   refine zp ?_
   refine zb ?_
   refine vO wA ?_
   refine vR (O.appendNil rfl (by rfl) (by rfl) rfl rfl (by exact SrcA.blk TyD.ax mM (by(dsimp only[List.set,cA,cN,List.take,List.drop];done)) (by(simp;omega))) (by exact c0Z (b0R _) _ _) (by(unfold maxLen;omega)) (by omega)) ?_
   intro V13 hV13
   refine zc (zJ (zn ?_))
   refine vo [[(0,false),(1,false),(2,false),(3,false),(4,false),(5,false),(7,false),(6,true)],[(8,true)],[(9,false)],[(10,true)]] ?_
   refine AMS.go (by exact(a0s 3 rfl a0g)) ?_
   try dsimp only[List.eraseIdx]
   refine y1 ?_
   refine yu ?_
   refine yW ?_
   refine wP ?_
   refine zQ ?_
   refine xk ?_
   refine yW ?_
   refine xN _ (fun w0 R0=> ?_)
   refine AO.appendCut (i:=0) rfl rfl rfl rfl (by rfl) (by rfl) rfl rfl rfl (by omega) (by exact SrcA.ro TyD.ax (by rfl) (lB rfl)) (by rfl) (by(unfold maxLen;omega)) (by omega) ⟨by omega,by assumption⟩ (by(dsimp only[List.set,cA,cN,List.take,List.drop];done)) (fun _=>by(dsimp only[List.set];done)) ?_
   intro V14 hV14
   refine AM.ok ?_
   dsimp only[a0q]
   refine vd ?_
   try dsimp only[cA,cN]
   refine vf ?_
   try dsimp only[List.eraseIdx]
   refine xN _ (fun w0 R0=> ?_)
   refine AO.append' (i:=0) rfl rfl rfl rfl (by rfl) (by rfl) rfl rfl rfl (by exact SrcA.row TyD.ax mM (by(simp;omega))) (by exact c0Z (b0R _) _ _) (by(unfold maxLen;omega)) (by omega) (by(dsimp only[List.set,cA,cN,List.take,List.drop];done)) (fun _=>by(dsimp only[List.set];done)) ?_
   intro V15 hV15
   refine AM.ok ?_
   dsimp only[a0q]
   refine vd ?_
   try dsimp only[cA,cN]
   refine vL ?_
   try dsimp only[List.eraseIdx]
   refine y1 ?_
   refine vd ?_
   try dsimp only[cA,cN]
   refine AMS.go (by exact(by exact a0K 145 4 rfl rfl a0g)) ?_
   try dsimp only[List.eraseIdx]
   refine xN _ (fun w0 R0=> ?_)
   refine yF 0 (vI ?_)
   dsimp only[a0q]
   refine vd ?_
   try dsimp only[cA,cN]
   refine AMS.nil (xE (zn (zr ?_)))
   refine zB ?_
   refine zb (zJ ?_)
   refine AQ.g ?_
   refine G.coeRow 1 (d0k os (oat L k)).length (a0z (d0k os (oat L k))) rfl (by rw[b0g];omega) (CoeL.of_eq ((List.append_assoc _ _ _).trans (d0t hpp (by omega) (by omega) (by omega)))) ?_
   refine AQ.u ?_
   refine wl _ _ _ (by omega) (⟨k+1,d0k os (oat L k),_,by omega,hsc.symm,‹_›,fun hh=>absurd (congrArg List.length hh) (by rw[b0g];simp),rfl,rfl,rfl⟩)
  refine wj ?_
  refine x8 ?_
  refine wd ?_
  refine xD (zn (zD (zr ?_)))
  refine zq ?_
  refine zp ?_
  refine zb ?_
  refine vO (O.sliceV0 rfl rfl rfl rfl ⟨by omega,by omega,by omega⟩ (by omega) (by assumption)) ?_
  refine vR (O.appendNil rfl (by rfl) (by rfl) rfl rfl (by exact SrcA.ro TyD.ax (by rfl) (lB rfl)) (by rfl) (by(unfold maxLen;omega)) (by omega)) ?_
  intro V13 hV13
  refine zc (zJ (zn ?_))
  refine vo [[(0,false),(1,false),(2,false),(3,false),(4,false),(5,false),(7,false),(6,true)],[(8,true)],[(9,false)],[(10,true)]] ?_
  refine AMS.go (by exact(a0s 3 rfl a0g)) ?_
  try dsimp only[List.eraseIdx]
  refine y1 ?_
  refine yu ?_
  refine yW ?_
  refine wP ?_
  refine zQ ?_
  refine xk ?_
  refine yW ?_
  refine xN _ (fun w0 R0=> ?_)
  refine AO.appendCut (i:=0) rfl rfl rfl rfl (by rfl) (by rfl) rfl rfl rfl (by omega) (by exact SrcA.ro TyD.ax (by rfl) (lB rfl)) (by rfl) (by(unfold maxLen;omega)) (by omega) ⟨by omega,by assumption⟩ (by(dsimp only[List.set,cA,cN,List.take,List.drop];done)) (fun _=>by(dsimp only[List.set];done)) ?_
  intro V14 hV14
  refine AM.ok ?_
  dsimp only[a0q]
  refine vd ?_
  try dsimp only[cA,cN]
  refine vf ?_
  try dsimp only[List.eraseIdx]
  refine xN _ (fun w0 R0=> ?_)
  refine AO.append' (i:=0) rfl rfl rfl rfl (by rfl) (by rfl) rfl rfl rfl (by exact SrcA.row TyD.ax mM (by rfl)) (by rfl) (by(unfold maxLen;omega)) (by omega) (by(dsimp only[List.set,cA,cN,List.take,List.drop];done)) (fun _=>by(dsimp only[List.set];done)) ?_
  intro V15 hV15
  refine AM.ok ?_
  dsimp only[a0q]
  refine vd ?_
  try dsimp only[cA,cN]
  refine vL ?_
  try dsimp only[List.eraseIdx]
  refine y1 ?_
  refine vd ?_
  try dsimp only[cA,cN]
  refine AMS.go (by exact(by exact a0K 145 4 rfl rfl a0g)) ?_
  try dsimp only[List.eraseIdx]
  refine xN _ (fun w0 R0=> ?_)
  refine yF 0 (vI ?_)
  dsimp only[a0q]
  refine vd ?_
  try dsimp only[cA,cN]
  refine AMS.nil (xE (zn (zr ?_)))
  refine zB ?_
  refine zb (zJ ?_)
  refine AQ.g ?_
  refine G.coeRow 1 (d0k os (oat L k)).length (a0z (d0k os (oat L k))) rfl (by rw[b0g];omega) (CoeL.of_eq ((List.append_nil _).trans (h0v hpp (by omega) (by omega)))) ?_
  refine AQ.u ?_
  refine wl _ _ _ (by omega) (⟨k+1,d0k os (oat L k),_,by omega,hsc.symm,‹_›,fun hh=>absurd (congrArg List.length hh) (by rw[b0g];simp),rfl,rfl,rfl⟩)
  skip
 have hoe:os=b0W L:=by rw[hos,List.take_of_length_le (by omega)]
 subst hoe
 refine AW.g ?_
 refine G.freezeCell 0 0 4 rfl rfl rfl ?_
 refine AW.u ?_
 refine wj ?_
 refine x8 ?_
 refine wd ?_
 refine xD (zn (zD (zr ?_)))
 refine zC ?_
 refine za 1 ?_
 refine zc (zJ (zn (xj ?_)))
 refine wa zm yR (i0R e)
end Go.Proofs.YtojomcdjcpmnkaaGreat.By
namespace Go.Proofs.YtojomcdjcpmnkaaGreat.By
open Go.RowKit L A
theorem j0V (a b:UInt8):a^^^b^^^b=a:=by rw[UInt8.xor_assoc,UInt8.xor_self,UInt8.xor_zero]
theorem n0M (w:Nat→UInt8)(nonce t:List UInt8)(i:Nat)(h:i<t.length):e0N w nonce (fnB t.length (e0N w nonce t)) i=kf t i:=by
 rw[e0N,j0q h,e0N,j0V]
theorem q0i (w:Nat→UInt8)(nonce t:List UInt8):fnB t.length (e0N w nonce (fnB t.length (e0N w nonce t)))=t:=by
 rw[c0g (fun i hi=>n0M w nonce t i hi),p0l rfl]
theorem p0m {n:Nat}{f g:Nat→UInt8}(h:fnB n f=fnB n g): ∀q,q<n→f q=g q:=fun q hq=>by
 have:=congrArg (fun l=>kf l q) h
 simpa only[j0q hq]using this
def r0q (cipher:List UInt8)(n T:Nat)(q:Nat):UInt8:=if q<T then kf cipher (n+q)else 0
theorem t0C {key nonce aad cipher:List UInt8}{tag:Int}{n T:Nat}(hcv:cvB key nonce tag=true)(hT:tag=(T:Int))(hl:cipher.length=n+T)(ha:aad.length≤4096)(hn:n≤4096):
  g0W key nonce aad cipher tag=decide (fnB T (e0I (wK key) nonce (r0q cipher n T))=fnB T (j0n (wK key) nonce aad (e0Y key nonce cipher tag) tag)):=by
 have hct:(cipher.take n).length=n:=by rw[List.length_take];omega
 have hPT:e0Y key nonce cipher tag=fnB n (e0N (wK key) nonce (cipher.take n)):=by rw[e0Y,hT,show cipher.length-(T:Int).toNat=n by omega]
 obtain⟨PT,hP⟩: ∃PT,PT=e0Y key nonce cipher tag:=⟨_,rfl⟩
 have hPl:PT.length=n:=by rw[hP,hPT,a0L]
 have hso:c0s aad PT=true:=by
  simp only[c0s,Bool.and_eq_true,cQ];omega
 have hb:fnB n (e0N (wK key) nonce PT)=cipher.take n:=by
  have:=q0i (wK key) nonce (cipher.take n)
  rw[hct]at this
  rw[hP,hPT];exact this
 obtain⟨M,hM⟩: ∃M,M=j0n (wK key) nonce aad PT tag:=⟨_,rfl⟩
 have hs:e0Q key nonce aad PT tag=cipher.take n++fnB T (e0I (wK key) nonce M):=by
  rw[(d0o hcv hso).1,hPl,hb,←hM,hT];rfl
 rw[g0W,←hP,hs,←hM]
 have hd:cipher.drop n=fnB T (fun q=>kf cipher (n+q)):=by
  apply List.ext_getElem
  ·rw[List.length_drop,a0L];omega
  intro q h1 h2
  rw[a0L]at h2
  have g: ∀(N:Nat) (f:Nat→UInt8) (q:Nat) (h:q<(fnB N f).length),(fnB N f)[q]=f q:=fun N f q h=>by simp[fnB]
  rw[g,List.getElem_drop,kf,List.getD_eq_getElem?_getD,List.getElem?_eq_getElem (by omega)];rfl
 rw[Bool.eq_iff_iff,beq_iff_eq,cQ]
 have h3:(cipher.take n++fnB T (e0I (wK key) nonce M)=cipher)↔fnB T (e0I (wK key) nonce M)=cipher.drop n:=by
  constructor
  ·intro h
   have:=congrArg (List.drop n) h
   rw[List.drop_left' hct]at this;exact this
  intro h;rw[h,List.take_append_drop]
 rw[h3,hd]
 constructor
 ·intro h
  have h4:=p0m h
  exact c0g fun q hq=>by
   rw[e0I,r0q,if_pos hq,←h4 q hq,e0I,j0V]
 intro h
 have h4:=p0m h
 exact c0g fun q hq=>by
  have:=h4 q hq
  rw[e0I,r0q,if_pos hq]at this
  rw[e0I,←this,j0V]
attribute [local irreducible] AW AQ AO
attribute [local simp] a0b
theorem u0e {cipher:List UInt8}{n T:Nat}(hl:cipher.length=n+T)(hT:T≤16):a0e (arB 16 fun _=>0) (0+0*1) ((a0a (cipher.drop n)).take (min (cipher.drop n).length (16-0)))=arB 16 (r0q cipher n T):=by
 have hd:(cipher.drop n).length=T:=by rw[List.length_drop];omega
 have e:a0a (cipher.drop n)=arB T (r0q cipher n T):=by
  rw[f0t,hd]
  exact a0c fun q hq=>by
   rw[r0q,if_pos hq];simp[kf,List.getElem?_drop]
 rw[e,List.take_of_length_le (by rw[a0b];omega)]
 rw[d0P (by omega)]
 exact a0c fun q hq=>by
  by_cases h:q<T
  ·rw[if_pos (by omega),show q-(0+0*1)=q by omega]
  rw[if_neg (by omega),r0q,if_neg h]
theorem p0p (x y:List UInt8):Sp Tryz.prog 172 [roB x,roB y] [] (Is (.val (.bool (decide (x=y))))):=by
 refine yX Tryz.func172 _ Tryz.ntmps172 (fun w0 R0=> ?_)
 refine zD (zr ?_)
 refine zc (zJ (zn (zD (zr ?_))))
 refine zb ?_
 refine vO (O.convS rfl rfl (by rfl)) ?_
 refine zb ?_
 refine vO (O.convS rfl rfl (by rfl)) ?_
 refine vO (O.eqlS rfl rfl rfl (by rfl)) ?_
 refine zc (zJ (zn (xj ?_)))
 have e:decide (x=y)=(x==y):=g0H (by simp)
 refine vz rfl rfl nS (⟨by rw[a0X,a0X,e],rfl⟩)
theorem r0K (n:Nat)(f:Nat→UInt8):p0Y (Is (.agg (arB n f))):=by
 rintro r Hn ⟨rfl,rfl⟩
 refine⟨fun R R' W u h=> ?_,fun e he=>by cases he⟩
 cases h with
 |agg _ cs hs hc=>exact .agg _ cs hs fun j hj=>(hc j hj).plain (l0c n f _ (List.getElem_mem hj))
theorem t0B (key nonce aad cipher:List UInt8)(tag:Int)(ha:aad.length≤1000000)(hp:cipher.length≤1000000):Sp Tryz.prog 139 [roB key,roB nonce,roB aad,roB cipher,.val (.int .i64 tag)] [] (Is (.tup [roB (b0G key nonce aad cipher tag),.val (.int .i64 (b0V key nonce aad cipher tag))])):=by
 refine yX Tryz.func139 _ Tryz.ntmps139 (fun w0 R0=> ?_)
 refine zD (zr ?_)
 refine zc ?_
 refine zc (zJ (zn (zD (xo (zD (zr ?_))))))
 refine zb ?_
 refine zb ?_
 refine zb ?_
 refine vO (xM rfl Tryz.func156 rfl rfl rfl (m0c key nonce _)) ?_
 refine xu ?_
 refine zc (zJ (zn ?_))
 refine yt (fun h=> ?_) (fun h=> ?_)<;>(try simp only[vT]at h)
 ·have hb:cvB key nonce tag=false:=by simpa using h
  have e1:b0G key nonce aad cipher tag= []:=by simp[b0G,hb]
  have e2:b0V key nonce aad cipher tag=1:=by simp[b0V,hb]
  rw[e1,e2]
  refine zD (zr ?_)
  refine zc ?_
  refine zc (zJ (zn (xj ?_)))
  refine ww (xx ?_)
  refine wa yV yv (⟨rfl,rfl⟩)
 obtain⟨hk,hn7,hn13,ht4,ht16,ht2⟩:=m0a h
 refine zD (zr ?_)
 refine zb ?_
 refine zX ?_
 refine yZ ?_
 refine zb ?_
 refine yC ?_
 refine yb 29 ?_
 refine yC ?_
 refine AO.opG rfl rfl rfl (fun hp=>ve 31 rfl (by exact hp) zG) ?_
 refine AO.opG rfl rfl rfl (fun hp=>ve 30 rfl (by exact hp) (ve 32 rfl (by exact hp) yT)) ?_
 refine zI ?_
 refine zc (zJ (zn ?_))
 refine yt (fun h2=> ?_) (fun h2=> ?_)<;>(try simp only[vT]at h2)
 ·have hb:d0Y aad cipher tag=false:=by
   simp only[d0Y,Bool.and_eq_false_iff,decide_eq_false_iff_not]
   omega
  have e1:b0G key nonce aad cipher tag= []:=by simp[b0G,hb]
  have e2:b0V key nonce aad cipher tag=8:=by simp[b0V,h,hb]
  rw[e1,e2]
  refine zD (zr ?_)
  refine zc ?_
  refine zc (zJ (zn (xj ?_)))
  refine ww (xx ?_)
  refine wa yV yv (⟨rfl,rfl⟩)
 have hb:d0Y aad cipher tag=true:=by
  simp only[d0Y,Bool.and_eq_true,cQ]
  omega
 refine zD (zr ?_)
 refine zb ?_
 refine zX ?_
 refine zb ?_
 refine zT ?_
 refine zc (zJ (zn ?_))
 refine yt (fun h3=> ?_) (fun h3=> ?_)<;>(try simp only[vT]at h3)
 ·have e1:b0G key nonce aad cipher tag= []:=by simp[b0G,show ¬tag≤(cipher.length:Int) by omega]
  have e2:b0V key nonce aad cipher tag=2:=by simp[b0V,h,hb,show ¬tag≤(cipher.length:Int) by omega]
  rw[e1,e2]
  refine zD (zr ?_)
  refine zc ?_
  refine zc (zJ (zn (xj ?_)))
  refine ww (xx ?_)
  refine wa yV yv (⟨rfl,rfl⟩)
 have h3':tag≤(cipher.length:Int):=by omega
 obtain⟨T,hT⟩: ∃T:Nat,tag=(T:Int):=⟨tag.toNat,by omega⟩
 obtain⟨n,hn⟩: ∃n:Nat,n=cipher.length-T:=⟨_,rfl⟩
 have hl:cipher.length=n+T:=by omega
 have hT16:T≤16:=by omega
 have hn':(cipher.length:Int)-tag=(n:Int):=by omega
 have hct:(cipher.take n).length=n:=by rw[List.length_take];omega
 have hopt:e0Y key nonce cipher tag=fnB n (e0N (wK key) nonce (cipher.take n)):=by rw[e0Y,hT,show cipher.length-(T:Int).toNat=n by omega]
 have heq:=t0C (aad:=aad) h hT hl (by omega) (by omega)
 obtain⟨PT,hPT⟩: ∃PT,PT=e0Y key nonce cipher tag:=⟨_,rfl⟩
 have hPl:PT.length=n:=by rw[hPT,hopt,a0L]
 have eP:arB (cipher.take n).length (e0N (wS (kf key)) nonce (cipher.take n))=a0a PT:=by rw[hPT,hopt,hct];rfl
 refine AW.g ?_
 refine G.re 0 (.ro false 16 (arB 16 (kf key))) (congrArg some (i0Q hk)) ?_
 refine AW.u ?_
 have hst:=i0K (wS (kf key)) nonce (cipher.take n) (r0q cipher n T) hn13 (by omega)
 have eL:(cipher.take n).length=PT.length:=by rw[hct,hPl]
 rw[eP,eL]at hst
 have hq:=p0p (fnB T (e0I (wS (kf key)) nonce (r0q cipher n T))) (fnB T (j0n (wS (kf key)) nonce aad PT tag))
 rw[b0L,b0L]at hq
 refine y6 (xE (zn (zD (zr ?_))))
 refine zb ?_
 refine zX ?_
 refine zb ?_
 refine yN ?_
 refine zc (zJ (zn (zD (zr ?_))))
 refine zb ?_
 refine AO.opB (xM rfl Tryz.func157 rfl rfl rfl (j0O _)) rfl rfl rfl ?_
 intro B1
 refine zc ?_
 refine AO.g ?_
 refine G.freezePtr 0 13 rfl rfl ?_
 refine AO.u ?_
 dsimp only[List.eraseIdx]
 refine zJ (zn (zD (zr ?_)))
 refine zd ?_
 intro B2
 refine zJ (zn (zD ?_))
 refine yA 4 ?_
 simp only[cT,cZ,cD,cO]
 refine vP (O.sliceArrK (p:=0) rfl rfl rfl rfl (by rfl) (by rfl) ⟨by omega,by omega⟩ (by omega)) ?_
 refine zH ?_
 refine zH ?_
 refine vP (O.sliceFromB (k:=n) rfl rfl rfl (by omega) (by omega)) ?_
 refine vb ?_
 simp only[a0h,cN,cA,cP]
 refine AO.copyIn (i:=0) rfl rfl rfl rfl (by exact d0d _) (by exact h0D _) rfl (by show 0+0*1+min (cipher.drop n).length (16-0)≤16;omega) (by exact u0e hl hT16) rfl rfl (fun q h=>by cases h;exact lB rfl) ?_
 rintro _ rfl
 dsimp only[List.set]
 refine zJ (zn (zD ?_))
 refine AW.regionA _ (Al.mk' (i:=10) (d:=16) (T:=171) _ rfl rfl rfl rfl rfl (by(dsimp only[List.set,cA,cN,List.take,List.drop];done)) (by rfl)) [(0,false),(1,false),(2,false),(3,false),(4,false),(5,false),(6,true),(7,false),(8,false),(9,false),(10,true),(11,false),(12,true)] (by kernel_rfl) (by kernel_rfl) (by exact a0g) ?_
 dsimp only[List.eraseIdx]
 refine AN.op rfl zg rfl rfl rfl ?_
 refine AN.op rfl zg rfl rfl rfl ?_
 refine AN.op rfl zg rfl rfl rfl ?_
 refine AN.op rfl zg rfl rfl rfl ?_
 refine AN.op rfl (O.sliceToB (k:=n) rfl rfl rfl (by omega) (by omega)) rfl rfl rfl ?_
 refine AN.op rfl (O.loadK rfl rfl (by repeat(exact List.Mem.head _)) (by exact p0M _) (by exact a0b _ _)) rfl rfl rfl ?_
 refine AN.main _ rfl rfl (fun w0 R0=> ?_)
 refine AO.opN (xM rfl Tryz.func158 rfl rfl rfl hst) rfl rfl rfl ?_
 rintro _ _ ⟨V443,hV443,rfl,rfl⟩
 simp only[cA,cN]
 refine AM.ok ?_
 dsimp only[a0q]
 refine AN.op rfl zg rfl rfl rfl ?_
 refine AN.op rfl yj rfl rfl rfl ?_
 refine AN.op rfl yj rfl rfl rfl ?_
 refine AN.box rfl ?_
 intro B4
 dsimp only[Al.he]
 refine AN.op rfl zj rfl rfl rfl ?_
 refine AN.main _ rfl rfl (fun w0 R0=> ?_)
 refine xi 0 (vI ?_)
 dsimp only[a0q]
 refine AN.nil ?_
 dsimp only[cA,cN]
 refine zn (zD (zr ?_))
 refine zb ?_
 refine AO.g ?_
 refine G.freezePtr 0 16 rfl rfl ?_
 refine AO.u ?_
 dsimp only[List.eraseIdx]
 refine zb ?_
 refine zb ?_
 refine zb ?_
 refine zb ?_
 refine AO.opN (O.callLP rfl Tryz.func159 rfl rfl rfl (by repeat(exact List.Mem.head _)) (p0K (wS (kf key)) nonce aad PT tag hn13 ⟨ht4,ht16⟩ (by omega) (by omega)) (r0K _ _) (by(repeat(first|exact LendL.nil|refine LendL.same ?_|refine LendL.lend ?_));done)) rfl rfl rfl ?_
 rintro _ _ ⟨rfl,rfl⟩
 simp only[cA,cN]
 refine zd ?_
 intro B6
 refine xi 0 ?_
 refine AO.g ?_
 refine G.freezePtr 0 17 rfl rfl ?_
 refine AO.u ?_
 dsimp only[List.eraseIdx]
 refine zJ (zn (zD (zD ?_)))
 refine yA 6 ?_
 simp only[cT,cZ,cD,cO]
 refine zH ?_
 refine vP (O.sliceArrRK (p:=0) (q:=T) rfl rfl rfl rfl (by rfl) (by omega) ⟨by omega,by omega⟩ (by omega) (by(unfold maxLen;omega)) (by exact r0F (by omega) _)) ?_
 refine zH ?_
 refine vP (O.sliceArrRK (p:=0) (q:=T) rfl rfl rfl rfl (by rfl) (by omega) ⟨by omega,by omega⟩ (by omega) (by(unfold maxLen;omega)) (by exact r0F (by omega) _)) ?_
 refine vP (xM rfl Tryz.func172 rfl rfl rfl hq) ?_
 refine vP xA ?_
 refine vb ?_
 simp only[a0h,cN,cA,cP]
 refine zJ (zn ?_)
 rw[←hPT]at heq
 refine yt (fun h72=> ?_) (fun h72=> ?_)<;>(try simp only[vT]at h72)
 ·have hB:g0W key nonce aad cipher tag=false:=by rw[heq];simpa using h72
  have e1:b0G key nonce aad cipher tag= []:=by simp[b0G,hB]
  have e2:b0V key nonce aad cipher tag=11:=by simp[b0V,h,hb,h3',hB]
  rw[e1,e2]
  refine zD (zr ?_)
  refine zc ?_
  refine zc (zJ (zn (xj (xx ?_))))
  refine wa yV yv (⟨rfl,rfl⟩)
 have hB:g0W key nonce aad cipher tag=true:=by rw[heq];simpa using h72
 have e1:b0G key nonce aad cipher tag=PT:=by simp[b0G,h,hb,h3',hB,hPT]
 have e2:b0V key nonce aad cipher tag=0:=by simp[b0V,h,hb,h3',hB]
 rw[e1,e2]
 refine y6 (zn (zD (zr ?_)))
 refine zb ?_
 refine zc ?_
 refine zc (zJ (zn (xj ?_)))
 refine AQ.g ?_
 refine yf 0 [10] ?_
 refine AQ.u ?_
 try dsimp only[List.map,List.eraseIdx,cA,cN]
 refine wa yV yR (⟨rfl,rfl⟩)
end Go.Proofs.YtojomcdjcpmnkaaGreat.By
namespace Go.Proofs.YtojomcdjcpmnkaaGreat.By
open Go.RowKit L A Dk
theorem n0k: ∀(k:Nat) (s out:List UInt8),s.length=k→s≠ []→bt s 0≠0→n0l (beVal s) out=s++out:=by
 intro k
 induction k with
 |zero=>intro s out h hne;exact absurd (List.eq_nil_of_length_eq_zero h) hne
 | succ k ih=>
  intro s out h hne h0
  obtain⟨t,x,rfl⟩: ∃r x,s=r++[x]:=⟨s.dropLast,s.getLast hne,(List.dropLast_concat_getLast hne).symm⟩
  have hx:=x.toNat_lt
  have hd:(beVal t*256+x.toNat)/256=beVal t:=by omega
  have hu:u8 ((beVal t*256+x.toNat:Nat):Int)=x:=by
   have h9:=h0K x
   rw[u0O _ (x.toNat:Int) (by omega)];exact h9
  by_cases ht:t= []
  ·subst ht
   have hx0:x.toNat≠0:=fun e=>h0 (by show x=0;exact UInt8.toNat_inj.1 e)
   have:beVal ([]++[x])=x.toNat:=by simp[beVal]
   rw[this,a0Y hx0,show x.toNat/256=0 by omega,b0b,h0K];rfl
  have ht0:bt t 0≠0:=by
   cases t with
   |nil=>exact absurd rfl ht
   |cons y t=>exact h0
  have hpos:beVal t≠0:=fun e=>by
   have h9:=ih t [] (by simp at h;exact h) ht ht0
   rw[e,b0b]at h9
   exact ht (by simpa using h9.symm)
  rw[d0O,a0Y (by omega),hd,hu,ih t _ (by simp at h;exact h) ht ht0];simp
theorem o0E {s:List UInt8}(h:(d0J s).2=0):b0T (d0J s).1=s∧0≤(d0J s).1∧(d0J s).1≤1099511627775:=by
 unfold d0J at h⊢
 split at h
 ·simp at h
 rename_i h0
 rw[if_neg h0]
 split at h
 ·simp at h
 rename_i h1
 rw[if_neg h1]
 split at h
 ·simp at h
 rename_i h2
 rw[if_neg h2]
 have hlt:=r0E s.length s rfl
 have hlt5:beVal s<1099511627776:=Nat.lt_of_lt_of_le hlt (Nat.le_trans (Nat.pow_le_pow_right (by decide) (show s.length≤5 by omega)) (by decide))
 refine⟨?_,by simp only;omega,by simp only;omega⟩
 simp only
 have hne:s≠ []:=fun e=>h0 (by rw[e];rfl)
 unfold b0T
 rw[if_neg (by omega),Int.toNat_natCast]
 by_cases hb:bt s 0=0
 ·have h9:s.length=1:=by
   rcases Nat.lt_or_ge 1 s.length with h3|h3
   ·exact absurd ⟨h3,hb⟩ h2
   omega
  match s,h9 with
  | [x],_=>
   have:x=0:=hb
   subst this
   have:beVal [0]=0:=rfl
   rw[this,b0b];rfl
 have h9:=n0k s.length s [] rfl hne hb
 by_cases hz:beVal s=0
 ·rw[hz,b0b]at h9;exact absurd (by simpa using h9.symm) hne
 rw[a0Y hz]at h9
 simpa using h9
theorem m0U: ∀f:Nat,f<64→f%8+(if f&&&8=0 then 0 else 8)+(if f&&&16=0 then 0 else 16)+(if(((f&&&32:Nat):Int) !=0)=true then 32 else 0)=f:=by decide
theorem r0w {r:List UInt8}{y:Cmp}(h:p0x r=(y,0)):d0w y=(r,0):=by
 unfold p0x at h
 split at h
 ·rename_i h0
  have:r= []:=List.eq_nil_of_length_eq_zero h0
  subst this
  simp only[Prod.mk.injEq,and_true]at h
  subst h
  unfold d0w
  rw[if_neg (by decide)]
  have e:flg ⟨-1,false,[],false,[],false⟩=0:=by
   unfold flg
   have:b0T (-1)= []:=by unfold b0T;rw[if_pos (by omega)]
   rw[this];rfl
  rw[if_pos e]
 rename_i h0
 split at h
 ·simp at h
 rename_i h1
 split at h
 ·simp at h
 rename_i h2
 obtain⟨x,t,rfl⟩: ∃x t,r=x::t:=by
  cases r with
  |nil=>simp at h0
  |cons x t=>exact⟨x,t,rfl⟩
 have hb0:bt (x::t) 0=x:=rfl
 rw[hb0]at h2 h
 simp only[cD,cO]at h
 obtain⟨f,hf⟩: ∃f,f=x.toNat:=⟨_,rfl⟩
 rw[←hf]at h2 h
 have hfb:=m0U f (by omega)
 have fin: ∀(p:Int) (pb:List UInt8),b0T p=pb→pb.length=f%8→ -1≤p→p≤1099511627775→ ∀(hc:Bool) (cx s:List UInt8),cx.length≤16→(hc=true∨cx= [])→(f&&&16=0↔hc=false)→s0l f p hc cx s=(y,0)→
   d0w y=(x::pb++(if hc then u8 cx.length::cx else [])++s,0):=by
  intro p pb hp hpl hp1 hp2 hc cx s hcl hcx h16 hd
  have hff: ∀hk:Bool,(f&&&8=0↔hk=false)→flg ⟨p,hk,s,hc,cx,(((f&&&32:Nat):Int) !=0)⟩=(f:Int):=fun hk h8=>by
   unfold flg
   rw[hp,hpl]
   have e8:(if hk=true then(8:Int)else 0)=((if f&&&8=0 then 0 else 8:Nat):Int):=by
    cases hk with
    |false=>rw[if_pos (h8.2 rfl)];rfl
    |true=>rw[if_pos rfl,if_neg (fun e=>by have:=h8.1 e;cases this)];rfl
   have e16:(if hc=true then(16:Int)else 0)=((if f&&&16=0 then 0 else 16:Nat):Int):=by
    cases hc with
    |false=>rw[if_pos (h16.2 rfl)];rfl
    |true=>rw[if_pos rfl,if_neg (fun e=>by have:=h16.1 e;cases this)];rfl
   have e32:(if(((f&&&32:Nat):Int) !=0)=true then(32:Int)else 0)=((if(((f&&&32:Nat):Int) !=0)=true then 32 else 0:Nat):Int):=by split<;>rfl
   simp only[e8,e16,e32]
   omega
  have hfu:u8 (f:Int)=x:=by rw[hf];exact h0K x
  have build: ∀hk:Bool,(f&&&8=0↔hk=false)→(hk=true∨s= [])→s.length≤7→d0w ⟨p,hk,s,hc,cx,(((f&&&32:Nat):Int) !=0)⟩=(x::pb++(if hc then u8 cx.length::cx else [])++s,0):=fun hk h8 hs hs7=>by
   have hv:j0U ⟨p,hk,s,hc,cx,(((f&&&32:Nat):Int) !=0)⟩:=by
    refine⟨⟨hp1,hp2,by simp only;omega,by simp only;omega⟩,?_,?_⟩
    ·rcases hs with hs|hs
     ·exact .inl hs
     exact .inr (by rw[hs];rfl)
    rcases hcx with hs|hs
    ·exact .inl hs
    exact .inr (by rw[hs];rfl)
   unfold d0w
   rw[if_neg (by simpa using hv),hff hk h8,if_neg (by omega)]
   unfold s0k
   rw[hff hk h8,hfu,hp]
  unfold s0l at hd
  split at hd
  ·rename_i h8
   split at hd
   ·simp at hd
   rename_i hs
   have:s= []:=List.eq_nil_of_length_eq_zero (by omega)
   subst this
   simp only[Prod.mk.injEq,and_true]at hd
   subst hd
   exact build false ⟨fun _=>rfl,fun _=>h8⟩ (.inr rfl) (by simp)
  rename_i h8
  split at hd
  ·simp at hd
  rename_i hs
  simp only[Prod.mk.injEq,and_true]at hd
  subst hd
  exact build true ⟨fun e=>absurd e h8,fun e=>by cases e⟩ (.inl rfl) (by omega)
 have mid: ∀(p:Int) (pb:List UInt8),b0T p=pb→pb.length=f%8→ -1≤p→p≤1099511627775→ ∀s,j0J f p s=(y,0)→d0w y=(x::pb++s,0):=by
  intro p pb hp hpl hp1 hp2 s hd
  unfold j0J at hd
  split at hd
  ·rename_i h16
   have:=fin p pb hp hpl hp1 hp2 false [] s (by simp) (.inr rfl) ⟨fun _=>rfl,fun _=>h16⟩ hd
   simpa using this
  rename_i h16
  split at hd
  ·simp at hd
  rename_i hs0
  obtain⟨m,q,rfl⟩: ∃m q,s=m::q:=by
   cases s with
   |nil=>simp at hs0
   |cons x t=>exact⟨x,t,rfl⟩
  have hbm:bt (m::q) 0=m:=rfl
  rw[hbm]at hd
  split at hd
  ·simp at hd
  rename_i hm
  split at hd
  ·simp at hd
  rename_i hq
  simp only[cD,cO]at hd
  have hql:m.toNat≤q.length:=by simp at hq;omega
  have ht:(q.take m.toNat).length=m.toNat:=by simp;omega
  have:=fin p pb hp hpl hp1 hp2 true (q.take m.toNat) _ (by omega) (.inl rfl) ⟨fun e=>absurd e h16,fun e=>by cases e⟩ hd
  rw[this,ht]
  have e1:u8 ((m.toNat:Nat):Int)=m:=h0K m
  have e2:(m::q).drop (1+m.toNat)=q.drop m.toNat:=by rw[Nat.add_comm];rfl
  rw[e2,if_pos rfl,e1]
  simp[List.take_append_drop]
 unfold w0k at h
 split at h
 ·simp at h
 rename_i hl
 split at h
 ·rename_i hpos
  split at h
  ·rename_i he
   simp only[Prod.mk.injEq]at h
   exact absurd h.2 he
  rename_i he
  obtain⟨g1,g2,g3⟩:=o0E (s:=t.take (f%8)) (by simpa using he)
  have:=mid _ _ g1 (by simp;omega) (by omega) g3 _ h
  rw[this]
  simp[List.take_append_drop]
 rename_i hpos
 have h8:f%8=0:=by omega
 have:=mid (-1) [] (by unfold b0T;rw[if_pos (by omega)]) (by simp[h8]) (by omega) (by omega) _ h
 rw[this,h8];rfl
end Go.Proofs.YtojomcdjcpmnkaaGreat.By
namespace Go.Proofs.YtojomcdjcpmnkaaGreat.By
open Go.RowKit L A
attribute [local irreducible] AW AQ AO
noncomputable def s0I (m:Msg)(p:List UInt8)(q:Bool):Msg×Int:=
 if(a0G p).2≠0 then(Msg.none,(a0G p).2)else if q≠rq (a0G p).1.code then(Msg.none,4)else c0C m (a0G p).1
theorem r0T {m:Msg}{p:List UInt8}{q:Bool}(h:(a0G p).2≠0):s0I m p q=(Msg.none,(a0G p).2):=if_pos h
theorem r0S {m:Msg}{p:List UInt8}{q:Bool}(h:(a0G p).2=0)(h2:q≠rq (a0G p).1.code):s0I m p q=(Msg.none,4):=(if_neg (fun g=>g h)).trans (if_pos h2)
theorem r0R {m:Msg}{p:List UInt8}{q:Bool}(h:(a0G p).2=0)(h2:q=rq (a0G p).1.code):s0I m p q=c0C m (a0G p).1:=(if_neg (fun g=>g h)).trans (if_neg (fun g=>g h2))
noncomputable def i0e (key:List UInt8)(m:Msg)(nonce aad:List UInt8)(q:Bool):Msg×Int:=
 if b0V key nonce aad m.pay 8≠0 then(Msg.none,11)else s0I m (b0G key nonce aad m.pay 8) q
theorem o0P {key:List UInt8}{m:Msg}{nonce aad:List UInt8}{q:Bool}(h:b0V key nonce aad m.pay 8≠0):i0e key m nonce aad q=(Msg.none,11):=if_pos h
theorem o0O {key:List UInt8}{m:Msg}{nonce aad:List UInt8}{q:Bool}(h:b0V key nonce aad m.pay 8=0):i0e key m nonce aad q=s0I m (b0G key nonce aad m.pay 8) q:=if_neg (fun g=>g h)
theorem j0i (key nonce aad cipher:List UInt8)(tag:Int):(b0G key nonce aad cipher tag).length≤cipher.length:=by
 unfold b0G
 split
 ·unfold e0Y;rw[a0L];omega
 simp
theorem l0d {m:Msg}(h:ValM m):n0r m:=by
 obtain⟨h1,h2,h3,h4⟩:=ValM.sm h
 exact⟨by omega,by omega,by omega,fun k hk=>by have:=h4 k hk;omega⟩
theorem e0L {b:List UInt8}(h:(a0G b).2=0):ValM (a0G b).1∧(rq (a0G b).1.code=true∨rs (a0G b).1.code=true):=by
 unfold a0G at h⊢
 by_cases h1:b= []
 ·rw[if_pos h1]at h;cases h
 rw[if_neg h1]at h⊢
 by_cases h2:rq ((bt b 0).toNat:Int)=true∨rs ((bt b 0).toNat:Int)=true
 ·rw[if_pos h2]at h⊢
  have hd:=p0v h
  refine⟨hd.1,?_⟩
  obtain⟨⟨⟨-, -,c0,c1, -⟩, -⟩, -⟩:=hd.1
  have e:bt (raw (c0k (unB b)).1) 1=u8 (c0k (unB b)).1.code:=rfl
  rw[hd.2]at e
  have e2:bt (unB b) 1=bt b 0:=rfl
  have e3:=a0I (x:=(c0k (unB b)).1.code) (by omega)
  rw[←e,e2]at e3
  rw[←e3];exact h2
 rw[if_neg h2]at h;cases h
theorem l0j {m:Msg}(h:SmS m):n0r m:=by
 obtain⟨h1,h2,h3,h4⟩:=h
 refine⟨by omega,by omega,h3,fun k hk=> ?_⟩
 have:=h4 (oat m.opts k) (b0m Opt.none hk)
 omega
theorem u0U {m:Msg}(h:SmS m):SmO m:=⟨by have:=h.2.2.1;omega,fun o ho=>by have:=h.2.2.2 o ho;omega⟩
theorem j0Y (m:Msg)(p:List UInt8)(q:Bool)(hm:SmS m)(hp:p.length≤900000):Sp Tryz.prog 143 [b0c m,roB p,.val (.bool q)] [] (Is (i0S (s0I m p q))):=by
 have hmt:=l0j hm
 refine yX Tryz.func143 _ Tryz.ntmps143 (fun w0 R0=> ?_)
 refine zD (zr ?_)
 refine yo ?_
 intro B1
 refine zd ?_
 intro B2
 refine zc (zJ (zn (zD (zr ?_))))
 refine zb ?_
 refine vO (xM rfl Tryz.func174 rfl rfl rfl (m0s p (by omega))) ?_
 refine zb ?_
 refine zK ?_
 refine zK ?_
 refine zd ?_
 intro B3
 refine za 0 ?_
 refine zc (zJ (zn (zD (zD (zr ?_)))))
 refine zb ?_
 refine y2 (zJ (zn ?_))
 refine yt (fun h1=> ?_) (fun h1=> ?_)<;>(try simp only[vT]at h1)
 ·rw[r0T h1]
  refine zD (zr ?_)
  refine zP ?_
  refine zb ?_
  refine za 1 ?_
  refine zc (zJ (zn (xj (xx ?_))))
  refine wa zm zl (⟨rfl,rfl⟩)
 have hut:=l0d (e0L h1).1
 refine y6 (zn (zD (zD (zr ?_))))
 refine zb ?_
 refine zq ?_
 refine zv ?_
 refine vO (xM rfl Tryz.func63 rfl rfl rfl (b0N _)) ?_
 refine vO (O.neqB rfl rfl rfl (by rfl)) (zJ (zn ?_))
 refine yt (fun h2=> ?_) (fun h2=> ?_)<;>(try simp only[vT]at h2)
 ·rw[r0S h1 h2]
  refine zD (zr ?_)
  refine zP ?_
  refine za 1 ?_
  refine zc (zJ (zn (xj (xx ?_))))
  refine wa zm zl (⟨rfl,rfl⟩)
 rw[r0R h1 h2]
 refine y6 (zn (zD (zr ?_)))
 refine zA ?_
 refine zC ?_
 refine vO (xM rfl Tryz.func175 rfl rfl rfl (q0D m (a0G p).1 hmt hut)) ?_
 refine zK ?_
 refine zK ?_
 refine za 1 ?_
 refine zc (zJ (zn (xj ?_)))
 refine AQ.retCT rfl rfl rfl mM (by rfl) rfl nS (⟨rfl,rfl⟩)
theorem o0N (m:Msg)(key nonce aad:List UInt8)(q:Bool)(hm:SmS m)(ha:aad.length≤1000000)(hpy:m.pay.length≤900000):Sp Tryz.prog 94 [b0c m,roB m.pay,roB key,roB nonce,roB aad,.val (.bool q)] [] (Is (i0S (i0e key m nonce aad q))):=by
 have hpl:m.pay.length≤1000000:=by omega
 have hol:=j0i key nonce aad m.pay 8
 refine yX Tryz.func94 _ Tryz.ntmps94 (fun w0 R0=> ?_)
 refine zD (zr ?_)
 refine yo ?_
 intro B1
 refine zd ?_
 intro B2
 refine zc (zJ (zn (zD (zr ?_))))
 refine zb ?_
 refine zb ?_
 refine zb ?_
 refine zb ?_
 refine vO (xM rfl Tryz.func142 rfl rfl rfl (q0y key nonce aad m.pay 8 ha hpl)) ?_
 refine zb ?_
 refine zK ?_
 refine zK ?_
 refine zc ?_
 refine zc (zJ (zn (zD (zD (zr ?_)))))
 refine zb ?_
 refine y2 (zJ (zn ?_))
 refine yt (fun h1=> ?_) (fun h1=> ?_)<;>(try simp only[vT]at h1)
 ·rw[o0P h1]
  refine zD (zr ?_)
  refine zP ?_
  refine za 0 ?_
  refine zc (zJ (zn (xj (xx ?_))))
  refine wa yd zl (⟨rfl,rfl⟩)
 rw[o0O h1]
 refine y6 (zn (zD (zr ?_)))
 refine zA ?_
 refine zb ?_
 refine zb ?_
 refine vO (xM rfl Tryz.func143 rfl rfl rfl (j0Y m (b0G key nonce aad m.pay 8) q hm (by omega))) ?_
 refine zK ?_
 refine zK ?_
 refine za 0 ?_
 refine zc (zJ (zn (xj ?_)))
 refine AQ.retCT rfl rfl rfl (by repeat(exact List.Mem.head _)) (by rfl) rfl nS (⟨rfl,rfl⟩)
theorem o0Q (c:Cx)(m:Msg)(nonce aad:List UInt8)(hm:SmS m)(ha:aad.length≤1000000)(hpy:m.pay.length≤900000):Sp Tryz.prog 93 [j0N c,b0c m,roB nonce,roB aad,.fn (.func 57) []] [] (Is (i0S (i0e c.rk m nonce aad true))):=by
 have hpl:m.pay.length≤1000000:=by omega
 have hol:=j0i c.rk nonce aad m.pay 8
 have hmt:=l0j hm
 refine yX Tryz.func93 _ Tryz.ntmps93 (fun w0 R0=> ?_)
 refine zD (zr ?_)
 refine yo ?_
 intro B1
 refine yo ?_
 intro B2
 refine zd ?_
 intro B3
 refine zc (zJ (zn (zD (zr ?_))))
 refine zq ?_
 refine zp ?_
 refine zb ?_
 refine zb ?_
 refine zq ?_
 refine zp ?_
 refine vO (xM rfl Tryz.func139 rfl rfl rfl (t0B c.rk nonce aad m.pay 8 ha hpl)) ?_
 refine zb ?_
 refine zK ?_
 refine zK ?_
 refine zc ?_
 refine zc (zJ (zn (zD (zD (zr ?_)))))
 refine zb ?_
 refine y2 (zJ (zn ?_))
 refine yt (fun h1=> ?_) (fun h1=> ?_)<;>(try simp only[vT]at h1)
 ·rw[o0P h1]
  refine zD (zr ?_)
  refine zP ?_
  refine za 0 ?_
  refine zc (zJ (zn (xj (xx ?_))))
  refine wa yd zl (⟨rfl,rfl⟩)
 rw[o0O h1]
 refine y6 (zn (zD (zr ?_)))
 refine zb ?_
 refine vO (xM rfl Tryz.func140 rfl rfl rfl (n0H (b0G c.rk nonce aad m.pay 8) (by omega))) ?_
 refine zb ?_
 refine zK ?_
 refine zK ?_
 refine zd ?_
 intro B4
 refine za 0 ?_
 refine zc (zJ (zn (zD (zD (zr ?_)))))
 refine zb ?_
 refine y2 (zJ (zn ?_))
 refine yt (fun h2=> ?_) (fun h2=> ?_)<;>(try simp only[vT]at h2)
 ·rw[r0T h2]
  refine zD (zr ?_)
  refine zP ?_
  refine zb ?_
  refine za 1 ?_
  refine zc (zJ (zn (xj (xx ?_))))
  refine wa zm zl (⟨rfl,rfl⟩)
 have huo:=e0L h2
 have hut:=l0d huo.1
 refine y6 (zn (zD (zD (zr ?_))))
 refine zb ?_
 refine zq ?_
 refine zv ?_
 refine vO (O.callV rfl rfl Tryz.func57 rfl rfl rfl (o0K _)) ?_
 refine xu (zJ (zn ?_))
 refine yt (fun h3=> ?_) (fun h3=> ?_)<;>(try simp only[vT]at h3)
 ·rw[r0S h2 (fun g=>h3 (of_decide_eq_true ((o0d _).symm.trans g.symm)))]
  refine zD (zr ?_)
  refine zP ?_
  refine za 1 ?_
  refine zc (zJ (zn (xj (xx ?_))))
  refine wa zm zl (⟨rfl,rfl⟩)
 rw[r0R h2 (((o0d _).trans (decide_eq_true h3)).symm)]
 refine y6 (zn (zD (zr ?_)))
 refine zA ?_
 refine zC ?_
 refine vO (xM rfl Tryz.func141 rfl rfl rfl (t0T m (a0G (b0G c.rk nonce aad m.pay 8)).1 hmt hut)) ?_
 refine zK ?_
 refine zK ?_
 refine za 1 ?_
 refine zc (zJ (zn (xj ?_)))
 refine AQ.retCT rfl rfl rfl mM (by rfl) rfl nS (⟨rfl,rfl⟩)
end Go.Proofs.YtojomcdjcpmnkaaGreat.By
namespace Go.Proofs.YtojomcdjcpmnkaaGreat.W
open Go.RowKit
def maskN (n:Int):Nat:=if 64≤n then 2^64-1 else 2^n.toNat-1
theorem e0u (n:Int):maskN n<2^64:=by
 unfold maskN
 split
 ·decide
 ·have:(2:Nat)^n.toNat≤2^64:=Nat.pow_le_pow_right (by decide) (by omega)
  have h0:0<(2:Nat)^n.toNat:=Nat.pow_pos (by decide)
  omega
theorem g0p (n:Int)(i:Nat):(maskN n).testBit i=(decide ((i:Int)<n)&&decide (i<64)):=by
 unfold maskN
 split
 ·rw[Nat.testBit_two_pow_sub_one]
  by_cases h:i<64<;>simp[h];omega
 ·rw[Nat.testBit_two_pow_sub_one]
  by_cases h:i<n.toNat
  ·have h1:(i:Int)<n:=by omega
   have h2:i<64:=by omega
   simp[h,h1,h2]
  ·have h1: ¬(i:Int)<n:=by omega
   simp[h,h1]
def d0Z (s t:Int)(b:Nat):Bool:=(List.range 64).all fun i=> !b.testBit i||(decide ((i:Int)<s)&&decide ((i:Int)≤t))
theorem h0q (s t:Int)(b:Nat):d0Z s t b=true↔ ∀i,i<64→b.testBit i=true→(i:Int)<s∧(i:Int)≤t:=by
 unfold d0Z
 simp only[List.all_eq_true,List.mem_range,Bool.or_eq_true,Bool.not_eq_true',Bool.and_eq_true,cQ]
 constructor
 ·intro h i hi hb;have:=h i hi;simp[hb]at this;exact this
 ·intro h i hi
  by_cases hb:b.testBit i=true
  ·exact .inr (h i hi hb)
  ·simp at hb;exact .inl hb
def a0Q (s t:Int)(b:Nat)(l:Bool):Bool:=
  decide (1≤s∧s≤64∧ -1≤t∧t≤1099511627775)&&
    (if l then decide (b=0)&&decide (t= -1)
     else d0Z s t b&&(decide (t= -1)||b.testBit 0))
theorem p0C (b:Nat)(m:Int)(hb:b<2^64):b&&&(2^64-1-maskN m)=0↔ ∀i,i<64→b.testBit i=true→(i:Int)<m:=by
 have e:2^64-1-maskN m=2^64-(maskN m+1):=by omega
 rw[e]
 constructor
 ·intro h i hi hbi
  have:=congrArg (fun x=>x.testBit i) h
  simp only[Nat.testBit_and,Nat.testBit_two_pow_sub_succ (e0u m),Nat.zero_testBit,g0p,hbi,hi]at this
  simpa using this
 ·intro h
  apply Nat.eq_of_testBit_eq
  intro i
  simp only[Nat.testBit_and,Nat.testBit_two_pow_sub_succ (e0u m),Nat.zero_testBit,g0p]
  by_cases hi:i<64
  ·by_cases hbi:b.testBit i=true
   ·have:=h i hi hbi;simp[hi,this]
   ·simp[hbi]
  ·simp[hi]
theorem y0t (b:Nat):b.testBit 0=decide (b%2=1):=by simp[Nat.testBit_zero]
theorem n0F (s t:Int)(b:Nat)(hb:b<2^64)(h1:1≤s)(h2:s≤64)(h3: -1≤t)(h4:t≤1099511627775):
  a0Q s t b false=(decide (b&&&(2^64-1-maskN (min s (t+1)))=0)&&(decide (t= -1)||decide (b%2=1))):=by
 unfold a0Q
 rw[←y0t]
 have:d0Z s t b=decide (b&&&(2^64-1-maskN (min s (t+1)))=0):=by
  rw[Bool.eq_iff_iff,h0q,decide_eq_true_iff,p0C b _ hb]
  constructor
  ·intro h i hi hbi;have:=h i hi hbi;omega
  ·intro h i hi hbi;have:=h i hi hbi;omega
 rw[this]
 simp[h1,h2,h3,h4]
end Go.Proofs.YtojomcdjcpmnkaaGreat.W
namespace Go.Proofs.YtojomcdjcpmnkaaGreat.W
open Go.RowKit L
abbrev c0z (s t:Int)(b:Nat)(l:Bool):Value:= .agg #[.int .i64 s,.int .i64 t,.int .u64 (b:Int),.bool l]
def i64In (n:Int):Prop:= -9223372036854775808≤n∧n≤9223372036854775807
theorem o0Z (n:Int)(h:0≤n)(h2:n<64):IntKind.u64.wrap (IntKind.u64.wrap (2^n.toNat)-1)=((maskN n:Nat):Int):=by
 have h1:(2:Nat)^n.toNat<2^64:=Nat.pow_lt_pow_right (by decide) (by omega)
 have h0:0<(2:Nat)^n.toNat:=Nat.pow_pos (by decide)
 have e:((2:Int)^n.toNat)=(((2:Nat)^n.toNat:Nat):Int):=by simp
 unfold maskN
 rw[if_neg (by omega),e]
 simp only[IntKind.wrap_u64]
 omega
theorem i0j (n:Int)(w:World)(h:i64In n):
  Calls Tryz.prog 146 #[.int .i64 n] w fun e w'=>e= .returned (.int .u64 ((maskN n:Nat):Int))∧w=w':=by
 obtain⟨h1,h2⟩:=h
 by_cases h3:64≤n
 ·go_enter Tryz.func146,Tryz.ntmps146
  go_wp2
  go_ret
  exact⟨by simp[maskN,h3],rfl⟩
 ·have h3':n<64:=by omega
  clear h3
  by_cases h4:0<n
  ·have H:=Lib.hid (o0Z n (by omega) h3')
   go_enter Tryz.func146,Tryz.ntmps146
   go_wp2
   all_goals go_ret
   all_goals first|exact⟨by rw[H.out];rfl,rfl⟩|(exfalso;omega)
  ·have H:=Lib.hid (show(0:Int)=((maskN n:Nat):Int) by
    have:n.toNat=0:=by omega
    unfold maskN;rw[if_neg (show ¬64≤n by omega),this];rfl)
   go_enter Tryz.func146,Tryz.ntmps146
   go_wp2
   all_goals go_ret
   all_goals refine⟨?_,rfl⟩
   all_goals first|(rw[←H.out];rfl)|(exfalso;omega)
theorem k0T (b:Nat)(m:Int)(hb:b<2^64):bits .andNot .u64 (b:Int) ((maskN m:Nat):Int)=((b&&&(2^64-1-maskN m):Nat):Int):=by
 rw[u64_andNot_nat _ _ hb (e0u m)]
theorem j0K (b:Nat)(hb:b<2^64):bits .and .u64 (b:Int) 1=((b%2:Nat):Int):=by
 rw[show(1:Int)=((1:Nat):Int)from rfl,u64_and_nat _ _ hb (by decide),Nat.and_one_is_mod]
theorem i0x (a b:Nat):(((a:Nat):Int)==((b:Nat):Int))=decide (a=b):=by
 by_cases h:a=b
 ·simp[h]
 ·have: ¬((a:Int)=(b:Int)):=by omega
  simp[h,this]
theorem n0E (s t:Int)(b:Nat)(c1 c2 c3:Bool)(w:World)(hb:b<2^64)(g1:1≤s)(g2:s≤64)(g3: -1≤t)(g4:t≤1099511627775)
  (hm:i64In (if t+1<s then t+1 else s)) (z1:(bits .andNot .u64 (b:Int) ((maskN (if t+1<s then t+1 else s):Nat):Int)==0)=c1) (z2:(t== -1)=c2) (z3:(bits .and .u64 (b:Int) 1==1)=c3):
  Calls Tryz.prog 99 #[c0z s t b false] w fun e w'=>e= .returned (.bool (c1&&(c2||c3)))∧Ext w w':=by
 have hw1:IntKind.i64.wrap (t+1)=t+1:=IntWalk.i64_in _ (by omega)
 have h8:(c1=false)∨(c1=true∧c2=true)∨(c1=true∧c2=false):=by cases c1<;>cases c2<;>simp
 rcases h8 with rfl|⟨rfl,rfl⟩|⟨rfl,rfl⟩
 all_goals
  go_enter Tryz.func99,Tryz.ntmps99
  go_wp2
  refine e0d 22 (by kernel_rfl) (by kernel_rfl) (by kernel_rfl) ?_
  simp only[cT,cZ,cD,cO]
  refine FlowX.seg [_,_,_,_,_,_,_,_] _ (by kernel_rfl) ?_
  repeat(go_big_quiet_step (fail))
  refine wpQuiet_nil ?_
  refine FlowX.call rfl Tryz.func146 (by kernel_rfl) (by kernel_rfl) (by kernel_rfl) (by kernel_rfl) (fun x=>i0r (i0j (if t+1<s then t+1 else s) _ hm)) (by kernel_rfl) ?_
  simp only[Act.put,List.setIfInBounds_toArray,List.set_cons_succ,List.set_cons_zero]
  refine FlowX.seg [_,_,_,_,_,_,_,_,_,_,_,_,_] _ (by kernel_rfl) ?_
  repeat(go_big_quiet_step (fail))
  refine wpQuiet_nil ?_
  refine FlowX.fin (fun x fv hfv=> ?_)
  simp only[List.map_nil,List.map_cons,b0z]
  go_wp2
  all_goals(go_ret;exact⟨by simp[z3],((Mods.refl _ _).alloc _).drew.trans x.h⟩)
theorem n0G (s t:Int)(b:Nat)(hb:b<2^64)(g1:1≤s)(g2:s≤64)(g3: -1≤t)(g4:t≤1099511627775):
  a0Q s t b false=((bits .andNot .u64 (b:Int) ((maskN (if t+1<s then t+1 else s):Nat):Int)==0)&&((t== -1)||(bits .and .u64 (b:Int) 1==1))):=by
 rw[n0F s t b hb g1 g2 g3 g4,k0T b _ hb,j0K b hb]
 have e:min s (t+1)=if t+1<s then t+1 else s:=by split<;>omega
 rw[e]
 congr 1
 ·exact(i0x _ 0).symm
 ·congr 1
  exact(i0x _ 1).symm
theorem i0G (s t:Int)(b:Nat)(l:Bool)(w:World)(hs:i64In s)(ht:i64In t)(hb:b<2^64):
  Calls Tryz.prog 99 #[c0z s t b l] w fun e w'=>e= .returned (.bool (a0Q s t b l))∧Ext w w':=by
 obtain⟨hs,hs'⟩:=hs
 obtain⟨ht,ht'⟩:=ht
 by_cases hg:1≤s∧s≤64∧ -1≤t∧t≤1099511627775
 ·obtain⟨g1,g2,g3,g4⟩:=hg
  cases l
  ·rw[n0G s t b hb g1 g2 g3 g4]
   exact n0E s t b _ _ _ w hb g1 g2 g3 g4 (by unfold i64In;split<;>omega) rfl rfl rfl
  ·have V:=Lib.hid (show a0Q s t b true=(decide (b=0)&&(t== -1)) by simp only[a0Q,g1,g2,g3,g4];rw[show(t== -1)=decide (t= -1)from by rw[Bool.eq_iff_iff];simp];simp)
   rw[V.out]
   by_cases h0:b=0
   ·subst h0
    go_enter Tryz.func99,Tryz.ntmps99
    go_wp2
    all_goals(go_ret;refine⟨?_,(Mods.refl _ _).alloc _⟩;simp;try omega)
   ·have h0':((b:Int)==0)=false:=by simp[h0]
    go_enter Tryz.func99,Tryz.ntmps99
    go_wp2
    all_goals(go_ret;refine⟨?_,(Mods.refl _ _).alloc _⟩;simp[h0];try omega)
 ·have V:=Lib.hid (show a0Q s t b l=false by simp only[a0Q,hg];simp)
  rw[V.out]
  clear V
  by_cases g1:s<1
  ·go_enter Tryz.func99,Tryz.ntmps99
   go_wp2
   all_goals(go_ret;exact⟨rfl,(Mods.refl _ _).alloc _⟩)
  ·by_cases g2:64<s
   ·go_enter Tryz.func99,Tryz.ntmps99
    go_wp2
    all_goals(go_ret;exact⟨rfl,(Mods.refl _ _).alloc _⟩)
   ·by_cases g3:t< -1
    ·go_enter Tryz.func99,Tryz.ntmps99
     go_wp2
     all_goals(go_ret;exact⟨rfl,(Mods.refl _ _).alloc _⟩)
    ·have g4:1099511627775<t:=by omega
     clear hg
     go_enter Tryz.func99,Tryz.ntmps99
     go_wp2
     all_goals(go_ret;exact⟨rfl,(Mods.refl _ _).alloc _⟩)
def c0f (s t:Int)(b:Nat)(l:Bool)(n:Int):Bool:=a0Q s t b l&&(decide (0≤n)&&decide (n≤1099511627775))
theorem i0H {s t:Int}{b:Nat}{l:Bool}(h:a0Q s t b l=true):1≤s∧s≤64∧ -1≤t∧t≤1099511627775:=by
 simp only[a0Q,Bool.and_eq_true,cQ]at h
 exact h.1
theorem g0d {s t:Int}{b:Nat}{l:Bool}{n:Int}(h:c0f s t b l n=true):(1≤s∧s≤64∧ -1≤t∧t≤1099511627775)∧0≤n∧n≤1099511627775:=by
 simp only[c0f,Bool.and_eq_true,cQ]at h
 exact⟨i0H h.1,h.2⟩
theorem o0h (s t:Int)(b:Nat)(l:Bool)(n:Int)(w:World)(hs:i64In s)(ht:i64In t)(hb:b<2^64)(hn:i64In n):
  Calls Tryz.prog 147 #[c0z s t b l,.int .i64 n] w fun e w'=>e= .returned (.bool (c0f s t b l n))∧Ext w w':=by
 obtain⟨hn,hn'⟩:=hn
 have hv:=fun w=>i0G s t b l w hs ht hb
 unfold c0f
 generalize a0Q s t b l=v at*
 have H:=Lib.hid hv
 clear hv
 cases v
 all_goals
  go_enter Tryz.func147,Tryz.ntmps147
  go_wp2_with fail
  refine(H.out _).mono ?_
  rintro e w' ⟨rfl,hE⟩
  go_wp2
  all_goals(go_ret;refine⟨?_,((Mods.refl _ _).alloc _).trans hE⟩)
  all_goals first|rfl|(simp;done)|(simp;omega)
def a0O (s t:Int)(b:Nat)(l:Bool)(n:Int):Int:=
 if c0f s t b l n=false then 1 else if l then 34 else if n≤t-s∨(n≤t∧b.testBit (t-n).toNat=true)then 33 else 0
theorem n0V (b k:Nat)(hb:b<2^64):(bits .and .u64 ((b:Int)/2^k) 1==1)=b.testBit k:=by
 have e:((b:Int)/2^k)=((b/2^k:Nat):Int):=by simp
 have h:b/2^k<2^64:=Nat.lt_of_le_of_lt (Nat.div_le_self _ _) hb
 rw[e,j0K _ h,Nat.testBit_eq_decide_div_mod_eq]
 exact i0x _ 1
theorem d0x (s t:Int)(b:Nat)(l:Bool)(n:Int)(w:World)(hs:i64In s)(ht:i64In t)(hb:b<2^64)(hn:i64In n):
  Calls Tryz.prog 100 #[c0z s t b l,.int .i64 n] w fun e w'=>e= .returned (.int .i64 (a0O s t b l n))∧Ext w w':=by
 have hq:=fun w=>o0h s t b l n w hs ht hb hn
 by_cases hr:c0f s t b l n=true
 ·obtain⟨⟨g1,g2,g3,g4⟩,g5,g6⟩:=g0d hr
  rw[hr]at hq
  have H:=Lib.hid hq
  clear hq
  cases l
  ·have hsh:=fun k=>n0V b k hb
   have V:=Lib.hid (show a0O s t b false n=if n≤t-s∨(n≤t∧b.testBit (t-n).toNat=true)then 33 else 0 by simp[a0O,hr])
   clear hr hn hs ht
   rw[V.out]
   clear V
   by_cases c1:n≤t-s
   ·go_enter Tryz.func100,Tryz.ntmps100
    go_wp2_with fail
    refine(H.out _).mono ?_
    rintro e w' ⟨rfl,hE⟩
    obtain⟨hc1,hc2,hc3⟩:=hE.cells
    go_wp2
    all_goals(go_ret;refine⟨?_,((Mods.refl _ _).alloc _).trans hE⟩;simp[c1])
   ·by_cases c2:n≤t
    ·generalize hx:b.testBit (t-n).toNat=xb
     have hz:=(hsh (t-n).toNat).trans hx
     clear hsh
     have HX:=Lib.hid hx
     clear hx
     cases xb
     all_goals
      go_enter Tryz.func100,Tryz.ntmps100
      go_wp2_with fail
      refine(H.out _).mono ?_
      rintro e w' ⟨rfl,hE⟩
      obtain⟨hc1,hc2,hc3⟩:=hE.cells
      go_wp2
      all_goals(go_ret;refine⟨?_,((Mods.refl _ _).alloc _).trans hE⟩;simp[c1,c2])
    ·clear hsh
     go_enter Tryz.func100,Tryz.ntmps100
     go_wp2_with fail
     refine(H.out _).mono ?_
     rintro e w' ⟨rfl,hE⟩
     obtain⟨hc1,hc2,hc3⟩:=hE.cells
     go_wp2
     all_goals(go_ret;refine⟨?_,((Mods.refl _ _).alloc _).trans hE⟩;simp[c1,c2])
  ·have V:=Lib.hid (show a0O s t b true n=34 by simp[a0O,hr])
   clear hr
   rw[V.out]
   go_enter Tryz.func100,Tryz.ntmps100
   go_wp2_with fail
   refine(H.out _).mono ?_
   rintro e w' ⟨rfl,hE⟩
   obtain⟨hc1,hc2,hc3⟩:=hE.cells
   go_wp2
   go_ret
   exact⟨rfl,((Mods.refl _ _).alloc _).trans hE⟩
 ·have hr':c0f s t b l n=false:=by simpa using hr
  rw[hr']at hq
  have H:=Lib.hid hq
  have V:=Lib.hid (show a0O s t b l n=1 by simp[a0O,hr'])
  clear hq hr hr'
  rw[V.out]
  go_enter Tryz.func100,Tryz.ntmps100
  go_wp2_with fail
  refine(H.out _).mono ?_
  rintro e w' ⟨rfl,hE⟩
  go_wp2
  go_ret
  exact⟨rfl,((Mods.refl _ _).alloc _).trans hE⟩
theorem b0h {s t:Int}{b:Nat}{l:Bool}{n:Int}(h:a0O s t b l n=0):
  (1≤s∧s≤64∧ -1≤t∧t≤1099511627775)∧0≤n∧n≤1099511627775∧l=false∧ ¬n≤t-s:=by
 unfold a0O at h
 split at h
 ·cases h
 ·rename_i hr
  have hr':c0f s t b l n=true:=by simpa using hr
  obtain⟨h1,h2,h3⟩:=g0d hr'
  split at h
  ·cases h
  ·rename_i hl
   split at h
   ·cases h
   ·rename_i hh
    exact⟨h1,h2,h3,by simpa using hl,fun e=>hh (.inl e)⟩
theorem p0T (s t:Int)(b:Nat)(l:Bool)(n:Int)(w:World)(hs:i64In s)(ht:i64In t)(hb:b<2^64)(hn:i64In n)(h0:a0O s t b l n≠0):
  Calls Tryz.prog 101 #[c0z s t b l,.int .i64 n] w fun e w'=>e= .returned (.tuple #[c0z 0 0 0 false,.int .i64 (a0O s t b l n)])∧Ext w w':=by
 have hq:=fun w=>d0x s t b l n w hs ht hb hn
 generalize a0O s t b l n=c at*
 have H:=Lib.hid hq
 have hc0:(c==0)=false:=by simpa using h0
 clear hq h0
 go_enter Tryz.func101,Tryz.ntmps101
 go_wp2_with fail
 refine(H.out _).mono ?_
 rintro e w' ⟨rfl,hE⟩
 obtain⟨hc1,hc2,hc3⟩:=hE.cells
 have hz:w.heap.size+1<w'.heap.size:=by simp at hc3;omega
 have hz0:w.heap.size<w'.heap.size:=by omega
 go_wp2
 refine bodyPost_ret (v:= .tuple #[c0z 0 0 0 false,.int .i64 c]) (by simp[results,Tryz.results101,go_sem,hc1,hz]) rfl ?_
 refine⟨rfl,?_⟩
 repeat(first|(with_reducible exact Mods.refl _ _)|(with_reducible refine Mods.alloc ?_ _)|(with_reducible refine Mods.drew ?_)|(with_reducible refine Mods.setCell ?_ (fun hlt=>(by first|(simp at hlt;done)|(simp at hlt;omega)|(show _≤_;omega)|(show _<_;omega))) _)|(with_reducible refine Mods.trans ?_ hE))
def accGt (s:Int)(b k:Nat):Nat:=((b*2^k%2^64)&&&maskN s)|||1
def accLe (b k:Nat):Nat:=b|||2^k
theorem n0q (s:Int)(b k:Nat):bits .or .u64 (bits .and .u64 (IntKind.u64.wrap ((b:Int)*2^k)) ((maskN s:Nat):Int)) 1=((accGt s b k:Nat):Int):=by
 have e:IntKind.u64.wrap ((b:Int)*2^k)=((b*2^k%2^64:Nat):Int):=by
  rw[IntKind.wrap_u64];simp
 have h:b*2^k%2^64<2^64:=Nat.mod_lt _ (by decide)
 rw[e,u64_and_nat _ _ h (e0u s),show(1:Int)=((1:Nat):Int)from rfl,u64_or_nat _ _ (Nat.lt_of_le_of_lt Nat.and_le_left h) (by decide)]
 rfl
theorem p0W (s:Int)(b k:Nat)(hk:64≤k):accGt s b k=1:=by
 unfold accGt
 have:b*2^k%2^64=0:=by
  obtain⟨j,rfl⟩:=Nat.exists_eq_add_of_le hk
  rw[Nat.pow_add,←Nat.mul_assoc,Nat.mul_comm b,Nat.mul_assoc]
  exact Nat.mul_mod_right _ _
 rw[this];simp
theorem h0G (b k:Nat)(hb:b<2^64)(hk:k<64):bits .or .u64 (b:Int) (IntKind.u64.wrap (2^k))=((accLe b k:Nat):Int):=by
 have h:(2:Nat)^k<2^64:=Nat.pow_lt_pow_right (by decide) hk
 have e:IntKind.u64.wrap (2^k)=((2^k:Nat):Int):=by
  rw[IntKind.wrap_u64]
  have:((2:Int)^k)=((2^k:Nat):Int):=by simp
  rw[this];exact Int.emod_eq_of_lt (Int.natCast_nonneg _) (by have:=Int.ofNat_lt.2 h;exact this)
 rw[e,u64_or_nat _ _ hb h];rfl
theorem r0G (m:Nat)(hm:m<2^64):bits .and .u64 0 (m:Int)=0:=by
 have:=u64_and_nat 0 m (by decide) hm
 simpa using this
theorem t0w:bits .or .u64 0 1=1:=by
 have:=u64_or_nat 0 1 (by decide) (by decide)
 simpa using this
theorem n0o (s t:Int)(b:Nat)(n:Int)(w:World)(hs:i64In s)(ht:i64In t)(hb:b<2^64)(hn:i64In n)(h0:a0O s t b false n=0)(hgt:t<n)(hk:n-t<64):
  Calls Tryz.prog 101 #[c0z s t b false,.int .i64 n] w fun e w'=>e= .returned (.tuple #[c0z s n (accGt s b (n-t).toNat) false,.int .i64 0])∧Ext w w':=by
 obtain⟨⟨g1,g2,g3,g4⟩,g5,g6, -,g7⟩:=b0h h0
 have hq:=fun w=>d0x s t b false n w hs ht hb hn
 rw[h0]at hq
 have H:=Lib.hid hq
 have hss:=hs
 clear hq h0 hs ht hn
 have e1:IntKind.i64.wrap (n-t)=n-t:=IntWalk.i64_in _ (by omega)
 have A:=Lib.hid (n0q s b (n-t).toNat)
 go_enter Tryz.func101,Tryz.ntmps101
 go_wp2_with fail
 refine(H.out _).mono ?_
 rintro e w' ⟨rfl,hE⟩
 obtain⟨hc1,hc2,hc3⟩:=hE.cells
 have hz:w.heap.size+1<w'.heap.size:=by simp at hc3;omega
 have hz0:w.heap.size<w'.heap.size:=by omega
 go_wp2
 refine e0d 12 (by kernel_rfl) (by kernel_rfl) (by kernel_rfl) ?_
 simp only[cT,cZ,cD,cO]
 refine FlowX.seg [_,_,_,_,_,_,_,_,_,_] _ (by kernel_rfl) ?_
 repeat(go_big_quiet_step (fail))
 refine wpQuiet_nil ?_
 refine FlowX.call rfl Tryz.func146 (by kernel_rfl) (by kernel_rfl) (by kernel_rfl) (by kernel_rfl) (fun x=>i0r (i0j s _ hss)) (by kernel_rfl) ?_
 simp only[Act.put,List.setIfInBounds_toArray,List.set_cons_succ,List.set_cons_zero]
 refine FlowX.seg [_] _ (by kernel_rfl) ?_
 repeat(go_big_quiet_step (fail))
 refine wpQuiet_nil ?_
 refine FlowX.fin (fun x fv hfv=> ?_)
 simp only[List.map_nil,List.map_cons,b0z]
 have k0:World.cell? x.w ⟨w.heap.size,0,none⟩=some (.int .i64 s):=by simp[go_sem,hc1,hc2,hz0]
 have k1:World.cell? x.w ⟨w.heap.size,1,none⟩=some (.int .i64 t):=by simp[go_sem,hc1,hc2,hz0]
 have k2:World.cell? x.w ⟨w.heap.size,2,none⟩=some (.int .u64 (b:Int)):=by simp[go_sem,hc1,hc2,hz0]
 have k3:World.cell? x.w ⟨w.heap.size,3,none⟩=some (.bool false):=by simp[go_sem,hc1,hc2,hz0]
 have kf: ∀o,World.frozen? x.w ⟨w.heap.size,o,none⟩=false:=fun o=>by simp[go_sem,hc1,hc2,hz0]
 have r0:World.cell? x.w ⟨w.heap.size+1,0,none⟩=some (.int .i64 0):=by simp[go_sem,hc1,hc2,hz]
 have r1:World.cell? x.w ⟨w.heap.size+1,1,none⟩=some (.int .i64 0):=by simp[go_sem,hc1,hc2,hz]
 have r2:World.cell? x.w ⟨w.heap.size+1,2,none⟩=some (.int .u64 0):=by simp[go_sem,hc1,hc2,hz]
 have r3:World.cell? x.w ⟨w.heap.size+1,3,none⟩=some (.bool false):=by simp[go_sem,hc1,hc2,hz]
 have rf: ∀o,World.frozen? x.w ⟨w.heap.size+1,o,none⟩=false:=fun o=>by simp[go_sem,hc1,hc2,hz]
 clear hc1 hc2 hc3
 go_wp2
 rw[A.out]
 refine bodyPost_ret (v:= .tuple #[c0z s n (accGt s b (n-t).toNat) false,.int .i64 0]) (by simp[results,Tryz.results101,go_sem,r0,r1,r2,r3]) rfl ?_
 refine⟨rfl,?_⟩
 repeat(first|(with_reducible exact Mods.refl _ _)|(with_reducible refine Mods.alloc ?_ _)|(with_reducible refine Mods.drew ?_)|(with_reducible refine Mods.setCell ?_ (fun hlt=>(by first|(simp at hlt;done)|(simp at hlt;omega)|(show _≤_;omega)|(show _<_;omega))) _)|(with_reducible refine Mods.trans ?_ x.h)|(with_reducible refine Mods.trans ?_ hE))
theorem n0n (s t:Int)(b:Nat)(n:Int)(w:World)(hs:i64In s)(ht:i64In t)(hb:b<2^64)(hn:i64In n)(h0:a0O s t b false n=0)(hgt:t<n)(hk:64≤n-t):
  Calls Tryz.prog 101 #[c0z s t b false,.int .i64 n] w fun e w'=>e= .returned (.tuple #[c0z s n (accGt s b (n-t).toNat) false,.int .i64 0])∧Ext w w':=by
 obtain⟨⟨g1,g2,g3,g4⟩,g5,g6, -,g7⟩:=b0h h0
 have hq:=fun w=>d0x s t b false n w hs ht hb hn
 rw[h0]at hq
 have H:=Lib.hid hq
 have hss:=hs
 clear hq h0 hs ht hn
 have e1:IntKind.i64.wrap (n-t)=n-t:=IntWalk.i64_in _ (by omega)
 have A:=Lib.hid (p0W s b (n-t).toNat (by omega))
 have M:=Lib.hid (r0G (maskN s) (e0u s))
 have O:=Lib.hid t0w
 have hsb:=k0d (b:Int) (n-t) .u64 hk
 rw[A.out]
 go_enter Tryz.func101,Tryz.ntmps101
 go_wp2_with fail
 refine(H.out _).mono ?_
 rintro e w' ⟨rfl,hE⟩
 obtain⟨hc1,hc2,hc3⟩:=hE.cells
 have hz:w.heap.size+1<w'.heap.size:=by simp at hc3;omega
 have hz0:w.heap.size<w'.heap.size:=by omega
 go_wp2
 refine e0d 12 (by kernel_rfl) (by kernel_rfl) (by kernel_rfl) ?_
 simp only[cT,cZ,cD,cO]
 refine FlowX.seg [_,_,_,_,_,_,_,_,_,_] _ (by kernel_rfl) ?_
 repeat(go_big_quiet_step (fail))
 refine wpQuiet_nil ?_
 refine FlowX.call rfl Tryz.func146 (by kernel_rfl) (by kernel_rfl) (by kernel_rfl) (by kernel_rfl) (fun x=>i0r (i0j s _ hss)) (by kernel_rfl) ?_
 simp only[Act.put,List.setIfInBounds_toArray,List.set_cons_succ,List.set_cons_zero]
 refine FlowX.seg [_] _ (by kernel_rfl) ?_
 repeat(go_big_quiet_step (fail))
 refine wpQuiet_nil ?_
 refine FlowX.fin (fun x fv hfv=> ?_)
 simp only[List.map_nil,List.map_cons,b0z]
 have k0:World.cell? x.w ⟨w.heap.size,0,none⟩=some (.int .i64 s):=by simp[go_sem,hc1,hc2,hz0]
 have k1:World.cell? x.w ⟨w.heap.size,1,none⟩=some (.int .i64 t):=by simp[go_sem,hc1,hc2,hz0]
 have k2:World.cell? x.w ⟨w.heap.size,2,none⟩=some (.int .u64 (b:Int)):=by simp[go_sem,hc1,hc2,hz0]
 have k3:World.cell? x.w ⟨w.heap.size,3,none⟩=some (.bool false):=by simp[go_sem,hc1,hc2,hz0]
 have kf: ∀o,World.frozen? x.w ⟨w.heap.size,o,none⟩=false:=fun o=>by simp[go_sem,hc1,hc2,hz0]
 have r0:World.cell? x.w ⟨w.heap.size+1,0,none⟩=some (.int .i64 0):=by simp[go_sem,hc1,hc2,hz]
 have r1:World.cell? x.w ⟨w.heap.size+1,1,none⟩=some (.int .i64 0):=by simp[go_sem,hc1,hc2,hz]
 have r2:World.cell? x.w ⟨w.heap.size+1,2,none⟩=some (.int .u64 0):=by simp[go_sem,hc1,hc2,hz]
 have r3:World.cell? x.w ⟨w.heap.size+1,3,none⟩=some (.bool false):=by simp[go_sem,hc1,hc2,hz]
 have rf: ∀o,World.frozen? x.w ⟨w.heap.size+1,o,none⟩=false:=fun o=>by simp[go_sem,hc1,hc2,hz]
 clear hc1 hc2 hc3
 go_wp2
 rw[M.out,O.out]
 refine bodyPost_ret (v:= .tuple #[c0z s n 1 false,.int .i64 0]) (by simp[results,Tryz.results101,go_sem,r0,r1,r2,r3]) rfl ?_
 refine⟨rfl,?_⟩
 repeat(first|(with_reducible exact Mods.refl _ _)|(with_reducible refine Mods.alloc ?_ _)|(with_reducible refine Mods.drew ?_)|(with_reducible refine Mods.setCell ?_ (fun hlt=>(by first|(simp at hlt;done)|(simp at hlt;omega)|(show _≤_;omega)|(show _<_;omega))) _)|(with_reducible refine Mods.trans ?_ x.h)|(with_reducible refine Mods.trans ?_ hE))
theorem p0U (s t:Int)(b:Nat)(n:Int)(w:World)(hs:i64In s)(ht:i64In t)(hb:b<2^64)(hn:i64In n)(h0:a0O s t b false n=0)(hle:n≤t):
  Calls Tryz.prog 101 #[c0z s t b false,.int .i64 n] w fun e w'=>e= .returned (.tuple #[c0z s t (accLe b (t-n).toNat) false,.int .i64 0])∧Ext w w':=by
 obtain⟨⟨g1,g2,g3,g4⟩,g5,g6, -,g7⟩:=b0h h0
 have hq:=fun w=>d0x s t b false n w hs ht hb hn
 rw[h0]at hq
 have H:=Lib.hid hq
 clear hq h0 hs ht hn
 have A:=Lib.hid (h0G b (t-n).toNat hb (by omega))
 go_enter Tryz.func101,Tryz.ntmps101
 go_wp2_with fail
 refine(H.out _).mono ?_
 rintro e w' ⟨rfl,hE⟩
 obtain⟨hc1,hc2,hc3⟩:=hE.cells
 have hz:w.heap.size+1<w'.heap.size:=by simp at hc3;omega
 have hz0:w.heap.size<w'.heap.size:=by omega
 have k0:World.cell? w' ⟨w.heap.size,0,none⟩=some (.int .i64 s):=by simp[go_sem,hc1,hc2,hz0]
 have k1:World.cell? w' ⟨w.heap.size,1,none⟩=some (.int .i64 t):=by simp[go_sem,hc1,hc2,hz0]
 have k2:World.cell? w' ⟨w.heap.size,2,none⟩=some (.int .u64 (b:Int)):=by simp[go_sem,hc1,hc2,hz0]
 have k3:World.cell? w' ⟨w.heap.size,3,none⟩=some (.bool false):=by simp[go_sem,hc1,hc2,hz0]
 have kf: ∀o,World.frozen? w' ⟨w.heap.size,o,none⟩=false:=fun o=>by simp[go_sem,hc1,hc2,hz0]
 have r0:World.cell? w' ⟨w.heap.size+1,0,none⟩=some (.int .i64 0):=by simp[go_sem,hc1,hc2,hz]
 have r1:World.cell? w' ⟨w.heap.size+1,1,none⟩=some (.int .i64 0):=by simp[go_sem,hc1,hc2,hz]
 have r2:World.cell? w' ⟨w.heap.size+1,2,none⟩=some (.int .u64 0):=by simp[go_sem,hc1,hc2,hz]
 have r3:World.cell? w' ⟨w.heap.size+1,3,none⟩=some (.bool false):=by simp[go_sem,hc1,hc2,hz]
 have rf: ∀o,World.frozen? w' ⟨w.heap.size+1,o,none⟩=false:=fun o=>by simp[go_sem,hc1,hc2,hz]
 clear hc1 hc2 hc3
 go_wp2
 rw[A.out]
 refine bodyPost_ret (v:= .tuple #[c0z s t (accLe b (t-n).toNat) false,.int .i64 0]) (by simp[results,Tryz.results101,go_sem,r0,r1,r2,r3]) rfl ?_
 refine⟨rfl,?_⟩
 repeat(first|(with_reducible exact Mods.refl _ _)|(with_reducible refine Mods.alloc ?_ _)|(with_reducible refine Mods.drew ?_)|(with_reducible refine Mods.setCell ?_ (fun hlt=>(by first|(simp at hlt;done)|(simp at hlt;omega)|(show _≤_;omega)|(show _<_;omega))) _)|(with_reducible refine Mods.trans ?_ hE))
def accT (t n:Int):Int:=if t<n then n else t
def u0n (s t:Int)(b:Nat)(n:Int):Nat:=if t<n then accGt s b (n-t).toNat else accLe b (t-n).toNat
def u0E (s t:Int)(b:Nat)(l:Bool)(n:Int):Value:=
 if a0O s t b l n=0 then .tuple #[c0z s (accT t n) (u0n s t b n) false,.int .i64 0]else .tuple #[c0z 0 0 0 false,.int .i64 (a0O s t b l n)]
theorem n0p (s t:Int)(b:Nat)(l:Bool)(n:Int)(w:World)(hs:i64In s)(ht:i64In t)(hb:b<2^64)(hn:i64In n):
  Calls Tryz.prog 101 #[c0z s t b l,.int .i64 n] w fun e w'=>e= .returned (u0E s t b l n)∧Ext w w':=by
 unfold u0E
 by_cases h0:a0O s t b l n=0
 ·obtain⟨-, -, -,rfl, -⟩:=b0h h0
  rw[if_pos h0]
  unfold accT u0n
  by_cases hgt:t<n
  ·rw[if_pos hgt,if_pos hgt]
   by_cases hk:n-t<64
   ·exact n0o s t b n w hs ht hb hn h0 hgt hk
   ·exact n0n s t b n w hs ht hb hn h0 hgt (by omega)
  ·rw[if_neg hgt,if_neg hgt]
   exact p0U s t b n w hs ht hb hn h0 (by omega)
 ·rw[if_neg h0]
  exact p0T s t b l n w hs ht hb hn h0
def n0j (b:Nat)(i:Int):Bool:=decide (0≤i)&&(decide (i<64)&&b.testBit i.toNat)
theorem h0X (s t:Int)(b:Nat)(l:Bool)(i:Int)(w:World)(hb:b<2^64):
  Calls Tryz.prog 148 #[c0z s t b l,.int .i64 i] w fun e w'=>e= .returned (.bool (n0j b i))∧Ext w w':=by
 by_cases h1:0≤i
 ·by_cases h2:i<64
  ·have V:=Lib.hid (show n0j b i=(bits .and .u64 ((b:Int)/2^i.toNat) 1==1) by rw[n0V b _ hb];simp[n0j,h1,h2])
   rw[V.out]
   go_enter Tryz.func148,Tryz.ntmps148
   go_wp2
   all_goals(go_ret;refine⟨rfl,?_⟩)
   repeat(first|(with_reducible exact Mods.refl _ _)|(with_reducible refine Mods.alloc ?_ _)|(with_reducible refine Mods.drew ?_)|(with_reducible refine Mods.setCell ?_ (fun hlt=>(by first|(simp at hlt;done)|(simp at hlt;omega)|(show _≤_;omega)|(show _<_;omega))) _))
  ·have V:=Lib.hid (show n0j b i=false by simp[n0j,h2])
   rw[V.out]
   go_enter Tryz.func148,Tryz.ntmps148
   go_wp2
   all_goals(go_ret;refine⟨rfl,?_⟩)
   repeat(first|(with_reducible exact Mods.refl _ _)|(with_reducible refine Mods.alloc ?_ _)|(with_reducible refine Mods.drew ?_)|(with_reducible refine Mods.setCell ?_ (fun hlt=>(by first|(simp at hlt;done)|(simp at hlt;omega)|(show _≤_;omega)|(show _<_;omega))) _))
 ·have V:=Lib.hid (show n0j b i=false by simp[n0j,h1])
  rw[V.out]
  go_enter Tryz.func148,Tryz.ntmps148
  go_wp2
  all_goals(go_ret;refine⟨rfl,?_⟩)
  repeat(first|(with_reducible exact Mods.refl _ _)|(with_reducible refine Mods.alloc ?_ _)|(with_reducible refine Mods.drew ?_)|(with_reducible refine Mods.setCell ?_ (fun hlt=>(by first|(simp at hlt;done)|(simp at hlt;omega)|(show _≤_;omega)|(show _<_;omega))) _))
def u0z (s t:Int)(b k:Nat):Bool:=(List.range k).all fun i=> !b.testBit i||(decide ((i:Int)<s)&&decide ((i:Int)≤t))
theorem o0R (s t:Int)(b k:Nat):u0z s t b (k+1)=(u0z s t b k&&(!b.testBit k||(decide ((k:Int)<s)&&decide ((k:Int)≤t)))):=by
 simp[u0z,List.range_succ]
theorem m0J {s t:Int}{b k:Nat}(hk:k<64)(h:(!b.testBit k||(decide ((k:Int)<s)&&decide ((k:Int)≤t)))=false):d0Z s t b=false:=by
 unfold d0Z
 rw[List.all_eq_false]
 exact⟨k,List.mem_range.2 hk,by rw[h];simp⟩
theorem i0z (b k:Nat)(hk:k<64):n0j b (k:Int)=b.testBit k:=by
 have h:(k:Int)<64:=by omega
 simp[n0j,h]
theorem m0r (s t:Int)(b:Nat)(w:World)(hb:b<2^64)(g1:1≤s)(g2:s≤64)(g3: -1≤t)(g4:t≤1099511627775):
  Calls Tryz.prog 102 #[c0z s t b false] w fun e w'=>e= .returned (.bool (d0Z s t b&&(decide (t= -1)||b.testBit 0)))∧Ext w w':=by
 have hbit:=fun i w=>h0X s t b false i w hb
 have H:=Lib.hid hbit
 clear hbit
 go_enter Tryz.func102,Tryz.ntmps102
 go_wp2
 go_loopw [3] (fun i wr=> ∃k:Nat,k≤64∧i= .int .i64 k∧u0z s t b k=true∧Ext (w.alloc (.cells #[.int .i64 s,.int .i64 t,.int .u64 (b:Int),.bool false] 90)) wr) (fun i _=>(64-intOf i).toNat)
 case atStart=>exact⟨0,by omega,rfl,rfl,Mods.refl _ _⟩
 case round=>
  obtain⟨k,hk,rfl,hok,hE⟩:=hrel
  have HOK:=Lib.hid hok
  clear hok
  obtain⟨hc1,hc2,hc3⟩:=hE.cells
  have hz:w.heap.size<wr.heap.size:=by simp at hc3;omega
  have c0:World.cell? wr ⟨w.heap.size,0,none⟩=some (.int .i64 s):=by simp[go_sem,hc1,hc2]
  have c1:World.cell? wr ⟨w.heap.size,1,none⟩=some (.int .i64 t):=by simp[go_sem,hc1,hc2]
  have c2:World.cell? wr ⟨w.heap.size,2,none⟩=some (.int .u64 (b:Int)):=by simp[go_sem,hc1,hc2]
  have c3:World.cell? wr ⟨w.heap.size,3,none⟩=some (.bool false):=by simp[go_sem,hc1,hc2]
  have cf: ∀o,World.frozen? wr ⟨w.heap.size,o,none⟩=false:=fun o=>by simp[go_sem,hc1,hc2]
  clear hc1 hc2 hc3
  by_cases hlt:k<64
  ·have hkz:(k:Int)<64:=by omega
   have HB:=Lib.hid (i0z b k hlt)
   have hsucc:=o0R s t b k
   have hbad:=fun h=>m0J (s:=s) (t:=t) (b:=b) hlt h
   rw[HOK.out]at hsucc
   generalize hx:b.testBit k=x at*
   have HX:=Lib.hid hx
   clear hx
   cases x
   ·have HS:=Lib.hid (show u0z s t b (k+1)=true by rw[hsucc];rfl)
    clear hsucc hbad
    go_wp2_with fail
    refine(H.out _ _).mono ?_
    rintro e w' ⟨rfl,hE2⟩
    rw[HB.out]
    obtain⟨hc1,hc2,hc3⟩:=hE2.cells
    go_wp2
    go_roundw
    case rel=>exact⟨k+1,by omega,by go_num,HS.out,hE.trans hE2⟩
    case measure=>simp[intOf];omega
   ·by_cases h1:(k:Int)<s
    ·by_cases h2:(k:Int)≤t
     ·have HS:=Lib.hid (show u0z s t b (k+1)=true by rw[hsucc];simp[h1,h2])
      clear hsucc hbad
      go_wp2_with fail
      refine(H.out _ _).mono ?_
      rintro e w' ⟨rfl,hE2⟩
      rw[HB.out]
      obtain⟨hc1,hc2,hc3⟩:=hE2.cells
      go_wp2
      go_roundw
      case rel=>exact⟨k+1,by omega,by go_num,HS.out,hE.trans hE2⟩
      case measure=>simp[intOf];omega
     ·have HS:=Lib.hid (hbad (by simp[h2]))
      clear hsucc hbad
      go_wp2_with fail
      refine(H.out _ _).mono ?_
      rintro e w' ⟨rfl,hE2⟩
      rw[HB.out]
      obtain⟨hc1,hc2,hc3⟩:=hE2.cells
      go_wp2
      go_ret
      refine⟨by rw[HS.out];rfl,?_⟩
      repeat(first|(with_reducible exact Mods.refl _ _)|(with_reducible refine Mods.alloc ?_ _)|(with_reducible refine Mods.drew ?_)|(with_reducible refine Mods.setCell ?_ (fun hlt=>(by first|(simp at hlt;done)|(simp at hlt;omega)|(show _≤_;omega)|(show _<_;omega))) _)|(with_reducible refine Mods.trans ?_ hE2)|(with_reducible refine Mods.trans ?_ hE))
    ·have HS:=Lib.hid (hbad (by simp[h1]))
     clear hsucc hbad
     go_wp2_with fail
     refine(H.out _ _).mono ?_
     rintro e w' ⟨rfl,hE2⟩
     rw[HB.out]
     obtain⟨hc1,hc2,hc3⟩:=hE2.cells
     go_wp2
     go_ret
     refine⟨by rw[HS.out];rfl,?_⟩
     repeat(first|(with_reducible exact Mods.refl _ _)|(with_reducible refine Mods.alloc ?_ _)|(with_reducible refine Mods.drew ?_)|(with_reducible refine Mods.setCell ?_ (fun hlt=>(by first|(simp at hlt;done)|(simp at hlt;omega)|(show _≤_;omega)|(show _<_;omega))) _)|(with_reducible refine Mods.trans ?_ hE2)|(with_reducible refine Mods.trans ?_ hE))
  ·obtain rfl:k=64:=by omega
   have HS:=Lib.hid (show d0Z s t b=true from HOK.out)
   by_cases ht1:t= -1
   ·subst ht1
    go_wp2
    go_ret
    refine⟨by rw[HS.out];rfl,?_⟩
    repeat(first|(with_reducible exact Mods.refl _ _)|(with_reducible refine Mods.alloc ?_ _)|(with_reducible refine Mods.drew ?_)|(with_reducible refine Mods.setCell ?_ (fun hlt=>(by first|(simp at hlt;done)|(simp at hlt;omega)|(show _≤_;omega)|(show _<_;omega))) _)|(with_reducible refine Mods.trans ?_ hE))
   ·have hz1:(t== -1)=false:=by simpa using ht1
    have HT:=Lib.hid (show(d0Z s t b&&(decide (t= -1)||b.testBit 0))=b.testBit 0 by rw[HS.out];simp[ht1])
    have HB:=Lib.hid (show n0j b 0=b.testBit 0 from i0z b 0 (by omega))
    clear ht1
    go_wp2_with fail
    refine(H.out _ _).mono ?_
    rintro e w' ⟨rfl,hE2⟩
    rw[HB.out]
    go_wp2
    all_goals(go_ret;refine⟨by rw[HT.out];first|rfl|(simp[*];done),?_⟩)
    repeat(first|(with_reducible exact Mods.refl _ _)|(with_reducible refine Mods.alloc ?_ _)|(with_reducible refine Mods.drew ?_)|(with_reducible refine Mods.setCell ?_ (fun hlt=>(by first|(simp at hlt;done)|(simp at hlt;omega)|(show _≤_;omega)|(show _<_;omega))) _)|(with_reducible refine Mods.trans ?_ hE2)|(with_reducible refine Mods.trans ?_ hE))
theorem e0S (s t:Int)(b:Nat)(l:Bool)(w:World)(hs:i64In s)(ht:i64In t)(hb:b<2^64):
  Calls Tryz.prog 102 #[c0z s t b l] w fun e w'=>e= .returned (.bool (a0Q s t b l))∧Ext w w':=by
 obtain⟨hs,hs'⟩:=hs
 obtain⟨ht,ht'⟩:=ht
 by_cases hg:1≤s∧s≤64∧ -1≤t∧t≤1099511627775
 ·have hg':=hg
  obtain⟨g1,g2,g3,g4⟩:=hg
  cases l
  ·have V:a0Q s t b false=(d0Z s t b&&(decide (t= -1)||b.testBit 0)):=by simp[a0Q,hg']
   rw[V]
   exact m0r s t b w hb g1 g2 g3 g4
  ·have V:=Lib.hid (show a0Q s t b true=(decide (b=0)&&(t== -1)) by simp only[a0Q,g1,g2,g3,g4];rw[show(t== -1)=decide (t= -1)from by rw[Bool.eq_iff_iff];simp];simp)
   rw[V.out]
   by_cases h0:b=0
   ·subst h0
    go_enter Tryz.func102,Tryz.ntmps102
    go_wp2
    all_goals(go_ret;refine⟨?_,(Mods.refl _ _).alloc _⟩;simp;try omega)
   ·have h0':((b:Int)==0)=false:=by simp[h0]
    go_enter Tryz.func102,Tryz.ntmps102
    go_wp2
    all_goals(go_ret;refine⟨?_,(Mods.refl _ _).alloc _⟩;simp[h0];try omega)
 ·have V:=Lib.hid (show a0Q s t b l=false by simp only[a0Q,hg];simp)
  rw[V.out]
  clear V
  by_cases g1:s<1
  ·go_enter Tryz.func102,Tryz.ntmps102
   go_wp2
   all_goals(go_ret;exact⟨rfl,(Mods.refl _ _).alloc _⟩)
  ·by_cases g2:64<s
   ·go_enter Tryz.func102,Tryz.ntmps102
    go_wp2
    all_goals(go_ret;exact⟨rfl,(Mods.refl _ _).alloc _⟩)
   ·by_cases g3:t< -1
    ·go_enter Tryz.func102,Tryz.ntmps102
     go_wp2
     all_goals(go_ret;exact⟨rfl,(Mods.refl _ _).alloc _⟩)
    ·have g4:1099511627775<t:=by omega
     clear hg
     go_enter Tryz.func102,Tryz.ntmps102
     go_wp2
     all_goals(go_ret;exact⟨rfl,(Mods.refl _ _).alloc _⟩)
theorem o0g (s t:Int)(b:Nat)(l:Bool)(w:World):
  Calls Tryz.prog 97 #[c0z s t b l] w fun e w'=>e= .returned (c0z s (-1) 0 true)∧Ext w w':=by
 go_enter Tryz.func97,Tryz.ntmps97
 go_wp2
 go_returns
 refine⟨rfl,?_⟩
 repeat(first|(with_reducible exact Mods.refl _ _)|(with_reducible refine Mods.alloc ?_ _)|(with_reducible refine Mods.drew ?_)|(with_reducible refine Mods.setCell ?_ (fun hlt=>(by first|(simp at hlt;done)|(simp at hlt;omega)|(show _≤_;omega)|(show _<_;omega))) _))
theorem q0A (n:Int)(w:World):Calls Tryz.prog 95 #[.int .i64 n] w fun e w'=>
  e= .returned (.tuple #[if 1≤n∧n≤64 then c0z n (-1) 0 false else c0z 0 0 0 false,.int .i64 (if 1≤n∧n≤64 then 0 else 1)])∧Ext w w':=by
 by_cases h1:1≤n
 ·by_cases h2:n≤64
  ·rw[if_pos ⟨h1,h2⟩,if_pos ⟨h1,h2⟩]
   go_enter Tryz.func95,Tryz.ntmps95
   go_wp2
   all_goals(go_returns;refine⟨rfl,?_⟩)
   all_goals(repeat(first|exact Mods.refl _ _|refine Mods.alloc ?_ _|refine Mods.setCell ?_ (by simp) _))
  ·rw[if_neg (fun h=>h2 h.2),if_neg (fun h=>h2 h.2)]
   go_enter Tryz.func95,Tryz.ntmps95
   go_wp2
   all_goals(go_returns;refine⟨rfl,?_⟩)
   all_goals(repeat(first|exact Mods.refl _ _|refine Mods.alloc ?_ _|refine Mods.setCell ?_ (by simp) _))
 ·rw[if_neg (fun h=>h1 h.1),if_neg (fun h=>h1 h.1)]
  go_enter Tryz.func95,Tryz.ntmps95
  go_wp2
  all_goals(go_returns;refine⟨rfl,?_⟩)
  all_goals(repeat(first|exact Mods.refl _ _|refine Mods.alloc ?_ _|refine Mods.setCell ?_ (by simp) _))
def b0Y (s t:Int)(acc:Nat)(n:Int):Nat:=if 0≤t-n∧t-n<s then acc|||2^ (t-n).toNat else acc
def d0s (s t:Int)(l:List Int):Nat:=l.foldl (b0Y s t) 0
theorem k0x (s t:Int)(hs:s≤64)(acc:Nat)(n:Int)(h:acc<2^64):b0Y s t acc n<2^64:=by
 unfold b0Y
 split
 ·exact Nat.or_lt_two_pow h (Nat.pow_lt_pow_right (by decide) (by omega))
 ·exact h
theorem e0x (s t:Int)(hs:s≤64): ∀(l:List Int) (acc:Nat),acc<2^64→l.foldl (b0Y s t) acc<2^64
 | [],_,h=>h
 |n::l,acc,h=>e0x s t hs l _ (k0x s t hs acc n h)
theorem r0e (s t:Int)(hs:s≤64)(l:List Int):d0s s t l<2^64:=e0x s t hs l 0 (by decide)
theorem m0M (s t:Int)(l:List Int)(k:Nat)(hk:k<l.length):d0s s t (l.take (k+1))=b0Y s t (d0s s t (l.take k)) l[k]:=by
 unfold d0s
 rw[List.take_succ_eq_append_getElem hk,List.foldl_append]
 rfl
theorem f0G (s t:Int)(v:Value)(l:List Int)(F:Nat→Prop)(w:World)(hs:0≤s∧s≤64)(ht: -1≤t∧t≤1099511627775)(hl: ∀n∈l, -1099511627776≤n∧n≤1099511627776)(hr:reads F w v l.length (l.map (.int .i64)))(hlen:l.length≤4611686018427387904):
  Calls Tryz.prog 144 #[.int .i64 s,.int .i64 t,v] w fun e w'=>e= .returned (c0z s t (d0s s t l) false)∧Ext w w':=by
 obtain⟨hs1,hs2⟩:=hs
 obtain⟨ht1,ht2⟩:=ht
 obtain⟨a,cap,rfl,hcap1,hcap2,hcells⟩:=hr
 go_enter Tryz.func144,Tryz.ntmps144
 go_wp2
 go_loopw [15] (fun i wr=> ∃k:Nat,k≤l.length∧i= .int .i64 k∧wr=(w.alloc (.cells #[.int .i64 0,.int .i64 0,.int .u64 0,.bool false] 90)).alloc (.cells #[.int .i64 s,.int .i64 t,.int .u64 ((d0s s t (l.take k):Nat):Int),.bool false] 90)) (fun i _=>(l.length-intOf i).toNat)
 case atStart=>exact⟨0,Nat.zero_le _,rfl,rfl⟩
 case round=>
  obtain⟨k,hk,rfl,rfl⟩:=hrel
  have hacc:=r0e s t hs2 (l.take k)
  by_cases hlt:k<l.length
  ·have hmem:=hl l[k] (List.getElem_mem hlt)
   have htk:=m0M s t l k hlt
   rcases hcells with hnil|⟨b,off,rfl, -,hrow⟩
   ·exfalso
    have h0:l.length=0:=by
     have:=congrArg List.length hnil
     rwa [List.length_map]at this
    omega
   ·have hcell:w.cell? ⟨b,off+k,none⟩=some (.int .i64 l[k]):=by
     rw[hrow k (by simpa using hlt)];simp[hlt]
    have hbs:b<w.heap.size:=World.block_lt_of_cell? w ⟨b,off+k,none⟩ hcell
    clear hrow hl
    generalize l[k]=n at*
    generalize d0s s t (l.take k)=acc at*
    unfold b0Y at htk
    by_cases h1:0≤t-n∧t-n<s
    ·rw[if_pos h1]at htk
     obtain⟨h2,h3⟩:=h1
     have A:=Lib.hid (show bits .or .u64 (acc:Int) (IntKind.u64.wrap (2^ (t-n).toNat))=((d0s s t (l.take (k+1)):Nat):Int) by rw[htk];exact h0G acc _ hacc (by omega))
     clear htk
     go_wp2
     rw[A.out]
     go_roundw
     case rel=>exact⟨k+1,by omega,by go_num,rfl⟩
     case measure=>simp[intOf];omega
    ·rw[if_neg h1]at htk
     have A:=Lib.hid htk.symm
     clear htk
     by_cases h2:0≤t-n
     ·have h3: ¬t-n<s:=fun h=>h1 ⟨h2,h⟩
      clear h1
      go_wp2
      go_roundw
      case rel=>exact⟨k+1,by omega,by go_num,by rw[←A.out]⟩
      case measure=>simp[intOf];omega
     ·clear h1
      go_wp2
      go_roundw
      case rel=>exact⟨k+1,by omega,by go_num,by rw[←A.out]⟩
      case measure=>simp[intOf];omega
  ·obtain rfl:k=l.length:=by omega
   rw[List.take_length]
   go_wp2
   go_returns
   refine⟨rfl,?_⟩
   repeat(first|(with_reducible exact Mods.refl _ _)|(with_reducible refine Mods.alloc ?_ _)|(with_reducible refine Mods.drew ?_)|(with_reducible refine Mods.setCell ?_ (fun hlt=>(by first|(simp at hlt;done)|(simp at hlt;omega)|(show _≤_;omega)|(show _<_;omega))) _))
def a0V (t:Int)(b m:Nat):List Int:=((List.range m).filter fun q=>b.testBit (63-q)).map fun q=>t-((63-q:Nat):Int)
def h0R (s t:Int)(b:Nat)(l:Bool):List Int:=if a0Q s t b l then a0V t b 64 else []
theorem k0g (t:Int)(b m:Nat):a0V t b (m+1)=a0V t b m++if b.testBit (63-m)then [t-((63-m:Nat):Int)]else []:=by
 unfold a0V
 rw[List.range_succ,List.filter_append,List.map_append]
 congr 1
 by_cases h:b.testBit (63-m)=true<;>simp[List.filter_cons,h]
theorem e0P (t:Int)(b m:Nat):(a0V t b m).length≤m:=by
 unfold a0V
 rw[List.length_map]
 exact Nat.le_trans (List.length_filter_le _ _) (by simp)
theorem t0U:(Tryz.prog.info? 3).map (fun i=>(i.zero,i.size,i.bytes))=some (some (.int .i64 0),1,8):=by kernel_rfl
def q0b (w:World)(xs:List Int)(e:Ending)(w':World):Prop:= ∃v,e= .returned v∧w'.ownsRow w.heap.size 3 1 v xs.length (xs.map (.int .i64))∧Ext w w'
def y0v (w:World)(k m:Nat)(out i:Value)(s t:Int)(b:Nat)(l:Bool)(wr:World):Prop:=
 i= .int .i64 (63-(m:Int))∧wr.ownsRow (w.heap.size+1) 3 1 out (a0V t b m).length ((a0V t b m).map (.int .i64))∧Ext (w.alloc (.cells #[.int .i64 s,.int .i64 t,.int .u64 (b:Int),.bool l] 90)) wr
theorem b0Q {w:World}{base base' e size n:Nat}{v:Value}{xs:List Value}(h:w.ownsRow base e size v n xs)(hb:base'≤base):w.ownsRow base' e size v n xs:=by
 obtain⟨h1,h2⟩:=h
 refine⟨h1,h2.imp id ?_⟩
 rintro⟨g,cap,cur,hv,hg,r⟩
 exact⟨g,cap,cur,hv,Nat.le_trans hb hg,r⟩
theorem l0E {w w':World}{base e size n:Nat}{v:Value}{xs:List Value}(h:w.ownsRow base e size v n xs)(hE:Ext w w'):w'.ownsRow base e size v n xs:=by
 obtain⟨h1,h2⟩:=h
 refine⟨h1,?_⟩
 rcases h2 with h2|⟨g,cap,cur,hv,hg,hh,r⟩
 ·exact .inl h2
 ·have hlt:g<w.heap.size:=by
   rcases Nat.lt_or_ge g w.heap.size with h|h
   ·exact h
   ·rw[Array.getElem?_eq_none h]at hh;cases hh
  exact .inr ⟨g,cap,cur,hv,hg,by rw[hE.block g hlt (fun h=>h)];exact hh,r⟩
theorem i0O (s t:Int)(b:Nat)(l:Bool)(w:World)(hs:i64In s)(ht:i64In t)(hb:b<2^64):
  Calls Tryz.prog 145 #[c0z s t b l] w (q0b w (h0R s t b l)):=by
 have hv:=fun w=>e0S s t b l w hs ht hb
 by_cases hval:a0Q s t b l=true
 ·obtain⟨g1,g2,g3,g4⟩:=i0H hval
  have hbit:=fun i w=>h0X s t b l i w hb
  have HB:=Lib.hid hbit
  have HS:=Lib.hid (show h0R s t b l=a0V t b 64 by simp[h0R,hval])
  rw[hval]at hv
  have H:=Lib.hid hv
  clear hbit hv hval
  rw[HS.out]
  obtain⟨i0,hi,hz0,hz1,hz2⟩:=info_parts t0U
  go_enter Tryz.func145,Tryz.ntmps145
  go_wp2_with fail
  refine(H.out _).mono ?_
  rintro e w' ⟨rfl,hE⟩
  obtain⟨hc1,hc2,hc3⟩:=hE.cells
  go_wp2
  go_loopw [3,4] (fun out i wr=> ∃m:Nat,m≤64∧y0v w 0 m out i s t b l wr) (fun _ i _=>(1+intOf i).toNat)
  case atStart=>exact⟨0,by omega,rfl,World.ownsRow_nil ..,hE⟩
  case round=>
   obtain⟨m,hm,rfl,hown,hE2⟩:=hrel
   clear hc1 hc2 hc3
   obtain⟨hc1,hc2,hc3⟩:=hE2.cells
   have hz:w.heap.size<wr.heap.size:=by simp at hc3;omega
   have c0:World.cell? wr ⟨w.heap.size,0,none⟩=some (.int .i64 s):=by simp[go_sem,hc1,hc2]
   have c1:World.cell? wr ⟨w.heap.size,1,none⟩=some (.int .i64 t):=by simp[go_sem,hc1,hc2]
   have c2:World.cell? wr ⟨w.heap.size,2,none⟩=some (.int .u64 (b:Int)):=by simp[go_sem,hc1,hc2]
   have c3:World.cell? wr ⟨w.heap.size,3,none⟩=some (.bool l):=by simp[go_sem,hc1,hc2]
   have cf: ∀o,World.frozen? wr ⟨w.heap.size,o,none⟩=false:=fun o=>by simp[go_sem,hc1,hc2]
   clear hc1 hc2 hc3
   have hll:=e0P t b m
   by_cases hlt:m<64
   ·have hq:n0j b (63-(m:Int))=b.testBit (63-m):=by
     rw[show(63-(m:Int))=((63-m:Nat):Int) by omega]
     exact i0z b _ (by omega)
    have hsucc:=k0g t b m
    generalize hx:b.testBit (63-m)=x at*
    have HX:=Lib.hid hx
    have HQ:=Lib.hid hq
    clear hx hq
    cases x
    ·have HSU:=Lib.hid (show a0V t b (m+1)=a0V t b m by rw[hsucc];simp)
     clear hsucc
     go_wp2_with fail
     refine(HB.out _ _).mono ?_
     rintro e w2 ⟨rfl,hE3⟩
     rw[HQ.out]
     go_wp2
     go_roundw
     case rel=>exact⟨m+1,by omega,by go_num,by rw[HSU.out];exact l0E hown hE3,hE2.trans hE3⟩
     case measure=>simp[intOf];omega
    ·have HSU:=Lib.hid (show a0V t b (m+1)=a0V t b m++[t-((63-m:Nat):Int)] by rw[hsucc];simp)
     clear hsucc
     go_wp2_with fail
     refine(HB.out _ _).mono ?_
     rintro e w2 ⟨rfl,hE3⟩
     rw[HQ.out]
     obtain⟨hd1,hd2,hd3⟩:=hE3.cells
     have hz2':w.heap.size<w2.heap.size:=by omega
     have c'0:World.cell? w2 ⟨w.heap.size,0,none⟩=some (.int .i64 s):=by simp[go_sem,hd1,hd2,c0,c1,c2,c3,cf,hz]
     have c'1:World.cell? w2 ⟨w.heap.size,1,none⟩=some (.int .i64 t):=by simp[go_sem,hd1,hd2,c0,c1,c2,c3,cf,hz]
     have c'2:World.cell? w2 ⟨w.heap.size,2,none⟩=some (.int .u64 (b:Int)):=by simp[go_sem,hd1,hd2,c0,c1,c2,c3,cf,hz]
     have c'3:World.cell? w2 ⟨w.heap.size,3,none⟩=some (.bool l):=by simp[go_sem,hd1,hd2,c0,c1,c2,c3,cf,hz]
     have c'f: ∀o,World.frozen? w2 ⟨w.heap.size,o,none⟩=false:=fun o=>by simp[go_sem,hd1,hd2,c0,c1,c2,c3,cf,hz]
     clear hd1 hd2 hd3
     have hown2:=l0E hown hE3
     go_wp2_with (at_builtin;refine wpList_append_own _ rfl (.tmp 15) (.tmp 20) 30 rfl (w.heap.size+1) 3 i0 (.int .i64 0) 1 8 Tryz.underlying30 hi hz0 hz1 hz2 rfl (by decide) _ _ _ rfl (hown2.alloc _) ⟨w2.heap.size,0,none⟩ 1 1 [.int .i64 (t-(63-(m:Int)))] rfl rfl ?c1 ?c2 ?c3 ?c4 ?c5 ?_)
     case c1=>exact cell_one_new _ _ _
     case c2=>simp[Value.oneCell']
     case c3=>unfold maxLen;omega
     case c4=>omega
     case c5=>simp;omega
     intro v' w3 hown3 hgrow hnn
     clear hnn
     have hlt3:=hown2.lt
     have HLT:=Lib.hid hlt3
     have HG:=Lib.hid hgrow
     have HO:=Lib.hid hown3
     clear hlt3 hgrow hown3
     go_wp2
     go_roundw
     case rel=>
      refine⟨m+1,by omega,by go_num,?_,?_⟩
      ·rw[HSU.out]
       have:=HO.out
       rw[show(63-(m:Int))=((63-m:Nat):Int) by omega]at this
       simpa using this
      ·refine Mods.grown ?_ HG.out (fun k hk hlt=> ?_)
       ·repeat(first|(with_reducible exact Mods.refl _ _)|(with_reducible refine Mods.alloc ?_ _)|(with_reducible refine Mods.drew ?_)|(with_reducible refine Mods.setCell ?_ (fun hlt=>(by first|(simp at hlt;done)|(simp at hlt;omega)|(show _≤_;omega)|(show _<_;omega))) _)|(with_reducible refine Mods.trans ?_ hE3)|(with_reducible refine Mods.trans ?_ hE2))
       ·have:=HLT.out k hk
        simp at hlt
        omega
     case measure=>simp[intOf];omega
   ·obtain rfl:m=64:=by omega
    go_wp2
    go_ret
    refine⟨_,rfl,b0Q hown (by omega),?_⟩
    repeat(first|(with_reducible exact Mods.refl _ _)|(with_reducible refine Mods.alloc ?_ _)|(with_reducible refine Mods.drew ?_)|(with_reducible refine Mods.setCell ?_ (fun hlt=>(by first|(simp at hlt;done)|(simp at hlt;omega)|(show _≤_;omega)|(show _<_;omega))) _)|(with_reducible refine Mods.trans ?_ hE2))
 ·have HS:=Lib.hid (show h0R s t b l= [] by simp[h0R,hval])
  have hval':a0Q s t b l=false:=by simpa using hval
  rw[hval']at hv
  have H:=Lib.hid hv
  clear hv hval hval'
  rw[HS.out]
  go_enter Tryz.func145,Tryz.ntmps145
  go_wp2_with fail
  refine(H.out _).mono ?_
  rintro e w' ⟨rfl,hE⟩
  go_wp2
  go_ret
  refine⟨_,rfl,World.ownsRow_nil ..,?_⟩
  repeat(first|(with_reducible exact Mods.refl _ _)|(with_reducible refine Mods.alloc ?_ _)|(with_reducible refine Mods.drew ?_)|(with_reducible refine Mods.setCell ?_ (fun hlt=>(by first|(simp at hlt;done)|(simp at hlt;omega)|(show _≤_;omega)|(show _<_;omega))) _)|(with_reducible refine Mods.trans ?_ hE))
theorem d0F (s t:Int)(b:Nat)(l:Bool)(n:Int)(w:World)(hs:i64In s)(ht:i64In t)(hb:b<2^64)(hn:i64In n):
  Calls Tryz.prog 103 #[c0z s t b l,.int .i64 n] w fun e w'=>e= .returned (.int .i64 (a0O s t b l n))∧Ext w w':=by
 obtain⟨hn1,hn2⟩:=hn
 have hv:=fun w=>e0S s t b l w hs ht hb
 by_cases hr:c0f s t b l n=true
 ·obtain⟨⟨g1,g2,g3,g4⟩,g5,g6⟩:=g0d hr
  have hvv:a0Q s t b l=true:=by simp only[c0f,Bool.and_eq_true]at hr;exact hr.1
  rw[hvv]at hv
  have H:=Lib.hid hv
  clear hv hvv
  cases l
  ·have V:=Lib.hid (show a0O s t b false n=if n≤t-s∨(n≤t∧b.testBit (t-n).toNat=true)then 33 else 0 by simp[a0O,hr])
   clear hr hs ht
   rw[V.out]
   clear V
   by_cases c1:n≤t-s
   ·go_enter Tryz.func103,Tryz.ntmps103
    go_wp2_with fail
    refine(H.out _).mono ?_
    rintro e w' ⟨rfl,hE⟩
    obtain⟨hc1,hc2,hc3⟩:=hE.cells
    go_wp2
    all_goals(go_ret;refine⟨by simp[c1],?_⟩)
    repeat(first|(with_reducible exact Mods.refl _ _)|(with_reducible refine Mods.alloc ?_ _)|(with_reducible refine Mods.drew ?_)|(with_reducible refine Mods.setCell ?_ (fun hlt=>(by first|(simp at hlt;done)|(simp at hlt;omega)|(show _≤_;omega)|(show _<_;omega))) _)|(with_reducible refine Mods.trans ?_ hE))
   ·by_cases c2:n≤t
    ·have hbit:=fun w=>h0X s t b false (t-n) w hb
     have hq:n0j b (t-n)=b.testBit (t-n).toNat:=by
      have h1:0≤t-n:=by omega
      have h2:t-n<64:=by omega
      simp[n0j,h1,h2,c2]
     rw[hq]at hbit
     have HB:=Lib.hid hbit
     clear hbit hq
     generalize hx:b.testBit (t-n).toNat=x at*
     have HX:=Lib.hid hx
     clear hx
     cases x
     all_goals
      go_enter Tryz.func103,Tryz.ntmps103
      go_wp2_with fail
      refine(H.out _).mono ?_
      rintro e w' ⟨rfl,hE⟩
      obtain⟨hc1,hc2,hc3⟩:=hE.cells
      go_wp2_with fail
      refine(HB.out _).mono ?_
      rintro e w2 ⟨rfl,hE2⟩
      go_wp2
      all_goals(go_ret;refine⟨by simp[c1,c2],?_⟩)
      repeat(first|(with_reducible exact Mods.refl _ _)|(with_reducible refine Mods.alloc ?_ _)|(with_reducible refine Mods.drew ?_)|(with_reducible refine Mods.setCell ?_ (fun hlt=>(by first|(simp at hlt;done)|(simp at hlt;omega)|(show _≤_;omega)|(show _<_;omega))) _)|(with_reducible refine Mods.trans ?_ hE2)|(with_reducible refine Mods.trans ?_ hE))
    ·go_enter Tryz.func103,Tryz.ntmps103
     go_wp2_with fail
     refine(H.out _).mono ?_
     rintro e w' ⟨rfl,hE⟩
     obtain⟨hc1,hc2,hc3⟩:=hE.cells
     go_wp2
     all_goals(go_ret;refine⟨by simp[c1,c2],?_⟩)
     repeat(first|(with_reducible exact Mods.refl _ _)|(with_reducible refine Mods.alloc ?_ _)|(with_reducible refine Mods.drew ?_)|(with_reducible refine Mods.setCell ?_ (fun hlt=>(by first|(simp at hlt;done)|(simp at hlt;omega)|(show _≤_;omega)|(show _<_;omega))) _)|(with_reducible refine Mods.trans ?_ hE))
  ·have V:=Lib.hid (show a0O s t b true n=34 by simp[a0O,hr])
   clear hr
   rw[V.out]
   go_enter Tryz.func103,Tryz.ntmps103
   go_wp2_with fail
   refine(H.out _).mono ?_
   rintro e w' ⟨rfl,hE⟩
   obtain⟨hc1,hc2,hc3⟩:=hE.cells
   go_wp2
   go_ret
   refine⟨rfl,?_⟩
   repeat(first|(with_reducible exact Mods.refl _ _)|(with_reducible refine Mods.alloc ?_ _)|(with_reducible refine Mods.drew ?_)|(with_reducible refine Mods.setCell ?_ (fun hlt=>(by first|(simp at hlt;done)|(simp at hlt;omega)|(show _≤_;omega)|(show _<_;omega))) _)|(with_reducible refine Mods.trans ?_ hE))
 ·have hr':c0f s t b l n=false:=by simpa using hr
  have V:=Lib.hid (show a0O s t b l n=1 by simp[a0O,hr'])
  rw[V.out]
  have hr2:=hr'
  unfold c0f at hr2
  generalize a0Q s t b l=v at*
  have H:=Lib.hid hv
  clear hv hr hr'
  cases v
  ·clear hr2
   go_enter Tryz.func103,Tryz.ntmps103
   go_wp2_with fail
   refine(H.out _).mono ?_
   rintro e w' ⟨rfl,hE⟩
   go_wp2
   go_ret
   refine⟨rfl,?_⟩
   repeat(first|(with_reducible exact Mods.refl _ _)|(with_reducible refine Mods.alloc ?_ _)|(with_reducible refine Mods.drew ?_)|(with_reducible refine Mods.setCell ?_ (fun hlt=>(by first|(simp at hlt;done)|(simp at hlt;omega)|(show _≤_;omega)|(show _<_;omega))) _)|(with_reducible refine Mods.trans ?_ hE))
  ·have hnn:n<0∨1099511627775<n:=by simp at hr2;omega
   clear hr2
   by_cases h0:n<0
   ·clear hnn
    go_enter Tryz.func103,Tryz.ntmps103
    go_wp2_with fail
    refine(H.out _).mono ?_
    rintro e w' ⟨rfl,hE⟩
    go_wp2
    go_ret
    refine⟨rfl,?_⟩
    repeat(first|(with_reducible exact Mods.refl _ _)|(with_reducible refine Mods.alloc ?_ _)|(with_reducible refine Mods.drew ?_)|(with_reducible refine Mods.setCell ?_ (fun hlt=>(by first|(simp at hlt;done)|(simp at hlt;omega)|(show _≤_;omega)|(show _<_;omega))) _)|(with_reducible refine Mods.trans ?_ hE))
   ·have h1:1099511627775<n:=by omega
    clear hnn
    go_enter Tryz.func103,Tryz.ntmps103
    go_wp2_with fail
    refine(H.out _).mono ?_
    rintro e w' ⟨rfl,hE⟩
    go_wp2
    go_ret
    refine⟨rfl,?_⟩
    repeat(first|(with_reducible exact Mods.refl _ _)|(with_reducible refine Mods.alloc ?_ _)|(with_reducible refine Mods.drew ?_)|(with_reducible refine Mods.setCell ?_ (fun hlt=>(by first|(simp at hlt;done)|(simp at hlt;omega)|(show _≤_;omega)|(show _<_;omega))) _)|(with_reducible refine Mods.trans ?_ hE))
def p0j (s t:Int)(i:Nat)(n:Int):Bool:=decide (0≤t-n)&&(decide (t-n<s)&&decide ((t-n).toNat=i))
theorem j0m (s t:Int)(acc:Nat)(n:Int)(i:Nat):(b0Y s t acc n).testBit i=(acc.testBit i||p0j s t i n):=by
 unfold b0Y p0j
 by_cases h1:0≤t-n
 ·by_cases h2:t-n<s
  ·rw[if_pos ⟨h1,h2⟩,Nat.testBit_or,Nat.testBit_two_pow]
   simp only[h1,h2,decide_true,Bool.true_and]
  ·rw[if_neg fun h=>h2 h.2];simp[h2]
 ·rw[if_neg fun h=>h1 h.1,decide_eq_false h1];simp
theorem e0b (s t:Int)(i:Nat): ∀(l:List Int) (acc:Nat),(l.foldl (b0Y s t) acc).testBit i=(acc.testBit i||l.any (p0j s t i))
 | [],acc=>by simp
 |n::l,acc=>by
  rw[List.foldl_cons,e0b s t i l,j0m,List.any_cons,Bool.or_assoc]
theorem p0a (s t:Int)(l:List Int)(i:Nat):(d0s s t l).testBit i=l.any (p0j s t i):=by
 unfold d0s
 rw[e0b];simp
theorem i0i (t:Int)(b:Nat)(n:Int):n∈a0V t b 64↔ ∃j:Nat,j<64∧b.testBit j=true∧n=t-(j:Int):=by
 unfold a0V
 simp only[List.mem_map,List.mem_filter,List.mem_range]
 constructor
 ·rintro⟨q,⟨hq,hb⟩,rfl⟩
  exact⟨63-q,by omega,hb,rfl⟩
 ·rintro⟨j,hj,hb,rfl⟩
  exact⟨63-j,⟨by omega,by rw[show 63-(63-j)=j by omega];exact hb⟩,by rw[show 63-(63-j)=j by omega]⟩
theorem p0V (s:Int)(b k i:Nat):(accGt s b k).testBit i=((decide (k≤i)&&b.testBit (i-k)&&decide (i<64)&&decide ((i:Int)<s))||decide (i=0)):=by
 unfold accGt
 rw[Nat.testBit_or,Nat.testBit_and,g0p,Nat.testBit_mod_two_pow,Nat.testBit_mul_two_pow,show(1:Nat)=2^0 from rfl,Nat.testBit_two_pow]
 have e:decide (0=i)=decide (i=0):=by rw[decide_eq_decide];omega
 rw[e]
 by_cases h1:i<64<;>by_cases h2:(i:Int)<s<;>simp[h1,h2]
theorem r0d (s t:Int)(b:Nat)(n:Int)(hb64:b<2^64)(h:a0O s t b false n=0)(hv:a0Q s t b false=true):d0s s (accT t n) (a0V t b 64++[n])=u0n s t b n:=by
 obtain⟨⟨g1,g2,g3,g4⟩,g5,g6, -,g7⟩:=b0h h
 have hok: ∀i,i<64→b.testBit i=true→(i:Int)<s∧(i:Int)≤t:=by
  simp only[a0Q,Bool.and_eq_true,cF,if_false]at hv
  exact(h0q s t b).1 hv.2.1
 apply Nat.eq_of_testBit_eq
 intro i
 rw[p0a,List.any_append]
 have hany: ∀T:Int,(a0V t b 64).any (p0j s T i)=true↔ ∃j:Nat,j<64∧b.testBit j=true∧0≤T-(t-(j:Int))∧T-(t-(j:Int))<s∧(T-(t-(j:Int))).toNat=i:=by
  intro T
  rw[List.any_eq_true]
  constructor
  ·rintro⟨x,hx,hh⟩
   obtain⟨j,hj,hb,rfl⟩:=(i0i t b x).1 hx
   simp only[p0j,Bool.and_eq_true,cQ]at hh
   exact⟨j,hj,hb,hh.1,hh.2.1,hh.2.2⟩
  ·rintro⟨j,hj,hb,h1,h2,h3⟩
   exact⟨_,(i0i t b _).2 ⟨j,hj,hb,rfl⟩,by simp only[p0j,Bool.and_eq_true,cQ];exact⟨h1,h2,h3⟩⟩
 unfold accT u0n
 by_cases hgt:t<n
 ·simp only[if_pos hgt]
  rw[p0V,Bool.eq_iff_iff]
  simp only[Bool.or_eq_true,hany,List.any_cons,List.any_nil,Bool.or_false,Bool.and_eq_true,cQ]
  constructor
  ·rintro(⟨j,hj,hb,h1,h2,h3⟩|hh)
   ·left
    refine⟨⟨⟨by omega,?_⟩,by omega⟩,by omega⟩
    rw[show i-(n-t).toNat=j by omega];exact hb
   ·right
    simp only[p0j,Bool.and_eq_true,cQ]at hh
    omega
  ·rintro(⟨⟨⟨h1,h2⟩,h3⟩,h4⟩|h0)
   ·left
    exact⟨i-(n-t).toNat,by omega,h2,by omega,by omega,by omega⟩
   ·right
    simp only[p0j,Bool.and_eq_true,cQ]
    omega
 ·simp only[if_neg hgt]
  unfold accLe
  rw[Nat.testBit_or,Nat.testBit_two_pow,Bool.eq_iff_iff]
  simp only[Bool.or_eq_true,hany,List.any_cons,List.any_nil,Bool.or_false,Bool.and_eq_true,cQ]
  constructor
  ·rintro(⟨j,hj,hb,h1,h2,h3⟩|hh)
   ·left
    rw[show i=j by omega];exact hb
   ·right
    simp only[p0j,Bool.and_eq_true,cQ]at hh
    exact hh.2.2
  ·rintro(h1|h1)
   ·left
    have hi:i<64:=by
     rcases Nat.lt_or_ge i 64 with h|h
     ·exact h
     ·rw[Nat.testBit_lt_two_pow (Nat.lt_of_lt_of_le hb64 (Nat.pow_le_pow_right (by decide) h))]at h1;cases h1
    have:=hok i hi h1
    exact⟨i,hi,h1,by omega,by omega,by omega⟩
   ·right
    simp only[p0j,Bool.and_eq_true,cQ]
    omega
end Go.Proofs.YtojomcdjcpmnkaaGreat.W
namespace Go.Proofs.YtojomcdjcpmnkaaGreat.L
open Go.RowKit
theorem Mods.undrew {S:Nat→Prop}{w w':World}(h:Mods S w w'):Mods S w.drew w':=⟨h.os,h.tape,h.output,h.size,h.block⟩
def f0l (Q:Act→World→Prop):Exit→Act→World→Prop
 | .normal,a,w=>Q a w
 |_,_,_=>False
@[go_sem] theorem c0t (Q:Act→World→Prop) (a:Act) (w:World):f0l Q .normal a w=Q a w:=rfl
@[go_sem] theorem t0J (Q:Act→World→Prop) (c:List PanicEntry) (a:Act) (w:World):f0l Q (.panic c) a w=False:=rfl
def b0t (P:Program)(ops:Array Oper)(w0:World)(wv:Nat→Bool)(Q:Act→World→Prop):Nat→Array Bool→Act→World→Prop
 |0,listed,a,w=>Region.ready .any ops listed= []∧Q a w
 |fuel+1,listed,a,w=>(Region.ready .any ops listed= []→Q a w)∧
  ∀i∈Region.ready .any ops listed,wpOp P ops (f0l Q) i (fun a' w'=>(wv i=false→Ext w0 w')∧b0t P ops w0 wv Q fuel (listed.setIfInBounds i true) a' w') a w
section
variable {P:Program}{ops:Array Oper}{Q:Act→World→Prop}{w0:World}{wv:Nat→Bool}
theorem h0c: ∀(fuel:Nat) (listed:Array Bool) (a:Act) (w:World),b0t P ops w0 wv Q fuel listed a w→wpAny P .any ops (f0l Q) fuel listed a w
 |0,_,_,_,h=>h
 |fuel+1,_,_,_,h=>⟨h.1,fun i hi=>wpOp_mono (fun a' w' h'=>h0c fuel _ a' w' h'.2) (h.2 i hi)⟩
theorem f0S {id:Nat}{l:List Oper}{Q:Exit→Act→World→Prop}{a:Act}{w:World}(wv:Nat→Bool)(hm:P.follows .mixedOrders=true)
  (h:b0t P l.toArray w.drew wv (fun a' w'=>Q .normal a' w') l.length (Array.replicate l.length false) a w.drew):(Code.region id l.toArray true).wp P Q a w:=by
 refine wp_mono (Q:=f0l fun a' w'=>Q .normal a' w') ?_ fun e a' w' he=> ?_
 ·refine wp_region_any hm ?_
  have:=h0c _ _ _ _ h
  simpa using this
 ·cases e<;>first|exact he|exact(he:False).elim
def c0A (o:Oper)(j:Nat):Bool:=o.after.any fun e=>Region.binds .any e&&e.on==j
theorem c0o {o:Oper}{j:Nat}(h:c0A o j=true): ∃x∈o.after,Region.binds .any x=true∧x.on=j:=by
 obtain⟨x,hx,hx2⟩:=e0i h
 simp only[Bool.and_eq_true,beq_iff_eq]at hx2
 exact⟨x,hx,hx2.1,hx2.2⟩
def h0L (ops:Array Oper)(listed:Array Bool)(wv:Nat→Bool)(E before:List Nat)(size i:Nat):Bool:=
 (ops[i]?).any fun o=>e0e o&& !listed.getD i true&&(match o.dst with
  | some d=>decide (d<size)&& !(o.looksAt ops).contains d&&
   (o.after.all fun e=> !Region.binds .any e||listed.getD e.on false||before.contains e.on)&&
   (List.range ops.size).all fun j=>j==i||listed.getD j true||(ops[j]?).all fun oj=>
    oj.dst !=some d&&(match oj.dst with|some dj=> !(o.looksAt ops).contains dj||(before.contains j&&c0A o j)|none=>true)&&
    (E.contains j||((!(oj.looksAt ops).contains d||c0A oj i)&&(!wv j||c0A oj i)))
  |none=>false)
def d0V (ops:Array Oper)(listed:Array Bool)(wv:Nat→Bool)(E:List Nat)(size:Nat):List Nat→List Nat→Bool
 |_,[]=>true
 |before,i::rest=>h0L ops listed wv E before size i&& !before.contains i&&d0V ops listed wv E size (before++[i]) rest
def c0a (ops:Array Oper)(i:Nat):Tmp:=((ops[i]?).bind (·.dst)).getD 0
structure Took (ops:Array Oper) (listed:Array Bool) (wv:Nat→Bool) (E:List Nat) (size i:Nat):Prop where
 ex: ∃o,ops[i]? =some o∧e0e o=true∧o.dst=some (c0a ops i)∧c0a ops i∉o.looksAt ops
 free:listed.getD i true=false
 lt:c0a ops i<size
 own: ∀j oj,ops[j]? =some oj→j≠i→listed.getD j true=false→oj.dst≠some (c0a ops i)
 looks: ∀o j oj dj,ops[i]? =some o→ops[j]? =some oj→j≠i→listed.getD j true=false→oj.dst=some dj→dj∈o.looksAt ops→j∈E∧c0A o j=true
 read: ∀j oj,ops[j]? =some oj→j≠i→listed.getD j true=false→j∉E→(c0a ops i∈oj.looksAt ops→c0A oj i=true)∧(wv j=true→c0A oj i=true)
theorem c0Q {listed:Array Bool}{E before:List Nat}{size i:Nat}(h:h0L ops listed wv E before size i=true)(hb: ∀j∈before,j∈E):
  Took ops listed wv E size i∧ ∀o,ops[i]? =some o→ ∀e∈o.after,Region.binds .any e=true→listed.getD e.on false=true∨e.on∈before:=by
 unfold h0L at h
 cases ho:ops[i]?with
 |none=>rw[ho]at h;cases h
 |some o=>
 rw[ho]at h
 simp only[Option.any_some]at h
 simp only[Bool.and_eq_true,Bool.not_eq_true']at h
 obtain⟨⟨hpl,hfr⟩,h⟩:=h
 split at h
 ·rename_i d hd
  simp only[Bool.and_eq_true,cQ,Bool.not_eq_true',List.contains_eq_mem,decide_eq_false_iff_not,List.all_eq_true,List.mem_range]at h
  obtain⟨⟨⟨hlt,hself⟩,hback⟩,hall⟩:=h
  have hdi:c0a ops i=d:=by simp[c0a,ho,hd]
  have pair: ∀j oj,ops[j]? =some oj→j≠i→listed.getD j true=false→
    oj.dst≠some d∧(∀dj,oj.dst=some dj→dj∈o.looksAt ops→j∈before∧c0A o j=true)∧(j∉E→(d∈oj.looksAt ops→c0A oj i=true)∧(wv j=true→c0A oj i=true)):=by
   intro j oj hoj hji hlj
   have hjs:j<ops.size:=(Array.getElem?_eq_some_iff.1 hoj).1
   have:=hall j hjs
   simp only[hoj,hlj,Option.all_some,Bool.or_eq_true,beq_iff_eq,hji,false_or,Bool.and_eq_true,bne_iff_ne,ne_eq,cF,or_false,cQ,Bool.not_eq_true',decide_eq_false_iff_not]at this
   obtain⟨⟨h1,h2⟩,h3⟩:=this
   refine⟨h1,fun dj hdj hm=> ?_,fun hjE=> ?_⟩
   ·rw[hdj]at h2
    simp only[Bool.or_eq_true,Bool.and_eq_true,Bool.not_eq_true',decide_eq_false_iff_not,cQ]at h2
    exact h2.resolve_left fun hn=>hn hm
   ·have h4:=h3.resolve_left hjE
    refine⟨fun hm=>h4.1.resolve_left fun hn=>hn hm,fun hw=>h4.2.resolve_left fun hn=>by rw[hw]at hn;cases hn⟩
  refine⟨⟨⟨o,ho,hpl,by rw[hdi];exact hd,by rw[hdi];exact hself⟩,hfr,by rw[hdi];exact hlt,fun j oj hoj hji hlj=>by rw[hdi];exact(pair j oj hoj hji hlj).1,?_,?_⟩,?_⟩
  ·intro o' j oj dj ho' hoj hji hlj hdj hm
   obtain rfl:o=o':=by rw[ho]at ho';exact Option.some.inj ho'
   have:=(pair j oj hoj hji hlj).2.1 dj hdj hm
   exact⟨hb j this.1,this.2⟩
  ·intro j oj hoj hji hlj hjE
   rw[hdi];exact(pair j oj hoj hji hlj).2.2 hjE
  ·intro o' ho' e he hbe
   obtain rfl:o=o':=Option.some.inj ho'
   have:=Array.all_eq_true_iff_forall_mem.1 hback e he
   simp only[hbe,Bool.not_true,Bool.false_or,Bool.or_eq_true,cQ]at this
   simpa using this
 ·cases h
theorem d0r {listed:Array Bool}{E:List Nat}{size k:Nat}: ∀(l2 b2:List Nat),d0V ops listed wv E size b2 l2=true→k∈b2→k∉l2:=by
 intro l2
 induction l2 with
 |nil=>intro b2 _ _ hm;cases hm
 |cons x l2 ih2=>
  intro b2 hk hb hm
  simp only[d0V,Bool.and_eq_true,Bool.not_eq_true',List.contains_eq_mem,decide_eq_false_iff_not]at hk
  rcases List.mem_cons.1 hm with e|hm
  ·exact hk.1.2 (e▸hb)
  ·exact ih2 _ hk.2 (List.mem_append_left _ hb) hm
theorem f0o {o:Oper}{A B:Act}(hsz:A.tmps.size=B.tmps.size)(hag: ∀t∈o.looksAt ops,A.eval (.tmp t)=B.eval (.tmp t)):
  Region.wanted o (yielded ops A.tmps)=Region.wanted o (yielded ops B.tmps):=by
 unfold Region.wanted
 cases hg:o.guard with
 |none=>rfl
 | some gw=>
  obtain⟨g,want⟩:=gw
  have hy:yielded ops A.tmps g=yielded ops B.tmps g:=by
   unfold yielded
   cases ht:(ops[g]?).bind (·.dst)with
   |none=>rfl
   | some t=>
    have he:=hag t (List.mem_append_right _ (by simp[hg,ht]))
    by_cases hts:t<A.tmps.size
    ·have hts':t<B.tmps.size:=by rw[←hsz];exact hts
     simp[Act.eval,Array.getD,hts,hts']at he
     simp[hts,hts',he]
    ·have hts': ¬t<B.tmps.size:=by rw[←hsz];exact hts
     simp[hts,hts']
  simp only[hy]
theorem m0X {o:Oper}{A B:Act}(hns: ∀cs b,o.op≠ .select cs b)(hag: ∀t∈o.looksAt ops,A.eval (.tmp t)=B.eval (.tmp t)):execOp A.eval o=execOp B.eval o:=
 execOp_congr o hns fun x hx=>by
  cases x with
  |tmp t=>exact hag t (List.mem_append_left _ (List.mem_filterMap.2 ⟨.tmp t,by simpa using hx,rfl⟩))
  |_=>rfl
theorem m0C {listed:Array Bool}{E:List Nat}{C:World→Prop}{Q':Act→Prop}: ∀(is before:List Nat) (l:List Oper) (a:Act),d0V ops listed wv E a.tmps.size before is=true→(∀j∈before++is,j∈E)→
  is.map (fun i=>ops[i]?)=l.map some→wpQuiet P ops C Q' l a→
  ∃a1:Act,Q' a1∧a1.tmps.size=a.tmps.size∧a1.defers=a.defers∧(∀t,(∀i∈is,c0a ops i≠t)→a1.eval (.tmp t)=a.eval (.tmp t))∧
   (∀i∈is,Took ops listed wv E a.tmps.size i)∧(∀i∈is,∀o,ops[i]? =some o→YieldsIn P ops C o (a1.eval (.tmp (c0a ops i))) a1):=by
 intro is
 induction is with
 |nil=>
  intro before l a _ _ hl h
  cases l with
  |nil=>exact⟨a,h,rfl,rfl,fun _ _=>rfl,fun i hi=>(by cases hi),fun i hi=>(by cases hi)⟩
  |cons o l=>simp at hl
 | cons i is ih=>
  intro before l a hok hsub hl h
  cases l with
  |nil=>simp at hl
  | cons o l=>
   simp only[List.map_cons,List.cons.injEq]at hl
   obtain⟨ho,hl⟩:=hl
   simp only[d0V,Bool.and_eq_true]at hok
   obtain⟨⟨hat,hnb⟩,hok⟩:=hok
   obtain⟨hT,_⟩:=c0Q hat fun j hj=>hsub j (List.mem_append_left _ hj)
   obtain⟨o',ho',hpl,hd,hself⟩:=hT.ex
   obtain rfl:o=o':=by rw[ho]at ho';exact Option.some.inj ho'
   have hstep: ∃v,YieldsIn P ops C o v a∧wpQuiet P ops C Q' l (a.put o.dst v):=by
    unfold wpQuiet at h
    split at h
    ·rename_i hw
     obtain⟨v,h1,h2⟩:=h
     exact⟨v,.inl ⟨hw,h1⟩,h2⟩
    ·rename_i hw
     exact⟨undef,.inr ⟨by simpa using hw,rfl⟩,h⟩
   obtain⟨v,hy,hq⟩:=hstep
   rw[hd]at hq
   have hsz:(a.put (some (c0a ops i)) v).tmps.size=a.tmps.size:=by simp[Act.put]
   obtain⟨a1,hQ,h1,h2,h3,h4,h5⟩:=ih (before++[i]) l _ (by rw[hsz];exact hok) (fun j hj=>hsub j (by simpa using hj)) hl hq
   rw[hsz]at h1 h4
   have hne: ∀j∈is,c0a ops j≠c0a ops i:=fun j hj e=>by
    have hTj:=h4 j hj
    obtain⟨oj,hoj,_,hdj,_⟩:=hTj.ex
    by_cases hji:i=j
    ·
     subst hji
     exact d0r is (before++[i]) hok (by simp) hj
    ·exact hTj.own i o ho hji hT.free (by rw[hd,e])
   refine⟨a1,hQ,h1,by rw[h2];simp[Act.put],?_,?_,?_⟩
   ·intro t ht
    rw[h3 t fun j hj=>ht j (List.mem_cons_of_mem _ hj),a0d (ht i (List.mem_cons_self ..))]
   ·intro j hj
    rcases List.mem_cons.1 hj with rfl|hj
    ·exact hT
    ·exact h4 j hj
   ·intro j hj oj hoj
    rcases List.mem_cons.1 hj with rfl|hj
    ·obtain rfl:o=oj:=by rw[ho]at hoj;exact Option.some.inj hoj
     have hv:a1.eval (.tmp (c0a ops j))=v:=by rw[h3 _ hne,a0t hT.lt]
     rw[hv]
     have hag: ∀t∈o.looksAt ops,a1.eval (.tmp t)=a.eval (.tmp t):=fun t ht=>by
      have hjt:c0a ops j≠t:=fun e=>hself (by rw[e];exact ht)
      have hkt: ∀k∈is,c0a ops k≠t:=fun k hk e=>by
       have hTk:=h4 k hk
       obtain⟨ok,hok',_,hdk,_⟩:=hTk.ex
       by_cases hkj:k=j
       ·subst hkj;exact hjt e
       ·have:=hT.looks o k ok _ ho hok' hkj hTk.free hdk (by rw[e];exact ht)
        obtain⟨x,hx,hxb,hxo⟩:=c0o this.2
        have hb2:=(c0Q hat fun j hj=>hsub j (List.mem_append_left _ hj)).2 o ho x hx hxb
        rw[hxo]at hb2
        rcases hb2 with hb2|hb2
        ·have hf:=hTk.free
         by_cases hks:k<listed.size
         ·rw[b0a hks,hb2]at hf;cases hf
         ·simp[Array.getD,hks]at hf
        ·exact d0r is (before++[j]) hok (List.mem_append_left _ hb2) hk
      rw[h3 t hkt,a0d hjt]
     refine hy.of_same (execOp_congr o ?_ fun x hx=> ?_) ?_
     ·intro cs b e;simp[e0e,e]at hpl
     ·cases x with
      |tmp t=>exact hag t (List.mem_append_left _ (List.mem_filterMap.2 ⟨.tmp t,by simpa using hx,rfl⟩))
      |_=>rfl
     ·exact f0o h1 hag
    ·exact h5 j hj oj hoj
theorem l0U {listed:Array Bool}{i:Nat}(h:listed.getD i true=false):i<listed.size∧listed.getD i false=false:=by
 by_cases hs:i<listed.size
 ·exact⟨hs,by rw[←b0a hs];exact h⟩
 ·simp[Array.getD,hs]at h
theorem f0r {listed:Array Bool}{i:Nat}(hs:i<listed.size)(h:listed.getD i false=false):listed.getD i true=false:=by rw[b0a hs];exact h
theorem i0J {listed:Array Bool}{E:List Nat}{size:Nat}: ∀(l1 before:List Nat) (i:Nat) (l2:List Nat),d0V ops listed wv E size before (l1++i::l2)=true→(∀j∈before++(l1++i::l2),j∈E)→
  ∀o,ops[i]? =some o→ ∀e∈o.after,Region.binds .any e=true→listed.getD e.on false=true∨e.on∈before++l1:=by
 intro l1
 induction l1 with
 |nil=>
  intro before i l2 h hsub
  simp only[cN,d0V,Bool.and_eq_true]at h
  have:=(c0Q h.1.1 fun j hj=>hsub j (List.mem_append_left _ hj)).2
  simpa using this
 |cons x l1 ih=>
  intro before i l2 h hsub
  simp only[cA,d0V,Bool.and_eq_true]at h
  have:=ih (before++[x]) i l2 h.2 (fun j hj=>hsub j (by simpa using hj))
  simpa using this
structure GInv (P:Program) (ops:Array Oper) (w0:World) (wv:Nat→Bool) (E:List Nat) (listed0 listed:Array Bool) (A:Act) (W:World) (listedB:Array Bool) (B:Act):Prop where
 s1:listed.size=ops.size
 s2:listedB.size=ops.size
 mono: ∀i,listed0.getD i false=true→listed.getD i false=true
 both: ∀i,i<ops.size→listedB.getD i false=(listed.getD i false||decide (i∈E))
 tmps:A.tmps.size=B.tmps.size
 defers:A.defers=B.defers
 same: ∀t,(∀i∈E,listed.getD i false=false→c0a ops i≠t)→A.eval (.tmp t)=B.eval (.tmp t)
 pend: ∀i∈E,listed.getD i false=false→ ∀o,ops[i]? =some o→YieldsIn P ops (fun w=> ∃x:SW w0,w=x.w) o (B.eval (.tmp (c0a ops i))) B
 ext:(∃i∈E,listed.getD i false=false)→Ext w0 W
theorem x0k {E:List Nat}{listed0:Array Bool}{size0:Nat}(hsel: ∀(j:Nat) (o:Oper) cs b,ops[j]? =some o→o.op≠ .select cs b)(hs0:listed0.size=ops.size)
  (hT: ∀i∈E,Took ops listed0 wv E size0 i) (hord:d0V ops listed0 wv E size0 [] E=true):
  ∀(fuel:Nat) (listed:Array Bool) (A:Act) (W:World) (fuelB:Nat) (listedB:Array Bool) (B:Act),fuel=listed.toList.count false→fuelB=listedB.toList.count false→B.tmps.size=size0→
   GInv P ops w0 wv E listed0 listed A W listedB B→b0t P ops w0 wv Q fuelB listedB B W→b0t P ops w0 wv Q fuel listed A W:=by
 intro fuel
 induction fuel with
 | zero=>
  intro listed A W fuelB listedB B hc hcB hBs hI hK
  have hall: ∀i,i<ops.size→listed.getD i false=true:=by
   intro i hi
   have hi':i<listed.size:=by rw[hI.s1];exact hi
   cases hb:listed.getD i false with
   |true=>rfl
   |false=>
    exfalso
    have hm:false∈listed.toList:=by rw[←hb];simp[Array.getD,hi']
    have:=List.count_pos_iff.2 hm
    omega
  have hAB:A=B:=i0C hI.tmps hI.defers fun t=>hI.same t fun i hi hl=>by
   obtain⟨o,ho,_⟩:=(hT i hi).ex
   rw[hall i (Array.getElem?_eq_some_iff.1 ho).1]at hl;cases hl
  have hLB:listedB=listed:=by
   apply Array.ext (by rw[hI.s1,hI.s2])
   intro i h1 h2
   have h3:i<ops.size:=by rw[←hI.s1];exact h2
   have:=hI.both i h3
   rw[hall i h3]at this
   have h4:=hall i h3
   simp[Array.getD,h1,h2]at this h4
   rw[this,h4]
  subst hAB
  subst hLB
  have:fuelB=0:=by omega
  subst this
  exact hK
 | succ fuel ih=>
  intro listed A W fuelB listedB B hc hcB hBs hI hK
  have hready_lt: ∀{L:Array Bool} {i:Nat},i∈Region.ready .any ops L→i<ops.size:=fun hi=>by
   obtain⟨_,o,ho,_⟩:=mem_ready.1 hi
   exact(Array.getElem?_eq_some_iff.1 ho).1
  have hun0: ∀j,j<ops.size→listed.getD j false=false→listed0.getD j true=false:=fun j hj hl=>by
   rw[b0a (by rw[hs0];exact hj)]
   cases hb:listed0.getD j false with
   |false=>rfl
   |true=>rw[hI.mono j hb]at hl;cases hl
  have hfirst:(∃i∈E,listed.getD i false=false)→Region.ready .any ops listed≠ []:=by
   rintro⟨i,hiE,hil⟩ hempty
   have key: ∀(l2 l1:List Nat),E=l1++l2→(∀j∈l1,listed.getD j false=true)→ ∀j∈l2,listed.getD j false=true:=by
    intro l2
    induction l2 with
    |nil=>intro _ _ _ j hj;cases hj
    | cons x l2 ih2=>
     intro l1 hE hl1
     have hx:listed.getD x false=true:=by
      cases hb:listed.getD x false with
      |true=>rfl
      | false=>
       exfalso
       obtain⟨o,ho,_⟩:=(hT x (by rw[hE];simp)).ex
       have hxs:=(Array.getElem?_eq_some_iff.1 ho).1
       have hr:x∈Region.ready .any ops listed:=mem_ready.2 ⟨f0r (by rw[hI.s1];exact hxs) hb,o,ho,fun e he hbe=>by
        have:=i0J l1 [] x l2 (by rw[←hE];exact hord) (fun j hj=>by rw[hE];simpa using hj) o ho e he hbe
        rcases this with h|h
        ·exact hI.mono _ h
        ·exact hl1 _ (by simpa using h)⟩
       rw[hempty]at hr;cases hr
     intro j hj
     rcases List.mem_cons.1 hj with rfl|hj
     ·exact hx
     ·exact ih2 (l1++[x]) (by rw[hE];simp) (fun k hk=>by
       rcases List.mem_append.1 hk with hk|hk
       ·exact hl1 k hk
       ·rw[List.mem_singleton.1 hk];exact hx) j hj
   have:=key E [] rfl (fun j hj=>by cases hj) i hiE
   rw[hil]at this;cases this
  have hdone:(¬ ∃i∈E,listed.getD i false=false)→A=B∧listedB=listed:=fun hno=>by
   have hAB:A=B:=i0C hI.tmps hI.defers fun t=>hI.same t fun i hi hl=>absurd ⟨i,hi,hl⟩ hno
   refine⟨hAB,Array.ext (by rw[hI.s1,hI.s2]) fun i h1 h2=> ?_⟩
   have h3:i<ops.size:=by rw[←hI.s1];exact h2
   have:=hI.both i h3
   cases hb:listed.getD i false with
   |true=>
    rw[hb]at this
    simp[Array.getD,h1,h2]at this hb
    rw[this,hb]
   |false=>
    have hnE:i∉E:=fun hE=>hno ⟨i,hE,hb⟩
    rw[hb]at this
    simp[Array.getD,h1,h2,hnE]at this hb
    rw[this,hb]
  have hfuelB:(∃j,j<ops.size∧listedB.getD j false=false)→ ∃f,fuelB=f+1:=by
   rintro⟨j,hj,hl⟩
   have hj':j<listedB.size:=by rw[hI.s2];exact hj
   have hm:false∈listedB.toList:=by rw[←hl];simp[Array.getD,hj']
   have:=List.count_pos_iff.2 hm
   exact⟨fuelB-1,by omega⟩
  refine⟨fun hempty=> ?_,fun i hi=> ?_⟩
  ·have hno: ¬ ∃i∈E,listed.getD i false=false:=fun h=>hfirst h hempty
   obtain⟨hAB,hLB⟩:=hdone hno
   subst hAB
   subst hLB
   cases fuelB with
   |zero=>exact hK.2
   |succ f=>exact hK.1 hempty
  ·obtain⟨h0,o,ho,hdeps⟩:=mem_ready.1 hi
   obtain⟨hil,hif⟩:=l0U h0
   have hio:=hready_lt hi
   have hcs:=a0T listed.toList i (by simpa using hil) (by simpa[Array.getD,hil]using hif)
   have hlook: ∀j∈E,listed.getD j false=false→j≠i→c0a ops j∉o.looksAt ops:=fun j hjE hjl hji hm=>by
    obtain⟨oj,hoj,_,hdj,_⟩:=(hT j hjE).ex
    have hjs:=(Array.getElem?_eq_some_iff.1 hoj).1
    by_cases hiE:i∈E
    ·have:=(hT i hiE).looks o j oj _ ho hoj hji (hun0 j hjs hjl) hdj hm
     obtain⟨x,hx,hxb,hxo⟩:=c0o this.2
     have:=hdeps x hx hxb
     rw[hxo,hjl]at this;cases this
    ·have:=((hT j hjE).read i o ho (Ne.symm hji) (hun0 i hio hif) hiE).1 hm
     obtain⟨x,hx,hxb,hxo⟩:=c0o this
     have:=hdeps x hx hxb
     rw[hxo,hjl]at this;cases this
   have hag: ∀t∈o.looksAt ops,A.eval (.tmp t)=B.eval (.tmp t):=fun t ht=>hI.same t fun j hjE hjl e=>by
    by_cases hji:j=i
    ·subst hji
     obtain⟨o',ho',_,_,hself⟩:=(hT j hjE).ex
     obtain rfl:o=o':=by rw[ho]at ho';exact Option.some.inj ho'
     exact hself (by rw[e];exact ht)
    ·exact hlook j hjE hjl hji (by rw[e];exact ht)
   have hexec:=m0X (fun cs b=>hsel i o cs b ho) hag
   have hwant:=f0o (ops:=ops) hI.tmps hag
   by_cases hiE:i∈E
   ·
    obtain⟨o',ho',hpl,hd,hself⟩:=(hT i hiE).ex
    obtain rfl:o=o':=by rw[ho]at ho';exact Option.some.inj ho'
    have hW:=hI.ext ⟨i,hiE,hif⟩
    have hlt:=(hT i hiE).lt
    have hnext:b0t P ops w0 wv Q fuel (listed.setIfInBounds i true) (A.put o.dst (B.eval (.tmp (c0a ops i)))) W:=by
     refine ih _ _ _ fuelB listedB B (by simp only[Array.toList_setIfInBounds];omega) hcB hBs ⟨by simpa using hI.s1,hI.s2,?_,?_,?_,?_,?_,?_,?_⟩ hK
     ·intro j hj
      by_cases hji:j=i
      ·subst hji;simp[Array.getD,hil]
      ·rw[getD_set_ne false (Ne.symm hji)];exact hI.mono j hj
     ·intro j hj
      by_cases hji:j=i
      ·subst hji;rw[hI.both j hj];simp[Array.getD,hil,hiE]
      ·rw[getD_set_ne false (Ne.symm hji)];exact hI.both j hj
     ·rw[hd];simp[Act.put,hI.tmps]
     ·rw[hd];simp[Act.put,hI.defers]
     ·intro t ht
      rw[hd]
      by_cases e:c0a ops i=t
      ·subst e;rw[a0t (by rw[hI.tmps,hBs];exact hlt)]
      ·rw[a0d e]
       refine hI.same t fun j hjE hjl=> ?_
       by_cases hji:j=i
       ·subst hji;exact e
       ·exact ht j hjE (by rw[getD_set_ne false (Ne.symm hji)];exact hjl)
     ·intro j hjE hjl oj hoj
      by_cases hji:j=i
      ·subst hji;simp[Array.getD,hil]at hjl
      ·rw[getD_set_ne false (Ne.symm hji)]at hjl;exact hI.pend j hjE hjl oj hoj
     ·rintro⟨j,hjE,hjl⟩
      exact hW
    have hy:=hI.pend i hiE hif o ho
    unfold wpOp
    rw[ho]
    show if Region.wanted o (yielded ops A.tmps)=true then _ else _
    rw[hwant]
    rcases hy with⟨hw,hq⟩|⟨hw,hv⟩
    ·rw[if_pos hw]
     refine .inl ?_
     have hq1:=hq W ⟨⟨W,hW⟩,rfl⟩
     have hne:=fun f args W'=>g0k (P:=P) hpl B.eval (W:=W) (W':=W') (f:=f) (args:=args)
     unfold Oper.quietAt at hq1
     unfold Oper.wp
     rw[hexec]
     generalize(execOp B.eval o).run P W=r at*
     cases r with
     | ok nx w'=>
      cases nx<;>simp only[Oper.quietUpon]at hq1<;>simp only[Oper.upon]
      case value u=>
       obtain⟨e1,e2⟩:=hq1
       rw[e1,e2];exact⟨fun _=>hW,hnext⟩
      case skip=>
       obtain⟨e1,e2⟩:=hq1
       rw[e1,←e2];exact⟨fun _=>hW,hnext⟩
      case enter f args=>exact absurd rfl (hne f args w')
     |halt x w'=>simp only[Oper.quietUpon]at hq1
    ·rw[if_neg (by rw[hw];simp)]
     rw[hv]at hnext
     exact⟨fun _=>hW,hnext⟩
   ·
    have hiB:listedB.getD i false=false:=by rw[hI.both i hio,hif];simp[hiE]
    obtain⟨f,rfl⟩:=hfuelB ⟨i,hio,hiB⟩
    have hiBl:i<listedB.size:=by rw[hI.s2];exact hio
    have hcsB:=a0T listedB.toList i (by simpa using hiBl) (by simpa[Array.getD,hiBl]using hiB)
    have hrB:i∈Region.ready .any ops listedB:=mem_ready.2 ⟨f0r hiBl hiB,o,ho,fun e he hbe=>by
     have h1:=hdeps e he hbe
     by_cases hes:e.on<ops.size
     ·rw[hI.both _ hes,h1];rfl
     ·simp[Array.getD,show ¬e.on<listed.size by rw[hI.s1];exact hes]at h1⟩
    have hop:=hK.2 i hrB
    have hnext: ∀(ds:List Deferred) v w',((wv i=false→Ext w0 w')∧b0t P ops w0 wv Q f (listedB.setIfInBounds i true) (({B with defers:=ds}:Act).put o.dst v) w')→
      ((wv i=false→Ext w0 w')∧b0t P ops w0 wv Q fuel (listed.setIfInBounds i true) (({A with defers:=ds}:Act).put o.dst v) w'):=by
     rintro ds v w' ⟨hE',hK'⟩
     have evA: ∀t,(({A with defers:=ds}:Act).put o.dst v).eval (.tmp t)=(A.put o.dst v).eval (.tmp t):=fun t=>by cases o.dst<;>rfl
     have evB: ∀t,(({B with defers:=ds}:Act).put o.dst v).eval (.tmp t)=(B.put o.dst v).eval (.tmp t):=fun t=>by cases o.dst<;>rfl
     refine⟨hE',ih _ _ _ f _ (({B with defers:=ds}:Act).put o.dst v) (by simp only[Array.toList_setIfInBounds];omega) (by simp only[Array.toList_setIfInBounds];omega) ?_ ⟨by simpa using hI.s1,by simpa using hI.s2,?_,?_,?_,?_,?_,?_,?_⟩ hK'⟩
     ·rw[←hBs];cases o.dst<;>simp[Act.put]
     ·intro j hj
      by_cases hji:j=i
      ·subst hji;simp[Array.getD,hil]
      ·rw[getD_set_ne false (Ne.symm hji)];exact hI.mono j hj
     ·intro j hj
      by_cases hji:j=i
      ·subst hji;simp[Array.getD,hil,hiBl]
      ·rw[getD_set_ne false (Ne.symm hji),getD_set_ne false (Ne.symm hji)];exact hI.both j hj
     ·cases o.dst<;>simp[Act.put,hI.tmps]
     ·cases o.dst<;>simp[Act.put]
     ·intro t ht
      rw[evA,evB]
      have hold:(∀d,o.dst=some d→d≠t)→(A.put o.dst v).eval (.tmp t)=(B.put o.dst v).eval (.tmp t):=fun hd=>by
       have h1:A.eval (.tmp t)=B.eval (.tmp t):=hI.same t fun j hjE hjl=>by
        by_cases hji:j=i
        ·exact absurd (hji▸hjE) hiE
        ·exact ht j hjE (by rw[getD_set_ne false (Ne.symm hji)];exact hjl)
       cases hdd:o.dst with
       |none=>exact h1
       |some d=>rw[a0d (hd d hdd),a0d (hd d hdd)];exact h1
      cases hdd:o.dst with
      |none=>rw[hdd]at hold;exact hold fun d hd=>by cases hd
      | some d=>
       by_cases e:d=t
       ·subst e
        by_cases hds:d<A.tmps.size
        ·rw[a0t hds,a0t (by rw[←hI.tmps];exact hds)]
        ·have hds': ¬d<B.tmps.size:=by rw[←hI.tmps];exact hds
         simp[Act.eval,Act.put,Array.getD,hds,hds']
       ·rw[hdd]at hold
        exact hold fun d' hd'=>by cases hd';exact e
     ·intro j hjE hjl oj hoj
      have hji:j≠i:=fun e=>hiE (e▸hjE)
      rw[getD_set_ne false (Ne.symm hji)]at hjl
      have hy:=hI.pend j hjE hjl oj hoj
      have hjs:=(Array.getElem?_eq_some_iff.1 hoj).1
      have hnl: ∀d,o.dst=some d→d∉oj.looksAt ops:=fun d hd hm=>hiE ((hT j hjE).looks oj i o d hoj ho (Ne.symm hji) (hun0 i hio hif) hd hm).1
      have hnd: ∀d,o.dst=some d→d≠c0a ops j:=fun d hd e=>(hT j hjE).own i o ho (Ne.symm hji) (hun0 i hio hif) (by rw[hd,e])
      have hv:(B.put o.dst v).eval (.tmp (c0a ops j))=B.eval (.tmp (c0a ops j)):=Act.eval_put fun d hd e=>hnd d hd (by injection e with e;exact e.symm)
      rw[evB,hv]
      have hyd:YieldsIn P ops (fun w=> ∃x:SW w0,w=x.w) oj (B.eval (.tmp (c0a ops j))) ({B with defers:=ds}:Act):=hy.of_same rfl rfl
      refine hyd.of_same (execOp_put oj (fun cs b=>hsel j oj cs b hoj) _ o.dst v hnl) (wanted_put oj _ o.dst v hnl)
     ·rintro⟨j,hjE,hjl⟩
      have hji:j≠i:=fun e=>hiE (e▸hjE)
      rw[getD_set_ne false (Ne.symm hji)]at hjl
      refine hE' ?_
      cases hwi:wv i with
      |false=>rfl
      |true=>
       exfalso
       have:=((hT j hjE).read i o ho (Ne.symm hji) (hun0 i hio hif) hiE).2 hwi
       obtain⟨x,hx,hxb,hxo⟩:=c0o this
       have:=hdeps x hx hxb
       rw[hxo,hjl]at this;cases this
    unfold wpOp at hop⊢
    rw[ho]at hop⊢
    show if Region.wanted o (yielded ops A.tmps)=true then _ else _
    have hop':if Region.wanted o (yielded ops B.tmps)=true then _ else _:=hop
    rw[hwant]
    split
    ·rename_i hw
     rw[if_pos hw]at hop'
     refine .inl ?_
     have hop2:=hop'.resolve_right (by rintro⟨_,_,_,hh⟩;exact(hh:False).elim)
     unfold Oper.wp at hop2⊢
     rw[hexec]
     generalize(execOp B.eval o).run P W=r at*
     cases r with
     | ok nx w'=>
      cases nx<;>simp only[Oper.upon]at hop2⊢
      case value u=>exact hnext B.defers u w' hop2|>fun h=>by have hd:=hI.defers;rw[←hd]at h;exact h
      case skip=>exact hnext B.defers undef w' hop2|>fun h=>by have hd:=hI.defers;rw[←hd]at h;exact h
      case defer dd=>exact hnext (dd::B.defers) undef w' hop2|>fun h=>by have hd:=hI.defers;rw[←hd]at h;exact h
      case enter g args=>
       refine Calls.mono hop2 fun e W' he=> ?_
       cases e with
       |returned u=>exact hnext B.defers u W' he|>fun h=>by have hd:=hI.defers;rw[←hd]at h;exact h
       |panicked ch=>exact(he:False).elim
       |outgrown=>obtain⟨_,_,hh⟩:=he;exact(hh:False).elim
      case row row args=>exact Rows.mono hop2 fun u W' he=>hnext B.defers u W' he|>fun h=>by have hd:=hI.defers;rw[←hd]at h;exact h
     |halt x w'=>cases x<;>simp only[Oper.upon]at hop2⊢ <;>exact(hop2:False).elim
    ·rename_i hw
     rw[if_neg hw]at hop'
     exact hnext B.defers undef W hop'|>fun h=>by have hd:=hI.defers;rw[←hd]at h;exact h
def e0o (listed:Array Bool)(E:List Nat):Array Bool:=E.foldl (fun L i=>L.setIfInBounds i true) listed
theorem k0f (E:List Nat): ∀listed:Array Bool,(e0o listed E).size=listed.size:=by
 induction E with
 |nil=>intro _;rfl
 |cons i E ih=>intro L;rw[show e0o L (i::E)=e0o (L.setIfInBounds i true) E from rfl,ih];simp
theorem m0p (E:List Nat): ∀(listed:Array Bool) (j:Nat),j<listed.size→(e0o listed E).getD j false=(listed.getD j false||decide (j∈E)):=by
 induction E with
 |nil=>intro L j _;simp[e0o]
 |cons i E ih=>
  intro L j hj
  rw[show e0o L (i::E)=e0o (L.setIfInBounds i true) E from rfl,ih _ _ (by simpa using hj)]
  by_cases hji:j=i
  ·subst hji;simp[Array.getD,hj]
  ·rw[getD_set_ne false (Ne.symm hji)];simp[hji]
def e0f (l:List Oper):List Nat→List Oper
 | []=> []
 |i::is=>match l[i]?with
  |some o=>o::e0f l is
  |none=>e0f l is
theorem j0a (l:List Oper): ∀(is:List Nat),(is.all fun i=>decide (i<l.length))=true→is.map (fun i=>l.toArray[i]?)=(e0f l is).map some
 | [],_=>rfl
 |i::is,h=>by
  simp only[List.all_cons,Bool.and_eq_true,cQ]at h
  have hi:l[i]? =some l[i]:=by simp[h.1]
  simp only[List.map_cons,e0f,hi,List.map_cons,j0a l is h.2]
  simp[h.1]
theorem G.take {l:List Oper}{a:Act}{w:World}{fuel:Nat}{listed:Array Bool}(E:List Nat)(listed':Array Bool)(fuel':Nat)(hns:Region.noSelect l.toArray=true)(hin:(E.all fun i=>decide (i<l.length))=true)
  (hok:d0V l.toArray listed wv E a.tmps.size [] E=true) (hsz:listed.size=l.toArray.size) (hf:fuel=listed.toList.count false) (hl':e0o listed E=listed') (hf':fuel'=listed'.toList.count false) (hE:Ext w0 w)
  (h:wpQuiet P l.toArray (fun w=> ∃x:SW w0,w=x.w) (fun a1=>b0t P l.toArray w0 wv Q fuel' listed' a1 w) (e0f l E) a):b0t P l.toArray w0 wv Q fuel listed a w:=by
 obtain⟨a1,hK,h1,h2,h3,h4,h5⟩:=m0C E [] (e0f l E) a hok (fun j hj=>by simpa using hj) (j0a l E hin) h
 subst hl'
 refine x0k (size0:=a.tmps.size) (E:=E) (listed0:=listed) (Region.noSelect_spec hns) hsz h4 hok fuel listed a w fuel' (e0o listed E) a1 hf hf' h1 ⟨hsz,by rw[k0f];exact hsz,fun _ h=>h,fun i hi=>m0p E listed i (by rw[hsz];exact hi),h1.symm,h2.symm,?_,fun i hi _ o ho=>h5 i hi o ho,fun _=>hE⟩ hK
 intro t ht
 refine(h3 t fun i hi=>ht i hi ?_).symm
 have hfr:=(h4 i hi).free
 exact(l0U hfr).2
theorem G.one {a:Act}{w:World}{fuel:Nat}{listed:Array Bool}(i:Nat){o:Oper}(listed':Array Bool)(ho:ops[i]? =some o)(hr:Region.ready .any ops listed= [i])(hl':listed.setIfInBounds i true=listed')(hw:Region.wanted o (yielded ops a.tmps)=true)
  (h:o.wp P a w (fun a' w'=>(wv i=false→Ext w0 w')∧b0t P ops w0 wv Q fuel listed' a' w') (f0l Q)):b0t P ops w0 wv Q (fuel+1) listed a w:=by
 subst hl'
 refine⟨fun e=>(by rw[hr]at e;cases e),fun j hj=> ?_⟩
 rw[hr]at hj
 obtain rfl:=List.mem_singleton.1 hj
 unfold wpOp
 rw[ho]
 show if Region.wanted o (yielded ops a.tmps)=true then _ else _
 rw[if_pos hw]
 exact .inl h
theorem G.call {a:Act}{w:World}{fuel:Nat}{listed:Array Bool}(i:Nat){o:Oper}(listed':Array Bool){f:FuncId}{fn:Func}{xs:Array Operand}{ats:Array TypeId}(ho:ops[i]? =some o)
  (hop:o.op= .call {callee:= .value (.func f),args:=xs,argTypes:=ats}) (hfn:P.funcs[f]? =some fn) (hn:(fn.name== "runtime.NumGoroutine")=false) (hb:fn.body.isNone=false)
  (hr:Region.ready .any ops listed= [i]) (hl':listed.setIfInBounds i true=listed') (hw:Region.wanted o (yielded ops a.tmps)=true) {args:Array Value} (hargs:xs.map a.eval=args)
  (h:Calls P f args w fun e w'=> ∃v,e= .returned v∧(wv i=false→Ext w0 w')∧b0t P ops w0 wv Q fuel listed' (a.put o.dst v) w'):b0t P ops w0 wv Q (fuel+1) listed a w:=by
 refine G.one i listed' ho hr hl' hw ?_
 unfold Oper.wp
 rw[b0P hop hfn hn hb,hargs]
 refine Calls.mono h fun e w' he=> ?_
 obtain⟨v,rfl,h1,h2⟩:=he
 exact⟨h1,h2⟩
theorem G.two {a:Act}{w:World}{fuel:Nat}{listed:Array Bool}(i j:Nat)(hr:Region.ready .any ops listed= [i,j])
  (h1:wpOp P ops (f0l Q) i (fun a' w'=>(wv i=false→Ext w0 w')∧b0t P ops w0 wv Q fuel (listed.setIfInBounds i true) a' w') a w)
  (h2:wpOp P ops (f0l Q) j (fun a' w'=>(wv j=false→Ext w0 w')∧b0t P ops w0 wv Q fuel (listed.setIfInBounds j true) a' w') a w):b0t P ops w0 wv Q (fuel+1) listed a w:=by
 refine⟨fun e=>(by rw[hr]at e;cases e),fun k hk=> ?_⟩
 rw[hr]at hk
 rcases List.mem_cons.1 hk with rfl|hk
 ·exact h1
 ·obtain rfl:=List.mem_singleton.1 hk
  exact h2
theorem G.wp {a:Act}{w:World}{K:Act→World→Prop}(i:Nat){o:Oper}(ho:ops[i]? =some o)(hw:Region.wanted o (yielded ops a.tmps)=true)(h:o.wp P a w K (f0l Q)):wpOp P ops (f0l Q) i K a w:=by
 unfold wpOp
 rw[ho]
 show if Region.wanted o (yielded ops a.tmps)=true then _ else _
 rw[if_pos hw]
 exact .inl h
theorem G.wpCall {a:Act}{w:World}{K:Act→World→Prop}(i:Nat){o:Oper}{f:FuncId}{fn:Func}{xs:Array Operand}{ats:Array TypeId}(ho:ops[i]? =some o)
  (hop:o.op= .call {callee:= .value (.func f),args:=xs,argTypes:=ats}) (hfn:P.funcs[f]? =some fn) (hn:(fn.name== "runtime.NumGoroutine")=false) (hb:fn.body.isNone=false)
  (hw:Region.wanted o (yielded ops a.tmps)=true) {args:Array Value} (hargs:xs.map a.eval=args)
  (h:Calls P f args w fun e w'=> ∃v,e= .returned v∧K (a.put o.dst v) w'):wpOp P ops (f0l Q) i K a w:=by
 refine G.wp i ho hw ?_
 unfold Oper.wp
 rw[b0P hop hfn hn hb,hargs]
 refine Calls.mono h fun e w' he=> ?_
 obtain⟨v,rfl,h1⟩:=he
 exact h1
theorem G.hide {Q':Exit→Act→World→Prop}{a:Act}{w:World}{o:Oper}{K0:Act→World→Prop}(h: ∀K:Act→World→Prop,(∀a w,K0 a w→K a w)→o.wp P a w K Q'):o.wp P a w K0 Q':=h K0 fun _ _ h=>h
theorem G.cast {a:Act}{w:World}{fuel:Nat}{listed:Array Bool}(listed':Array Bool)(hl:listed=listed')(h:b0t P ops w0 wv Q fuel listed' a w):b0t P ops w0 wv Q fuel listed a w:=by rw[hl];exact h
theorem G.done {a:Act}{w:World}(fuel:Nat){listed:Array Bool}(hr:Region.ready .any ops listed= [])(h:Q a w):b0t P ops w0 wv Q fuel listed a w:=by
 cases fuel with
 |zero=>exact⟨hr,h⟩
 |succ f=>exact⟨fun _=>h,fun i hi=>by rw[hr]at hi;cases hi⟩
def i0w (ops:Array Oper)(wv:Nat→Bool):Array Bool→List Nat→Bool
 |listed,[]=>Region.ready .any ops listed== []
 |listed,i::is=>(Region.ready .any ops listed== [i])&&wv i&&i0w ops wv (listed.setIfInBounds i true) is
theorem G.list {l:List Oper}: ∀(is:List Nat) (fuel:Nat) (listed:Array Bool) (a:Act) (w:World),fuel=is.length→(is.all fun i=>decide (i<l.length))=true→i0w l.toArray wv listed is=true→
  wpList P l.toArray (f0l Q) (e0f l is) a w→b0t P l.toArray w0 wv Q fuel listed a w
 | [],fuel,listed,a,w,hf,_,hc,h=>G.done fuel (by simpa[i0w]using hc) h
 | i::is,fuel,listed,a,w,hf,hin,hc,h=>by
  simp only[List.all_cons,Bool.and_eq_true,cQ]at hin
  simp only[i0w,Bool.and_eq_true,beq_iff_eq]at hc
  obtain⟨⟨hr,hwv⟩,hc⟩:=hc
  have hi:l[i]? =some l[i]:=by simp[hin.1]
  have ho:l.toArray[i]? =some l[i]:=by simp[hin.1]
  simp only[e0f,hi]at h
  subst hf
  have hK: ∀a' w',wpList P l.toArray (f0l Q) (e0f l is) a' w'→(wv i=false→Ext w0 w')∧b0t P l.toArray w0 wv Q is.length (listed.setIfInBounds i true) a' w':=fun a' w' h'=>
   ⟨fun e=>(by rw[hwv]at e;cases e),G.list is is.length _ a' w' rfl hin.2 hc h'⟩
  refine⟨fun e=>(by rw[hr]at e;cases e),fun j hj=> ?_⟩
  rw[hr]at hj
  obtain rfl:=List.mem_singleton.1 hj
  unfold wpList at h
  unfold wpOp
  rw[ho]
  show if Region.wanted l[j] (yielded l.toArray a.tmps)=true then _ else _
  split
  ·rename_i hw;rw[if_pos hw]at h;exact h.imp (Oper.wp_mono hK) id
  ·rename_i hw;rw[if_neg hw]at h;exact hK _ _ h
end
end Go.Proofs.YtojomcdjcpmnkaaGreat.L
namespace Go.Proofs.YtojomcdjcpmnkaaGreat.W
open Go.RowKit L
theorem n0Z {t:Int}{b:Nat}(h3: -1≤t)(h4:t≤1099511627775): ∀n∈a0V t b 64, -1099511627776≤n∧n≤1099511627776:=fun n hn=>by
 obtain⟨j,hj, -,rfl⟩:=(i0i t b n).1 hn
 omega
theorem f0D {w:World}{base e:Nat}{v:Value}{l:List Int}{x:Int}(h:w.ownsRow base e 1 v (l.length+1) (l.map (.int .i64)++[.int .i64 x])):reads (fun b=>base≤b) w v (l++[x]).length ((l++[x]).map (.int .i64)):=by
 have:=h0W h
 simpa using this
theorem m0A (s t:Int)(b:Nat)(n:Int)(w:World)(hs:i64In s)(ht:i64In t)(hb:b<2^64)(hn:i64In n)(h0:a0O s t b false n=0)(hgt: ¬t<n):
  Calls Tryz.prog 96 #[c0z s t b false,.int .i64 n] w fun e w'=>e= .returned (.tuple #[c0z s t (d0s s t (a0V t b 64++[n])) false,.int .i64 0])∧Ext w w':=by
 obtain⟨⟨g1,g2,g3,g4⟩,g5,g6, -,g7⟩:=b0h h0
 have hval:a0Q s t b false=true:=by
  unfold a0O at h0
  split at h0
  ·cases h0
  ·rename_i hr
   simp only[c0f]at hr
   cases hv:a0Q s t b false with
   |true=>rfl
   |false=>rw[hv]at hr;exact absurd rfl hr
 have hseen:=fun w=>i0O s t b false w hs ht hb
 rw[show h0R s t b false=a0V t b 64 from by simp[h0R,hval]]at hseen
 have HSEEN:=Lib.hid hseen
 have hq:=fun w=>d0F s t b false n w hs ht hb hn
 rw[h0]at hq
 have H:=Lib.hid hq
 have hsl:=e0P t b 64
 have hbd:=n0Z (b:=b) g3 g4
 have HBD:=Lib.hid hbd
 obtain⟨i0,hi,hz0,hz1,hz2⟩:=info_parts t0U
 clear hq h0 hs ht hn hseen hval hbd
 go_enter Tryz.func96,Tryz.ntmps96
 go_wp2_with fail
 refine(H.out _).mono ?_
 rintro e w' ⟨rfl,hE⟩
 obtain⟨hc1,hc2,hc3⟩:=hE.cells
 have hz:w.heap.size+1<w'.heap.size:=by simp at hc3;omega
 have hzz:w.heap.size<w'.heap.size:=by omega
 have k0:World.cell? w' ⟨w.heap.size,0,none⟩=some (.int .i64 s):=by simp[go_sem,hc1,hc2,hzz]
 have k1:World.cell? w' ⟨w.heap.size,1,none⟩=some (.int .i64 t):=by simp[go_sem,hc1,hc2,hzz]
 have k2:World.cell? w' ⟨w.heap.size,2,none⟩=some (.int .u64 (b:Int)):=by simp[go_sem,hc1,hc2,hzz]
 have k3:World.cell? w' ⟨w.heap.size,3,none⟩=some (.bool false):=by simp[go_sem,hc1,hc2,hzz]
 have kf: ∀o,World.frozen? w' ⟨w.heap.size,o,none⟩=false:=fun o=>by simp[go_sem,hc1,hc2,hzz]
 have r0:World.cell? w' ⟨w.heap.size+1,0,none⟩=some (.int .i64 0):=by simp[go_sem,hc1,hc2,hz]
 have r1:World.cell? w' ⟨w.heap.size+1,1,none⟩=some (.int .i64 0):=by simp[go_sem,hc1,hc2,hz]
 have r2:World.cell? w' ⟨w.heap.size+1,2,none⟩=some (.int .u64 0):=by simp[go_sem,hc1,hc2,hz]
 have r3:World.cell? w' ⟨w.heap.size+1,3,none⟩=some (.bool false):=by simp[go_sem,hc1,hc2,hz]
 have rf: ∀o,World.frozen? w' ⟨w.heap.size+1,o,none⟩=false:=fun o=>by simp[go_sem,hc1,hc2,hz]
 clear hc1 hc2 hc3
 go_wp2
 refine f0S (fun i=>Nat.ble 9 i) (by kernel_rfl) ?_
 refine G.take [0,1,2,3,5] #[true,true,true,true,false,true,false,false,false,false,false] 6 (by kernel_rfl) (by kernel_rfl) (by kernel_rfl) (by kernel_rfl) (by kernel_rfl) (by kernel_rfl) (by kernel_rfl) (Mods.refl _ _) ?_
 simp only[e0f,List.getElem?_cons_zero,List.getElem?_cons_succ]
 repeat(go_big_quiet_step (fail))
 refine wpQuiet_nil ?_
 refine G.two 4 6 (by kernel_rfl) ?_ ?_
 ·refine G.wpCall 4 rfl rfl Tryz.func145 (by kernel_rfl) (by kernel_rfl) (by kernel_rfl) (by kernel_rfl) (Calls.mono (HSEEN.out _) ?_)
  rintro e w2 ⟨v,rfl,hown,hE2⟩
  refine⟨v,rfl,fun _=>hE2,?_⟩
  refine G.cast #[true,true,true,true,true,true,false,false,false,false,false] (by kernel_rfl) ?_
  simp only[Act.put,List.setIfInBounds_toArray,List.set_cons_succ,List.set_cons_zero]
  refine G.one 6 #[true,true,true,true,true,true,true,false,false,false,false] rfl (by kernel_rfl) (by kernel_rfl) (by kernel_rfl) ?_
  refine G.hide (fun K hK=> ?_)
  go_simp
  refine hK _ _ ⟨fun _=> ?_,?_⟩
  all_goals clear hK K
  ·repeat(first|(with_reducible exact Mods.refl _ _)|(with_reducible refine Mods.alloc ?_ _)|(with_reducible refine Mods.trans ?_ hE2))
  refine G.one 7 #[true,true,true,true,true,true,true,true,false,false,false] rfl (by kernel_rfl) (by kernel_rfl) (by kernel_rfl) ?_
  have hown2:=hown.alloc (.cells #[.int .i64 n] 3)
  refine wp_append_own _ (.tmp 25) (.tmp 27) 30 rfl w'.heap.size 3 i0 (.int .i64 0) 1 8 Tryz.underlying30 hi hz0 hz1 hz2 rfl (by decide) _ _ _ rfl hown2 ⟨w2.heap.size,0,none⟩ 1 1 [.int .i64 n] rfl rfl (cell_one_new _ _ _) (by simp[Value.oneCell']) (by(unfold maxLen;omega)) (by omega) (by have:=hE2.size;simp at this⊢;omega) ?_
  intro v' w3 hown3 hgrow hnn
  have hlt:=hown2.lt
  have hE3:Ext w'.drew w3:=by
   refine Mods.grown ?_ hgrow (fun k hk hlt'=> ?_)
   ·repeat(first|(with_reducible exact Mods.refl _ _)|(with_reducible refine Mods.alloc ?_ _)|(with_reducible refine Mods.trans ?_ hE2))
   ·have h1:=(hlt k hk).1
    simp only[World.size_drew]at h1 hlt'
    omega
  refine⟨fun _=>hE3,?_⟩
  simp only[Act.put,List.setIfInBounds_toArray,List.set_cons_succ,List.set_cons_zero]
  refine G.call 8 #[true,true,true,true,true,true,true,true,true,false,false] rfl rfl Tryz.func144 (by kernel_rfl) (by kernel_rfl) (by kernel_rfl) (by kernel_rfl) (by kernel_rfl) (by kernel_rfl) (Calls.mono (f0G s t v' (a0V t b 64++[n]) _ w3 ⟨by omega,g2⟩ ⟨g3,g4⟩ (fun x hx=>(List.mem_append.1 hx).elim (HBD.out x) (fun h=>by rw[List.mem_singleton.1 h];omega)) (f0D hown3) (by simp;omega)) ?_)
  rintro e w4 ⟨rfl,hE4⟩
  refine⟨_,rfl,fun _=>hE3.trans hE4,?_⟩
  simp only[Act.put,List.setIfInBounds_toArray,List.set_cons_succ,List.set_cons_zero]
  have hE34:Ext w' w4:=((Mods.refl _ _).drew.trans hE3).trans hE4
  have hs34:=hE34.size
  obtain⟨hd1,hd2,hd3⟩:=Ext.cells hE34
  have q0:World.cell? w4 ⟨w.heap.size+1,0,none⟩=some (.int .i64 0):=by simp[go_sem,hd1,hd2,hz,r0,r1,r2,r3,rf]
  have q1:World.cell? w4 ⟨w.heap.size+1,1,none⟩=some (.int .i64 0):=by simp[go_sem,hd1,hd2,hz,r0,r1,r2,r3,rf]
  have q2:World.cell? w4 ⟨w.heap.size+1,2,none⟩=some (.int .u64 0):=by simp[go_sem,hd1,hd2,hz,r0,r1,r2,r3,rf]
  have q3:World.cell? w4 ⟨w.heap.size+1,3,none⟩=some (.bool false):=by simp[go_sem,hd1,hd2,hz,r0,r1,r2,r3,rf]
  have qf: ∀o,World.frozen? w4 ⟨w.heap.size+1,o,none⟩=false:=fun o=>by simp[go_sem,hd1,hd2,hz,r0,r1,r2,r3,rf]
  clear hd1 hd2 hd3
  refine G.list [9,10] _ _ _ _ (by kernel_rfl) (by kernel_rfl) (by kernel_rfl) ?_
  simp only[e0f,List.getElem?_cons_zero,List.getElem?_cons_succ]
  go_wp2
  simp only[c0t]
  go_wp2
  refine bodyPost_ret (v:= .tuple #[c0z s t (d0s s t (a0V t b 64++[n])) false,.int .i64 0]) (by simp[results,Tryz.results96,go_sem,q0,q1,q2,q3]) rfl ?_
  refine⟨rfl,?_⟩
  repeat(first|(with_reducible exact Mods.refl _ _)|(with_reducible refine Mods.alloc ?_ _)|(with_reducible refine Mods.setCell ?_ (fun hlt=>(by(simp at hlt;omega))) _)|(with_reducible refine Mods.trans ?_ hE34)|(with_reducible refine Mods.trans ?_ hE))
 ·refine G.wp 6 rfl (by kernel_rfl) ?_
  refine G.hide (fun K hK=> ?_)
  go_simp
  refine hK _ _ ⟨fun _=> ?_,?_⟩
  all_goals clear hK K
  ·repeat(first|(with_reducible exact Mods.refl _ _)|(with_reducible refine Mods.alloc ?_ _)|(with_reducible refine Mods.drew ?_)|(with_reducible refine Mods.undrew ?_))
  refine G.cast #[true,true,true,true,false,true,true,false,false,false,false] (by kernel_rfl) ?_
  refine G.call 4 #[true,true,true,true,true,true,true,false,false,false,false] rfl rfl Tryz.func145 (by kernel_rfl) (by kernel_rfl) (by kernel_rfl) (by kernel_rfl) (by kernel_rfl) (by kernel_rfl) (Calls.mono (HSEEN.out _) ?_)
  rintro e w2 ⟨v,rfl,hown,hE2⟩
  have hE2':Ext w' w2:=((Mods.refl _ _).alloc _).drew.trans hE2
  refine⟨v,rfl,fun _=>hE2'.undrew,?_⟩
  simp only[Act.put,List.setIfInBounds_toArray,List.set_cons_succ,List.set_cons_zero]
  refine G.one 7 #[true,true,true,true,true,true,true,true,false,false,false] rfl (by kernel_rfl) (by kernel_rfl) (by kernel_rfl) ?_
  have hsz2:=hE2.size
  refine wp_append_own _ (.tmp 25) (.tmp 27) 30 rfl (w'.heap.size+1) 3 i0 (.int .i64 0) 1 8 Tryz.underlying30 hi hz0 hz1 hz2 rfl (by decide) _ _ _ rfl (b0Q hown (by simp)) ⟨w'.heap.size,0,none⟩ 1 1 [.int .i64 n] rfl rfl ?_ (by simp[Value.oneCell']) (by(unfold maxLen;omega)) (by omega) (by simp at hsz2;omega) ?_
  ·intro j u hj
   match j,hj with
   |0,hj=>
    simp at hj
    subst hj
    have:=hE2.cell (p:=⟨w'.heap.size,0,none⟩) (by simp) (fun h=>h)
    simpa[Addr.add]using this
  intro v' w3 hown3 hgrow hnn
  have hlt:=(b0Q (base':=w'.heap.size+1) hown (by simp)).lt
  have hE3:Ext w'.drew w3:=by
   refine Mods.grown ?_ hgrow (fun k hk hlt'=> ?_)
   ·exact hE2'.undrew
   ·have h1:=(hlt k hk).1
    simp only[World.size_drew]at hlt'
    omega
  refine⟨fun _=>hE3,?_⟩
  simp only[Act.put,List.setIfInBounds_toArray,List.set_cons_succ,List.set_cons_zero]
  refine G.call 8 #[true,true,true,true,true,true,true,true,true,false,false] rfl rfl Tryz.func144 (by kernel_rfl) (by kernel_rfl) (by kernel_rfl) (by kernel_rfl) (by kernel_rfl) (by kernel_rfl) (Calls.mono (f0G s t v' (a0V t b 64++[n]) _ w3 ⟨by omega,g2⟩ ⟨g3,g4⟩ (fun x hx=>(List.mem_append.1 hx).elim (HBD.out x) (fun h=>by rw[List.mem_singleton.1 h];omega)) (f0D hown3) (by simp;omega)) ?_)
  rintro e w4 ⟨rfl,hE4⟩
  refine⟨_,rfl,fun _=>hE3.trans hE4,?_⟩
  simp only[Act.put,List.setIfInBounds_toArray,List.set_cons_succ,List.set_cons_zero]
  have hE34:Ext w' w4:=((Mods.refl _ _).drew.trans hE3).trans hE4
  have hs34:=hE34.size
  obtain⟨hd1,hd2,hd3⟩:=Ext.cells hE34
  have q0:World.cell? w4 ⟨w.heap.size+1,0,none⟩=some (.int .i64 0):=by simp[go_sem,hd1,hd2,hz,r0,r1,r2,r3,rf]
  have q1:World.cell? w4 ⟨w.heap.size+1,1,none⟩=some (.int .i64 0):=by simp[go_sem,hd1,hd2,hz,r0,r1,r2,r3,rf]
  have q2:World.cell? w4 ⟨w.heap.size+1,2,none⟩=some (.int .u64 0):=by simp[go_sem,hd1,hd2,hz,r0,r1,r2,r3,rf]
  have q3:World.cell? w4 ⟨w.heap.size+1,3,none⟩=some (.bool false):=by simp[go_sem,hd1,hd2,hz,r0,r1,r2,r3,rf]
  have qf: ∀o,World.frozen? w4 ⟨w.heap.size+1,o,none⟩=false:=fun o=>by simp[go_sem,hd1,hd2,hz,r0,r1,r2,r3,rf]
  clear hd1 hd2 hd3
  refine G.list [9,10] _ _ _ _ (by kernel_rfl) (by kernel_rfl) (by kernel_rfl) ?_
  simp only[e0f,List.getElem?_cons_zero,List.getElem?_cons_succ]
  go_wp2
  simp only[c0t]
  go_wp2
  refine bodyPost_ret (v:= .tuple #[c0z s t (d0s s t (a0V t b 64++[n])) false,.int .i64 0]) (by simp[results,Tryz.results96,go_sem,q0,q1,q2,q3]) rfl ?_
  refine⟨rfl,?_⟩
  repeat(first|(with_reducible exact Mods.refl _ _)|(with_reducible refine Mods.alloc ?_ _)|(with_reducible refine Mods.setCell ?_ (fun hlt=>(by(simp at hlt;omega))) _)|(with_reducible refine Mods.trans ?_ hE34)|(with_reducible refine Mods.trans ?_ hE))
theorem m0z (s t:Int)(b:Nat)(l:Bool)(n:Int)(w:World)(hs:i64In s)(ht:i64In t)(hb:b<2^64)(hn:i64In n)(h0:a0O s t b l n≠0):
  Calls Tryz.prog 96 #[c0z s t b l,.int .i64 n] w fun e w'=>e= .returned (.tuple #[c0z 0 0 0 false,.int .i64 (a0O s t b l n)])∧Ext w w':=by
 have hq:=fun w=>d0F s t b l n w hs ht hb hn
 generalize a0O s t b l n=c at*
 have H:=Lib.hid hq
 have hc0:(c==0)=false:=by simpa using h0
 clear hq h0
 go_enter Tryz.func96,Tryz.ntmps96
 go_wp2_with fail
 refine(H.out _).mono ?_
 rintro e w' ⟨rfl,hE⟩
 obtain⟨hc1,hc2,hc3⟩:=hE.cells
 have hz:w.heap.size+1<w'.heap.size:=by simp at hc3;omega
 go_wp2
 refine bodyPost_ret (v:= .tuple #[c0z 0 0 0 false,.int .i64 c]) (by simp[results,Tryz.results96,go_sem,hc1,hz]) rfl ?_
 refine⟨rfl,?_⟩
 repeat(first|(with_reducible exact Mods.refl _ _)|(with_reducible refine Mods.alloc ?_ _)|(with_reducible refine Mods.setCell ?_ (fun hlt=>(by(simp at hlt;omega))) _)|(with_reducible refine Mods.trans ?_ hE))
theorem m0B (s t:Int)(b:Nat)(n:Int)(w:World)(hs:i64In s)(ht:i64In t)(hb:b<2^64)(hn:i64In n)(h0:a0O s t b false n=0)(hgt:t<n):
  Calls Tryz.prog 96 #[c0z s t b false,.int .i64 n] w fun e w'=>e= .returned (.tuple #[c0z s n (d0s s n (a0V t b 64++[n])) false,.int .i64 0])∧Ext w w':=by
 obtain⟨⟨g1,g2,g3,g4⟩,g5,g6, -,g7⟩:=b0h h0
 have hval:a0Q s t b false=true:=by
  unfold a0O at h0
  split at h0
  ·cases h0
  ·rename_i hr
   simp only[c0f]at hr
   cases hv:a0Q s t b false with
   |true=>rfl
   |false=>rw[hv]at hr;exact absurd rfl hr
 have hseen:=fun w=>i0O s t b false w hs ht hb
 rw[show h0R s t b false=a0V t b 64 from by simp[h0R,hval]]at hseen
 have HSEEN:=Lib.hid hseen
 have hq:=fun w=>d0F s t b false n w hs ht hb hn
 rw[h0]at hq
 have H:=Lib.hid hq
 have hsl:=e0P t b 64
 have hbd:=n0Z (b:=b) g3 g4
 have HBD:=Lib.hid hbd
 obtain⟨i0,hi,hz0,hz1,hz2⟩:=info_parts t0U
 clear hq h0 hs ht hn hseen hval hbd
 go_enter Tryz.func96,Tryz.ntmps96
 go_wp2_with fail
 refine(H.out _).mono ?_
 rintro e w' ⟨rfl,hE⟩
 obtain⟨hc1,hc2,hc3⟩:=hE.cells
 have hz:w.heap.size+1<w'.heap.size:=by simp at hc3;omega
 have hzz:w.heap.size<w'.heap.size:=by omega
 have k0:World.cell? w' ⟨w.heap.size,0,none⟩=some (.int .i64 s):=by simp[go_sem,hc1,hc2,hzz]
 have k1:World.cell? w' ⟨w.heap.size,1,none⟩=some (.int .i64 t):=by simp[go_sem,hc1,hc2,hzz]
 have k2:World.cell? w' ⟨w.heap.size,2,none⟩=some (.int .u64 (b:Int)):=by simp[go_sem,hc1,hc2,hzz]
 have k3:World.cell? w' ⟨w.heap.size,3,none⟩=some (.bool false):=by simp[go_sem,hc1,hc2,hzz]
 have kf: ∀o,World.frozen? w' ⟨w.heap.size,o,none⟩=false:=fun o=>by simp[go_sem,hc1,hc2,hzz]
 have r0:World.cell? w' ⟨w.heap.size+1,0,none⟩=some (.int .i64 0):=by simp[go_sem,hc1,hc2,hz]
 have r1:World.cell? w' ⟨w.heap.size+1,1,none⟩=some (.int .i64 0):=by simp[go_sem,hc1,hc2,hz]
 have r2:World.cell? w' ⟨w.heap.size+1,2,none⟩=some (.int .u64 0):=by simp[go_sem,hc1,hc2,hz]
 have r3:World.cell? w' ⟨w.heap.size+1,3,none⟩=some (.bool false):=by simp[go_sem,hc1,hc2,hz]
 have rf: ∀o,World.frozen? w' ⟨w.heap.size+1,o,none⟩=false:=fun o=>by simp[go_sem,hc1,hc2,hz]
 clear hc1 hc2 hc3
 go_wp2
 refine f0S (fun i=>Nat.ble 9 i) (by kernel_rfl) ?_
 refine G.take [0,1,2,3,5] #[true,true,true,true,false,true,false,false,false,false,false] 6 (by kernel_rfl) (by kernel_rfl) (by kernel_rfl) (by kernel_rfl) (by kernel_rfl) (by kernel_rfl) (by kernel_rfl) (Mods.refl _ _) ?_
 simp only[e0f,List.getElem?_cons_zero,List.getElem?_cons_succ]
 repeat(go_big_quiet_step (fail))
 refine wpQuiet_nil ?_
 refine G.two 4 6 (by kernel_rfl) ?_ ?_
 ·refine G.wpCall 4 rfl rfl Tryz.func145 (by kernel_rfl) (by kernel_rfl) (by kernel_rfl) (by kernel_rfl) (Calls.mono (HSEEN.out _) ?_)
  rintro e w2 ⟨v,rfl,hown,hE2⟩
  refine⟨v,rfl,fun _=>hE2,?_⟩
  refine G.cast #[true,true,true,true,true,true,false,false,false,false,false] (by kernel_rfl) ?_
  simp only[Act.put,List.setIfInBounds_toArray,List.set_cons_succ,List.set_cons_zero]
  refine G.one 6 #[true,true,true,true,true,true,true,false,false,false,false] rfl (by kernel_rfl) (by kernel_rfl) (by kernel_rfl) ?_
  refine G.hide (fun K hK=> ?_)
  go_simp
  refine hK _ _ ⟨fun _=> ?_,?_⟩
  all_goals clear hK K
  ·repeat(first|(with_reducible exact Mods.refl _ _)|(with_reducible refine Mods.alloc ?_ _)|(with_reducible refine Mods.trans ?_ hE2))
  refine G.one 7 #[true,true,true,true,true,true,true,true,false,false,false] rfl (by kernel_rfl) (by kernel_rfl) (by kernel_rfl) ?_
  have hown2:=hown.alloc (.cells #[.int .i64 n] 3)
  refine wp_append_own _ (.tmp 25) (.tmp 27) 30 rfl w'.heap.size 3 i0 (.int .i64 0) 1 8 Tryz.underlying30 hi hz0 hz1 hz2 rfl (by decide) _ _ _ rfl hown2 ⟨w2.heap.size,0,none⟩ 1 1 [.int .i64 n] rfl rfl (cell_one_new _ _ _) (by simp[Value.oneCell']) (by(unfold maxLen;omega)) (by omega) (by have:=hE2.size;simp at this⊢;omega) ?_
  intro v' w3 hown3 hgrow hnn
  have hlt:=hown2.lt
  have hE3:Ext w'.drew w3:=by
   refine Mods.grown ?_ hgrow (fun k hk hlt'=> ?_)
   ·repeat(first|(with_reducible exact Mods.refl _ _)|(with_reducible refine Mods.alloc ?_ _)|(with_reducible refine Mods.trans ?_ hE2))
   ·have h1:=(hlt k hk).1
    simp only[World.size_drew]at h1 hlt'
    omega
  refine⟨fun _=>hE3,?_⟩
  simp only[Act.put,List.setIfInBounds_toArray,List.set_cons_succ,List.set_cons_zero]
  refine G.call 8 #[true,true,true,true,true,true,true,true,true,false,false] rfl rfl Tryz.func144 (by kernel_rfl) (by kernel_rfl) (by kernel_rfl) (by kernel_rfl) (by kernel_rfl) (by kernel_rfl) (Calls.mono (f0G s n v' (a0V t b 64++[n]) _ w3 ⟨by omega,g2⟩ ⟨by omega,g6⟩ (fun x hx=>(List.mem_append.1 hx).elim (HBD.out x) (fun h=>by rw[List.mem_singleton.1 h];omega)) (f0D hown3) (by simp;omega)) ?_)
  rintro e w4 ⟨rfl,hE4⟩
  refine⟨_,rfl,fun _=>hE3.trans hE4,?_⟩
  simp only[Act.put,List.setIfInBounds_toArray,List.set_cons_succ,List.set_cons_zero]
  have hE34:Ext w' w4:=((Mods.refl _ _).drew.trans hE3).trans hE4
  have hs34:=hE34.size
  obtain⟨hd1,hd2,hd3⟩:=Ext.cells hE34
  have q0:World.cell? w4 ⟨w.heap.size+1,0,none⟩=some (.int .i64 0):=by simp[go_sem,hd1,hd2,hz,r0,r1,r2,r3,rf]
  have q1:World.cell? w4 ⟨w.heap.size+1,1,none⟩=some (.int .i64 0):=by simp[go_sem,hd1,hd2,hz,r0,r1,r2,r3,rf]
  have q2:World.cell? w4 ⟨w.heap.size+1,2,none⟩=some (.int .u64 0):=by simp[go_sem,hd1,hd2,hz,r0,r1,r2,r3,rf]
  have q3:World.cell? w4 ⟨w.heap.size+1,3,none⟩=some (.bool false):=by simp[go_sem,hd1,hd2,hz,r0,r1,r2,r3,rf]
  have qf: ∀o,World.frozen? w4 ⟨w.heap.size+1,o,none⟩=false:=fun o=>by simp[go_sem,hd1,hd2,hz,r0,r1,r2,r3,rf]
  clear hd1 hd2 hd3
  refine G.list [9,10] _ _ _ _ (by kernel_rfl) (by kernel_rfl) (by kernel_rfl) ?_
  simp only[e0f,List.getElem?_cons_zero,List.getElem?_cons_succ]
  go_wp2
  simp only[c0t]
  go_wp2
  refine bodyPost_ret (v:= .tuple #[c0z s n (d0s s n (a0V t b 64++[n])) false,.int .i64 0]) (by simp[results,Tryz.results96,go_sem,q0,q1,q2,q3]) rfl ?_
  refine⟨rfl,?_⟩
  repeat(first|(with_reducible exact Mods.refl _ _)|(with_reducible refine Mods.alloc ?_ _)|(with_reducible refine Mods.setCell ?_ (fun hlt=>(by(simp at hlt;omega))) _)|(with_reducible refine Mods.trans ?_ hE34)|(with_reducible refine Mods.trans ?_ hE))
 ·refine G.wp 6 rfl (by kernel_rfl) ?_
  refine G.hide (fun K hK=> ?_)
  go_simp
  refine hK _ _ ⟨fun _=> ?_,?_⟩
  all_goals clear hK K
  ·repeat(first|(with_reducible exact Mods.refl _ _)|(with_reducible refine Mods.alloc ?_ _)|(with_reducible refine Mods.drew ?_)|(with_reducible refine Mods.undrew ?_))
  refine G.cast #[true,true,true,true,false,true,true,false,false,false,false] (by kernel_rfl) ?_
  refine G.call 4 #[true,true,true,true,true,true,true,false,false,false,false] rfl rfl Tryz.func145 (by kernel_rfl) (by kernel_rfl) (by kernel_rfl) (by kernel_rfl) (by kernel_rfl) (by kernel_rfl) (Calls.mono (HSEEN.out _) ?_)
  rintro e w2 ⟨v,rfl,hown,hE2⟩
  have hE2':Ext w' w2:=((Mods.refl _ _).alloc _).drew.trans hE2
  refine⟨v,rfl,fun _=>hE2'.undrew,?_⟩
  simp only[Act.put,List.setIfInBounds_toArray,List.set_cons_succ,List.set_cons_zero]
  refine G.one 7 #[true,true,true,true,true,true,true,true,false,false,false] rfl (by kernel_rfl) (by kernel_rfl) (by kernel_rfl) ?_
  have hsz2:=hE2.size
  refine wp_append_own _ (.tmp 25) (.tmp 27) 30 rfl (w'.heap.size+1) 3 i0 (.int .i64 0) 1 8 Tryz.underlying30 hi hz0 hz1 hz2 rfl (by decide) _ _ _ rfl (b0Q hown (by simp)) ⟨w'.heap.size,0,none⟩ 1 1 [.int .i64 n] rfl rfl ?_ (by simp[Value.oneCell']) (by(unfold maxLen;omega)) (by omega) (by simp at hsz2;omega) ?_
  ·intro j u hj
   match j,hj with
   |0,hj=>
    simp at hj
    subst hj
    have:=hE2.cell (p:=⟨w'.heap.size,0,none⟩) (by simp) (fun h=>h)
    simpa[Addr.add]using this
  intro v' w3 hown3 hgrow hnn
  have hlt:=(b0Q (base':=w'.heap.size+1) hown (by simp)).lt
  have hE3:Ext w'.drew w3:=by
   refine Mods.grown ?_ hgrow (fun k hk hlt'=> ?_)
   ·exact hE2'.undrew
   ·have h1:=(hlt k hk).1
    simp only[World.size_drew]at hlt'
    omega
  refine⟨fun _=>hE3,?_⟩
  simp only[Act.put,List.setIfInBounds_toArray,List.set_cons_succ,List.set_cons_zero]
  refine G.call 8 #[true,true,true,true,true,true,true,true,true,false,false] rfl rfl Tryz.func144 (by kernel_rfl) (by kernel_rfl) (by kernel_rfl) (by kernel_rfl) (by kernel_rfl) (by kernel_rfl) (Calls.mono (f0G s n v' (a0V t b 64++[n]) _ w3 ⟨by omega,g2⟩ ⟨by omega,g6⟩ (fun x hx=>(List.mem_append.1 hx).elim (HBD.out x) (fun h=>by rw[List.mem_singleton.1 h];omega)) (f0D hown3) (by simp;omega)) ?_)
  rintro e w4 ⟨rfl,hE4⟩
  refine⟨_,rfl,fun _=>hE3.trans hE4,?_⟩
  simp only[Act.put,List.setIfInBounds_toArray,List.set_cons_succ,List.set_cons_zero]
  have hE34:Ext w' w4:=((Mods.refl _ _).drew.trans hE3).trans hE4
  have hs34:=hE34.size
  obtain⟨hd1,hd2,hd3⟩:=Ext.cells hE34
  have q0:World.cell? w4 ⟨w.heap.size+1,0,none⟩=some (.int .i64 0):=by simp[go_sem,hd1,hd2,hz,r0,r1,r2,r3,rf]
  have q1:World.cell? w4 ⟨w.heap.size+1,1,none⟩=some (.int .i64 0):=by simp[go_sem,hd1,hd2,hz,r0,r1,r2,r3,rf]
  have q2:World.cell? w4 ⟨w.heap.size+1,2,none⟩=some (.int .u64 0):=by simp[go_sem,hd1,hd2,hz,r0,r1,r2,r3,rf]
  have q3:World.cell? w4 ⟨w.heap.size+1,3,none⟩=some (.bool false):=by simp[go_sem,hd1,hd2,hz,r0,r1,r2,r3,rf]
  have qf: ∀o,World.frozen? w4 ⟨w.heap.size+1,o,none⟩=false:=fun o=>by simp[go_sem,hd1,hd2,hz,r0,r1,r2,r3,rf]
  clear hd1 hd2 hd3
  refine G.list [9,10] _ _ _ _ (by kernel_rfl) (by kernel_rfl) (by kernel_rfl) ?_
  simp only[e0f,List.getElem?_cons_zero,List.getElem?_cons_succ]
  go_wp2
  simp only[c0t]
  go_wp2
  refine bodyPost_ret (v:= .tuple #[c0z s n (d0s s n (a0V t b 64++[n])) false,.int .i64 0]) (by simp[results,Tryz.results96,go_sem,q0,q1,q2,q3]) rfl ?_
  refine⟨rfl,?_⟩
  repeat(first|(with_reducible exact Mods.refl _ _)|(with_reducible refine Mods.alloc ?_ _)|(with_reducible refine Mods.setCell ?_ (fun hlt=>(by(simp at hlt;omega))) _)|(with_reducible refine Mods.trans ?_ hE34)|(with_reducible refine Mods.trans ?_ hE))
theorem j0H {s t:Int}{b:Nat}{l:Bool}{n:Int}(h0:a0O s t b l n=0):a0Q s t b l=true:=by
 unfold a0O at h0
 split at h0
 ·cases h0
 ·rename_i hr
  simp only[c0f]at hr
  cases hv:a0Q s t b l with
  |true=>rfl
  |false=>rw[hv]at hr;exact absurd rfl hr
theorem k0r (s t:Int)(b:Nat)(l:Bool)(n:Int)(w:World)(hs:i64In s)(ht:i64In t)(hb:b<2^64)(hn:i64In n):
  Calls Tryz.prog 96 #[c0z s t b l,.int .i64 n] w fun e w'=>e= .returned (u0E s t b l n)∧Ext w w':=by
 unfold u0E
 by_cases h0:a0O s t b l n=0
 ·obtain⟨-, -, -,rfl, -⟩:=b0h h0
  rw[if_pos h0,←r0d s t b n hb h0 (j0H h0)]
  unfold accT
  by_cases hgt:t<n
  ·rw[if_pos hgt];exact m0B s t b n w hs ht hb hn h0 hgt
  ·rw[if_neg hgt];exact m0A s t b n w hs ht hb hn h0 hgt
 ·rw[if_neg h0]
  exact m0z s t b l n w hs ht hb hn h0
end Go.Proofs.YtojomcdjcpmnkaaGreat.W
namespace Go.Proofs.YtojomcdjcpmnkaaGreat.Wi
open Go.RowKit L A Dk W
attribute [local irreducible] AW AQ AO
structure Win where
 s:Int
 t:Int
 b:Nat
 l:Bool
 deriving DecidableEq
def Win.ok (w:Win):Prop:=i64In w.s∧i64In w.t∧w.b<2^64
def u0J (w:Win):List AV:= [.val (.int .i64 w.s),.val (.int .i64 w.t),.val (.int .u64 (w.b:Int)),.val (.bool w.l)]
def n0s (w:Win):AV:= .agg (u0J w)
def zeroW:Win:=⟨0,0,0,false⟩
def check (w:Win)(n:Int):Int:=a0O w.s w.t w.b w.l n
def acc (w:Win)(n:Int):Win:=if check w n=0 then⟨w.s,accT w.t n,u0n w.s w.t w.b n,false⟩else zeroW
def w0i (w:Win):Win:=⟨w.s, -1,0,true⟩
def newW (n:Int):Win:=if 1≤n∧n≤64 then⟨n, -1,0,false⟩else zeroW
def w0K (n:Int):Int:=if 1≤n∧n≤64 then 0 else 1
def valid (w:Win):Bool:=a0Q w.s w.t w.b w.l
theorem m0h {w:Win}{n:Int}{e:Ending}{W W':World}(h:e= .returned (u0E w.s w.t w.b w.l n)∧Ext W W'):
  e= .returned (.tuple #[.agg #[.int .i64 (acc w n).s,.int .i64 (acc w n).t,.int .u64 ((acc w n).b:Int),.bool (acc w n).l],.int .i64 (check w n)])∧Ext W W':=by
 refine⟨h.1.trans ?_,h.2⟩
 unfold u0E acc check
 split
 ·rename_i h0;rw[h0]
 rfl
theorem r0a {n:Int}{e:Ending}{W W':World}(h:e= .returned (.tuple #[if 1≤n∧n≤64 then c0z n (-1) 0 false else c0z 0 0 0 false,.int .i64 (if 1≤n∧n≤64 then 0 else 1)])∧Ext W W'):
  e= .returned (.tuple #[.agg #[.int .i64 (newW n).s,.int .i64 (newW n).t,.int .u64 ((newW n).b:Int),.bool (newW n).l],.int .i64 (w0K n)])∧Ext W W':=by
 refine⟨h.1.trans ?_,h.2⟩
 unfold newW w0K
 split<;>rfl
theorem accept_fn (w:Win)(h:w.ok)(n:Int)(hn:i64In n):Sp Tryz.prog 101 [n0s w,.val (.int .i64 n)] [] (Is (.tup [n0s (acc w n),.val (.int .i64 (check w n))])):=
 Sp.of_calls2 rfl rfl fun W=>(n0p w.s w.t w.b w.l n W h.1 h.2.1 h.2.2 hn).mono fun e W' h=>m0h h
theorem raccept_fn (w:Win)(h:w.ok)(n:Int)(hn:i64In n):Sp Tryz.prog 96 [n0s w,.val (.int .i64 n)] [] (Is (.tup [n0s (acc w n),.val (.int .i64 (check w n))])):=
 Sp.of_calls2 rfl rfl fun W=>(k0r w.s w.t w.b w.l n W h.1 h.2.1 h.2.2 hn).mono fun e W' h=>m0h h
theorem q0C (w:Win):Sp Tryz.prog 97 [n0s w] [] (Is (n0s (w0i w))):=Sp.of_calls rfl rfl fun W=>o0g w.s w.t w.b w.l W
theorem s0Z (n:Int):Sp Tryz.prog 95 [.val (.int .i64 n)] [] (Is (.tup [n0s (newW n),.val (.int .i64 (w0K n))])):=Sp.of_calls2 rfl rfl fun W=>(q0A n W).mono fun e W' h=>r0a h
theorem check_fn (w:Win)(h:w.ok)(n:Int)(hn:i64In n):Sp Tryz.prog 100 [n0s w,.val (.int .i64 n)] [] (Is (.val (.int .i64 (check w n)))):=Sp.of_calls rfl rfl fun W=>d0x w.s w.t w.b w.l n W h.1 h.2.1 h.2.2 hn
theorem rcheck_fn (w:Win)(h:w.ok)(n:Int)(hn:i64In n):Sp Tryz.prog 103 [n0s w,.val (.int .i64 n)] [] (Is (.val (.int .i64 (check w n)))):=Sp.of_calls rfl rfl fun W=>d0F w.s w.t w.b w.l n W h.1 h.2.1 h.2.2 hn
theorem valid_fn (w:Win)(h:w.ok):Sp Tryz.prog 99 [n0s w] [] (Is (.val (.bool (valid w)))):=Sp.of_calls rfl rfl fun W=>i0G w.s w.t w.b w.l W h.1 h.2.1 h.2.2
theorem rvalid_fn (w:Win)(h:w.ok):Sp Tryz.prog 102 [n0s w] [] (Is (.val (.bool (valid w)))):=Sp.of_calls rfl rfl fun W=>e0S w.s w.t w.b w.l W h.1 h.2.1 h.2.2
end Go.Proofs.YtojomcdjcpmnkaaGreat.Wi
namespace Go.Proofs.YtojomcdjcpmnkaaGreat.By
open Go.RowKit L A
attribute [local irreducible] AW AQ AO
theorem s0H {c:Cmp}(h:(d0w c).2=0):j0U c:=by
 by_cases hv:j0U c
 ·exact hv
 unfold d0w at h;rw[if_pos hv]at h;cases h
theorem i0T {m:Msg}(h:(a0C m).2=0):j0U (a0C m).1:=by
 unfold a0C at*
 split at h
 ·cases h
 ·rename_i v e
  exact s0H (by rw[r0w (r:=v) (y:=(p0x v).1) (by rw[←h])])
 cases h
abbrev SmT (m:Msg):Prop:=SmS m∧m.pay.length≤900000
abbrev u0s (c:Cx)(b:Bd):Prop:=b.kid=c.inp.snd∧b.ctx=c.inp.ctx∧f0z b.piv
abbrev x0c (v:Cmp):Prop:=v.hasKid=false∧v.hasCtx=false∧v.group=false
noncomputable def orP (c:Cx)(b:Bd)(m:Msg):Msg×Int:=i0e c.rk m (u0i c b c.inp.rcp (a0C m).1.piv) (i0F b.kid b.piv).1 false
noncomputable def orR (c:Cx)(b:Bd)(m:Msg):Msg×Int×Int:=
 if ¬f0u c then(Msg.none,0,1)else if ¬u0s c b then(Msg.none,0,36)else
 if(a0C m).2≠0 then(Msg.none,0,(a0C m).2)else if ¬x0c (a0C m).1 then(Msg.none,0,4)else
 if(orP c b m).2≠0 then(Msg.none,0,(orP c b m).2)else((orP c b m).1,(a0C m).1.piv,0)
abbrev Win:=Wi.Win
abbrev cW (w:Win):List AV:= [.val (.int .i64 w.s),.val (.int .i64 w.t),.val (.int .u64 (w.b:Int)),.val (.bool w.l)]
abbrev n0v (w:Win):AV:= .agg (cW w)
theorem v0Y (w:Win)(h:w.ok)(n:Int)(hn:W.i64In n):Sp Tryz.prog 101 [n0v w,.val (.int .i64 n)] [] (Is (.tup [n0v (Wi.acc w n),.val (.int .i64 (Wi.check w n))])):=Wi.accept_fn w h n hn
theorem t0j (w:Win)(h:w.ok)(n:Int)(hn:W.i64In n):Sp Tryz.prog 96 [n0v w,.val (.int .i64 n)] [] (Is (.tup [n0v (Wi.acc w n),.val (.int .i64 (Wi.check w n))])):=Wi.raccept_fn w h n hn
theorem v0O (w:Win)(h:w.ok)(n:Int)(hn:W.i64In n):Sp Tryz.prog 100 [n0v w,.val (.int .i64 n)] [] (Is (.val (.int .i64 (Wi.check w n)))):=Wi.check_fn w h n hn
theorem t0d (w:Win)(h:w.ok)(n:Int)(hn:W.i64In n):Sp Tryz.prog 103 [n0v w,.val (.int .i64 n)] [] (Is (.val (.int .i64 (Wi.check w n)))):=Wi.rcheck_fn w h n hn
theorem s0C (w:Win)(h:w.ok):Sp Tryz.prog 99 [n0v w] [] (Is (.val (.bool (Wi.valid w)))):=Wi.valid_fn w h
theorem q0q (w:Win)(h:w.ok):Sp Tryz.prog 102 [n0v w] [] (Is (.val (.bool (Wi.valid w)))):=Wi.rvalid_fn w h
abbrev j0R (v:Cmp):Prop:=0≤v.piv∧v.hasKid=true∧v.group=false
abbrev e0j (c:Cx)(v:Cmp):Prop:=v.kid=c.inp.rcp∧v.hasCtx=c.inp.has∧v.ctx=c.inp.ctx
noncomputable def oqP (c:Cx)(m:Msg):Msg×Int:=i0e c.rk m (b0S c.com (a0C m).1.kid (a0C m).1.piv).1 (i0F (a0C m).1.kid (a0C m).1.piv).1 true
abbrev r0N (w:Win)(n:Int):Prop:=w.l=true∨Wi.check w n=0
abbrev m0u (e:Int):Msg×Bd×Win×Int:=(Msg.none,Bd.none,Wi.zeroW,e)
noncomputable def oqR (c:Cx)(w:Win)(m:Msg):Msg×Bd×Win×Int:=
 if ¬(f0u c∧Wi.valid w=true)then m0u 1 else
 if(a0C m).2≠0 then m0u (a0C m).2 else if ¬j0R (a0C m).1 then m0u 4 else if ¬e0j c (a0C m).1 then m0u 18 else
 if ¬r0N w (a0C m).1.piv then m0u (Wi.check w (a0C m).1.piv)else
 if(oqP c m).2≠0 then m0u (oqP c m).2 else((oqP c m).1,⟨(a0C m).1.ctx,(a0C m).1.kid,(a0C m).1.piv⟩,(if w.l=true then w else Wi.acc w (a0C m).1.piv),0)
abbrev t0c (r:Msg×Bd×Win×Int):AV:= .tup [b0c r.1,p0S r.2.1,n0v r.2.2.1,.val (.int .i64 r.2.2.2)]
theorem v0n {c:Cx}{w:Win}{m:Msg}(h: ¬(f0u c∧Wi.valid w=true)):oqR c w m=m0u 1:=if_pos h
theorem v0m {c:Cx}{w:Win}{m:Msg}(h:f0u c∧Wi.valid w=true)(h2:(a0C m).2≠0):oqR c w m=m0u (a0C m).2:=(if_neg (fun g=>g h)).trans (if_pos h2)
theorem v0l {c:Cx}{w:Win}{m:Msg}(h:f0u c∧Wi.valid w=true)(h2:(a0C m).2=0)(h3: ¬j0R (a0C m).1):oqR c w m=m0u 4:=(if_neg (fun g=>g h)).trans ((if_neg (fun g=>g h2)).trans (if_pos h3))
theorem v0k {c:Cx}{w:Win}{m:Msg}(h:f0u c∧Wi.valid w=true)(h2:(a0C m).2=0)(h3:j0R (a0C m).1)(h4: ¬e0j c (a0C m).1):oqR c w m=m0u 18:=(if_neg (fun g=>g h)).trans ((if_neg (fun g=>g h2)).trans ((if_neg (fun g=>g h3)).trans (if_pos h4)))
theorem v0j {c:Cx}{w:Win}{m:Msg}(h:f0u c∧Wi.valid w=true)(h2:(a0C m).2=0)(h3:j0R (a0C m).1)(h4:e0j c (a0C m).1)(h5: ¬r0N w (a0C m).1.piv):oqR c w m=m0u (Wi.check w (a0C m).1.piv):=(if_neg (fun g=>g h)).trans ((if_neg (fun g=>g h2)).trans ((if_neg (fun g=>g h3)).trans ((if_neg (fun g=>g h4)).trans (if_pos h5))))
theorem q0V {c:Cx}{w:Win}{m:Msg}(h:f0u c∧Wi.valid w=true)(h2:(a0C m).2=0)(h3:j0R (a0C m).1)(h4:e0j c (a0C m).1)(h5:r0N w (a0C m).1.piv)(h6:(oqP c m).2≠0):oqR c w m=m0u (oqP c m).2:=(if_neg (fun g=>g h)).trans ((if_neg (fun g=>g h2)).trans ((if_neg (fun g=>g h3)).trans ((if_neg (fun g=>g h4)).trans ((if_neg (fun g=>g h5)).trans (if_pos h6)))))
theorem q0U {c:Cx}{w:Win}{m:Msg}(h:f0u c∧Wi.valid w=true)(h2:(a0C m).2=0)(h3:j0R (a0C m).1)(h4:e0j c (a0C m).1)(h5:r0N w (a0C m).1.piv)(h6:(oqP c m).2=0):oqR c w m=((oqP c m).1,⟨(a0C m).1.ctx,(a0C m).1.kid,(a0C m).1.piv⟩,(if w.l=true then w else Wi.acc w (a0C m).1.piv),0):=(if_neg (fun g=>g h)).trans ((if_neg (fun g=>g h2)).trans ((if_neg (fun g=>g h3)).trans ((if_neg (fun g=>g h4)).trans ((if_neg (fun g=>g h5)).trans (if_neg (fun g=>g h6))))))
theorem e0g (e:Int):Sp Tryz.prog 98 [.val (.int .i64 e)] [] (Is (t0c (m0u e))):=by
 refine yX Tryz.func98 _ Tryz.ntmps98 (fun w0 R0=> ?_)
 refine zD (zr ?_)
 refine zd ?_
 intro B1
 refine zd ?_
 intro B2
 refine zd ?_
 intro B3
 refine zc (zJ (zn (zD (zr ?_))))
 refine zP ?_
 refine zP ?_
 refine zP ?_
 refine zb ?_
 refine za 2 ?_
 refine za 1 ?_
 refine za 0 ?_
 refine zc (zJ (zn (xj ?_)))
 refine wa zE zl (⟨rfl,rfl⟩)
set_option maxHeartbeats 8000000 in
theorem v0o (c:Cx)(w:Win)(m:Msg)(hw:w.ok)(hm:SmT m):Sp Tryz.prog 51 [j0N c,n0v w,b0c m] [] (Is (t0c (oqR c w m))):=by
 have hmo:=u0U hm.1
 refine yX Tryz.func51 _ Tryz.ntmps51 (fun w0 R0=> ?_)
 refine zD (zr ?_)
 refine yo ?_
 intro B1
 refine yo ?_
 intro B2
 refine yo ?_
 intro B3
 refine zd ?_
 intro B4
 refine zd ?_
 intro B5
 refine zd ?_
 intro B6
 refine zc (zJ (zn (zD (zr ?_))))
 refine zc (zJ (zn (zD (zD (zr ?_)))))
 refine zA ?_
 refine vO (xM rfl Tryz.func27 rfl rfl rfl (j0e c)) ?_
 refine xu ?_
 refine zb ?_
 refine wx ?_
 refine AO.opG rfl rfl rfl (fun hp=>ve 23 rfl (by exact hp) (xM rfl Tryz.func99 rfl rfl rfl (s0C w hw))) ?_
 refine xc 24 ?_
 refine zI (zJ (zn ?_))
 refine yt (fun h1=> ?_) (fun h1=> ?_)<;>(try simp only[vT]at h1)
 ·rw[v0n (fun g=>by rcases h1 with h|h;exact h g.1;rw[g.2]at h;cases h)]
  refine zD (zr ?_)
  refine zb ?_
  refine vO (O.callV rfl rfl Tryz.func98 rfl rfl rfl (e0g _)) ?_
  refine zK ?_
  refine zK ?_
  refine zK ?_
  refine zK ?_
  refine za 2 ?_
  refine za 1 ?_
  refine za 0 ?_
  refine zc (zJ (zn (xj (xx ?_))))
  refine wa zE yR (⟨rfl,rfl⟩)
 have h1':f0u c∧Wi.valid w=true:=h1
 obtain⟨-,k9,k10,k11⟩:=id h1'.1
 refine y6 (zn (zD (zr ?_)))
 refine zA ?_
 refine vO (xM rfl Tryz.func21 rfl rfl rfl (q0S m hmo)) ?_
 refine zb ?_
 refine zK ?_
 refine zK ?_
 refine zd ?_
 intro B7
 refine za 0 ?_
 refine zc (zJ (zn (zD (zD (zr ?_)))))
 refine zb ?_
 refine y2 (zJ (zn ?_))
 refine yt (fun h2=> ?_) (fun h2=> ?_)<;>(try simp only[vT]at h2)
 ·rw[v0m h1' h2]
  refine zD (zr ?_)
  refine zb ?_
  refine zb ?_
  refine vO (O.callV rfl rfl Tryz.func98 rfl rfl rfl (e0g _)) ?_
  refine zK ?_
  refine zK ?_
  refine zK ?_
  refine zK ?_
  refine za 3 ?_
  refine za 2 ?_
  refine za 1 ?_
  refine zc (zJ (zn (xj (xx ?_))))
  refine wa yr yR (⟨rfl,rfl⟩)
 have h2':=h2
 have hvc:=i0T h2
 obtain⟨⟨p1,p2, -, -⟩, -⟩:=hvc
 have hin:W.i64In (a0C m).1.piv:=by unfold W.i64In;omega
 refine y6 (zn (zD (zD (zr ?_))))
 refine zq ?_
 refine zv ?_
 refine zT ?_
 refine zb ?_
 refine zN ?_
 refine zw 51 ?_
 refine xc 52 ?_
 refine zI ?_
 refine zb ?_
 refine zN ?_
 refine zw 56 ?_
 refine zI (zJ (zn ?_))
 refine yt (fun h3=> ?_) (fun h3=> ?_)<;>(try simp only[vT]at h3)
 ·rw[v0l h1' h2' (fun g=>by
   obtain⟨g1,g2,g3⟩:=g
   rw[g2,g3]at h3
   simp at h3
   omega)]
  refine zD (zr ?_)
  refine zb ?_
  refine vO (O.callV rfl rfl Tryz.func98 rfl rfl rfl (e0g _)) ?_
  refine zK ?_
  refine zK ?_
  refine zK ?_
  refine zK ?_
  refine za 3 ?_
  refine za 2 ?_
  refine za 1 ?_
  refine zc (zJ (zn (xj (xx ?_))))
  refine wa yr yR (⟨rfl,rfl⟩)
 have h3':j0R (a0C m).1:=by
  obtain⟨⟨g1,g2⟩,g3⟩:=h3
  exact⟨by omega,by simpa using g2,by simpa using g3⟩
 refine y6 (zn (zD (zD (zr ?_))))
 refine zq ?_
 refine zv ?_
 refine zq ?_
 refine zq ?_
 refine zp ?_
 refine vO (xM rfl Tryz.func92 rfl rfl rfl (l0F _ _)) ?_
 refine xu ?_
 refine zb ?_
 refine zN ?_
 refine zw 73 ?_
 refine zN ?_
 refine AO.opG rfl rfl rfl (fun hp=>ve 75 rfl (by exact hp) zx) ?_
 refine yn 76 ?_
 refine AO.opG rfl rfl rfl (fun hp=>ve 74 rfl (by exact hp) (ve 77 rfl (by exact hp) (O.neqB rfl rfl rfl (by rfl)))) ?_
 refine zI ?_
 refine zb ?_
 refine zN ?_
 refine zw 81 ?_
 refine zN ?_
 refine AO.opG rfl rfl rfl (fun hp=>ve 83 rfl (by exact hp) zx) ?_
 refine yn 84 ?_
 refine AO.opG rfl rfl rfl (fun hp=>ve 82 rfl (by exact hp) (ve 85 rfl (by exact hp) (xM rfl Tryz.func92 rfl rfl rfl (l0F _ _)))) ?_
 refine xc 86 ?_
 refine zI (zJ (zn ?_))
 refine yt (fun h4=> ?_) (fun h4=> ?_)<;>(try simp only[vT]at h4)
 ·rw[v0k h1' h2' h3' (fun g=>by
   obtain⟨g1,g2,g3⟩:=g
   rcases h4 with(h|h)|h
   ·exact h g1
   ·exact h g2
   exact h g3)]
  refine zD (zr ?_)
  refine zb ?_
  refine vO (O.callV rfl rfl Tryz.func98 rfl rfl rfl (e0g _)) ?_
  refine zK ?_
  refine zK ?_
  refine zK ?_
  refine zK ?_
  refine za 3 ?_
  refine za 2 ?_
  refine za 1 ?_
  refine zc (zJ (zn (xj (xx ?_))))
  refine wa yr yR (⟨rfl,rfl⟩)
 have h4':e0j c (a0C m).1:=⟨h4.1.1,(by exact h4.1.2),h4.2⟩
 refine y6 (zn (zD (zD (zr ?_))))
 refine zq ?_
 refine zp ?_
 refine xu (zJ (zn ?_))
 have hal:=f0M (a0C m).1.kid (a0C m).1.piv
 have hop:Sp Tryz.prog 93 [j0N c,b0c m,roB (b0S c.com (a0C m).1.kid (a0C m).1.piv).1,roB (i0F (a0C m).1.kid (a0C m).1.piv).1,.fn (.func 57) []] [] (Is (i0S (oqP c m))):=o0Q c m _ _ hm.1 (by omega) hm.2
 refine yt (fun hL=> ?_) (fun hL=> ?_)<;>(try simp only[vT]at hL)
 ·have hL': ¬w.l=true:=by rw[hL];simp
  refine zD (zr ?_)
  refine zA ?_
  refine zq ?_
  refine zv ?_
  refine vO (xM rfl Tryz.func100 rfl rfl rfl (v0O w hw _ hin)) ?_
  refine zc (zJ (zn (zD (zr ?_))))
  refine zb ?_
  refine y2 (zJ (zn ?_))
  refine yt (fun h5=> ?_) (fun h5=> ?_)<;>(try simp only[vT]at h5)
  ·rw[v0j h1' h2' h3' h4' (fun g=>g.elim hL' h5)]
   refine zD (zr ?_)
   refine zb ?_
   refine zb ?_
   refine vO (O.callV rfl rfl Tryz.func98 rfl rfl rfl (e0g _)) ?_
   refine zK ?_
   refine zK ?_
   refine zK ?_
   refine zK ?_
   refine za 3 ?_
   refine za 2 ?_
   refine za 1 ?_
   refine zc (zJ (zn (xj (xx ?_))))
   refine wa yr yR (⟨rfl,rfl⟩)
  refine y6 (zn (zD (zr ?_)))
  refine zq ?_
  refine zp ?_
  refine zq ?_
  refine zv ?_
  refine zq ?_
  refine zv ?_
  refine vO (xM rfl Tryz.func59 rfl rfl rfl (i0h _ _ _ (by omega))) ?_
  refine zb ?_
  refine zK ?_
  refine zK ?_
  refine zc ?_
  refine zc (zJ (zn (zD (zr ?_))))
  refine zq ?_
  refine zv ?_
  refine zq ?_
  refine zv ?_
  refine vO (xM rfl Tryz.func60 rfl rfl rfl (k0O _ _)) ?_
  refine zb ?_
  refine zK ?_
  refine zK ?_
  refine zc ?_
  refine zc (zJ (zn (zD (zr ?_))))
  refine zA ?_
  refine zA ?_
  refine zb ?_
  refine zb ?_
  refine vO (xM rfl Tryz.func93 rfl rfl rfl hop) ?_
  refine zb ?_
  refine zK ?_
  refine zK ?_
  refine zd ?_
  intro B8
  refine za 0 ?_
  refine zc (zJ (zn (zD (zD (zr ?_)))))
  refine zb ?_
  refine y2 (zJ (zn ?_))
  refine yt (fun h6=> ?_) (fun h6=> ?_)<;>(try simp only[vT]at h6)
  ·rw[q0V h1' h2' h3' h4' (.inr h5) h6]
   refine zD (zr ?_)
   refine zb ?_
   refine zb ?_
   refine vO (O.callV rfl rfl Tryz.func98 rfl rfl rfl (e0g _)) ?_
   refine zK ?_
   refine zK ?_
   refine zK ?_
   refine zK ?_
   refine za 4 ?_
   refine za 3 ?_
   refine za 2 ?_
   refine zc (zJ (zn (xj (xx ?_))))
   refine wa yr yR (⟨rfl,rfl⟩)
  have e7:=q0U h1' h2' h3' h4' (.inr h5) h6
  rw[if_neg hL']at e7
  rw[e7]
  refine y6 (zn (zD (zD (zr ?_))))
  refine zq ?_
  refine zp ?_
  refine xu (zJ (zn ?_))
  refine yt (fun h8=> ?_) (fun h8=> ?_)<;>(try simp only[vT]at h8)
  ·refine zr ?_
   refine zA ?_
   refine zq ?_
   refine zp ?_
   refine vO (xM rfl Tryz.func101 rfl rfl rfl (v0Y w hw _ hin)) ?_
   refine zb ?_
   refine zK ?_
   refine zK ?_
   refine za 6 (zJ (zn (zD ?_)))
   refine vl [(0,false),(1,false),(2,false),(3,false),(4,false),(5,false),(6,false),(7,false),(8,false),(9,true),(10,true),(11,true),(12,false)] ?_
   dsimp only[List.eraseIdx]
   refine yJ ?_
   refine y1 ?_
   refine yu ?_
   refine y1 ?_
   refine yu ?_
   refine y1 ?_
   refine yu ?_
   refine xP ?_
   refine zQ ?_
   refine xN _ (fun w0 R0=> ?_)
   refine za 2 (vI ?_)
   dsimp only[a0q]
   refine xN _ (fun w0 R0=> ?_)
   refine za 1 (vI ?_)
   dsimp only[a0q]
   refine xN _ (fun w0 R0=> ?_)
   refine za 0 (vI ?_)
   dsimp only[a0q]
   refine wb ?_
   refine vd ?_
   dsimp only[cA,cN]
   refine zn (xj ?_)
   refine wa zE yR (⟨rfl,rfl⟩)
  exact absurd h8 hL'
 refine y6 (zn (zD (zr ?_)))
 refine zq ?_
 refine zp ?_
 refine zq ?_
 refine zv ?_
 refine zq ?_
 refine zv ?_
 refine vO (xM rfl Tryz.func59 rfl rfl rfl (i0h _ _ _ (by omega))) ?_
 refine zb ?_
 refine zK ?_
 refine zK ?_
 refine zc ?_
 refine zc (zJ (zn (zD (zr ?_))))
 refine zq ?_
 refine zv ?_
 refine zq ?_
 refine zv ?_
 refine vO (xM rfl Tryz.func60 rfl rfl rfl (k0O _ _)) ?_
 refine zb ?_
 refine zK ?_
 refine zK ?_
 refine zc ?_
 refine zc (zJ (zn (zD (zr ?_))))
 refine zA ?_
 refine zA ?_
 refine zb ?_
 refine zb ?_
 refine vO (xM rfl Tryz.func93 rfl rfl rfl hop) ?_
 refine zb ?_
 refine zK ?_
 refine zK ?_
 refine zd ?_
 intro B9
 refine za 0 ?_
 refine zc (zJ (zn (zD (zD (zr ?_)))))
 refine zb ?_
 refine y2 (zJ (zn ?_))
 refine yt (fun h6=> ?_) (fun h6=> ?_)<;>(try simp only[vT]at h6)
 ·rw[q0V h1' h2' h3' h4' (.inl hL) h6]
  refine zD (zr ?_)
  refine zb ?_
  refine zb ?_
  refine vO (O.callV rfl rfl Tryz.func98 rfl rfl rfl (e0g _)) ?_
  refine zK ?_
  refine zK ?_
  refine zK ?_
  refine zK ?_
  refine za 4 ?_
  refine za 3 ?_
  refine za 2 ?_
  refine zc (zJ (zn (xj (xx ?_))))
  refine wa yr yR (⟨rfl,rfl⟩)
 have e7:=q0U h1' h2' h3' h4' (.inl hL) h6
 rw[if_pos hL]at e7
 rw[e7]
 refine y6 (zn (zD (zD (zr ?_))))
 refine zq ?_
 refine zp ?_
 refine xu (zJ (zn ?_))
 refine yt (fun h8=> ?_) (fun h8=> ?_)<;>(try simp only[vT]at h8)
 ·rw[hL]at h8
  cases h8
 refine y6 (zn (zD ?_))
 refine vl [(0,false),(1,false),(2,false),(3,false),(4,false),(5,false),(6,false),(7,false),(8,false),(9,true),(10,true),(11,true),(12,false)] ?_
 dsimp only[List.eraseIdx]
 refine yJ ?_
 refine y1 ?_
 refine yu ?_
 refine y1 ?_
 refine yu ?_
 refine y1 ?_
 refine yu ?_
 refine xP ?_
 refine zQ ?_
 refine xN _ (fun w0 R0=> ?_)
 refine za 2 (vI ?_)
 dsimp only[a0q]
 refine xN _ (fun w0 R0=> ?_)
 refine za 1 (vI ?_)
 dsimp only[a0q]
 refine xN _ (fun w0 R0=> ?_)
 refine za 0 (vI ?_)
 dsimp only[a0q]
 refine wb ?_
 refine vd ?_
 dsimp only[cA,cN]
 refine zn (xj ?_)
 refine wa zE yR (⟨rfl,rfl⟩)
set_option maxHeartbeats 8000000 in
theorem u0X (c:Cx)(w:Win)(m:Msg)(hw:w.ok)(hm:SmT m):Sp Tryz.prog 52 [j0N c,n0v w,b0c m] [] (Is (t0c (oqR c w m))):=by
 have hmo:=u0U hm.1
 refine yX Tryz.func52 _ Tryz.ntmps52 (fun w0 R0=> ?_)
 refine zD (zr ?_)
 refine yo ?_
 intro B1
 refine yo ?_
 intro B2
 refine yo ?_
 intro B3
 refine zd ?_
 intro B4
 refine zd ?_
 intro B5
 refine zd ?_
 intro B6
 refine zc (zJ (zn (zD (zr ?_))))
 refine zP ?_
 refine zd ?_
 intro B7
 refine za 0 (zJ (zn (zD (zD (zr ?_)))))
 refine zA ?_
 refine vO (xM rfl Tryz.func28 rfl rfl rfl (h0k c)) ?_
 refine xu ?_
 refine zb ?_
 refine wx ?_
 refine AO.opG rfl rfl rfl (fun hp=>ve 24 rfl (by exact hp) (xM rfl Tryz.func102 rfl rfl rfl (q0q w hw))) ?_
 refine xc 25 ?_
 refine zI (zJ (zn ?_))
 refine yt (fun h1=> ?_) (fun h1=> ?_)<;>(try simp only[vT]at h1)
 ·rw[v0n (fun g=>by rcases h1 with h|h;exact h g.1;rw[g.2]at h;cases h)]
  refine zD ?_
  refine AW.regionM [(0,false),(1,false),(2,false),(3,true),(4,true),(5,true),(6,false)] (by kernel_rfl) (by kernel_rfl) (by exact(a0s 1 rfl (a0s 1 rfl (a0s 1 rfl a0g)))) ?_
  dsimp only[List.eraseIdx]
  refine xP ?_
  refine xP ?_
  refine yJ ?_
  refine xN _ (fun w0 R0=> ?_)
  refine za 2 (vI ?_)
  dsimp only[a0q]
  refine xN _ (fun w0 R0=> ?_)
  refine za 1 (vI ?_)
  dsimp only[a0q]
  refine xN _ (fun w0 R0=> ?_)
  refine za 0 (vI ?_)
  dsimp only[a0q]
  refine wb ?_
  refine vd ?_
  dsimp only[cA,cN]
  refine zn (xj (xx ?_))
  refine wa zE zl (⟨rfl,rfl⟩)
 have h1':f0u c∧Wi.valid w=true:=h1
 obtain⟨-,k9,k10,k11⟩:=id h1'.1
 refine y6 (zn (zD (zr ?_)))
 refine zA ?_
 refine vO (xM rfl Tryz.func22 rfl rfl rfl (q0u m hmo)) ?_
 refine zb ?_
 refine zK ?_
 refine zK ?_
 refine zd ?_
 intro B8
 refine za 0 ?_
 refine zc (zJ (zn (zD (zD (zr ?_)))))
 refine zb ?_
 refine y2 (zJ (zn ?_))
 refine yt (fun h2=> ?_) (fun h2=> ?_)<;>(try simp only[vT]at h2)
 ·rw[v0m h1' h2]
  refine zD ?_
  refine vl [(0,false),(1,false),(2,false),(3,false),(4,true),(5,true),(6,true),(7,false)] ?_
  dsimp only[List.eraseIdx]
  refine xP ?_
  refine xP ?_
  refine zQ ?_
  refine yW ?_
  refine xN _ (fun w0 R0=> ?_)
  refine za 2 (vI ?_)
  dsimp only[a0q]
  refine xN _ (fun w0 R0=> ?_)
  refine za 1 (vI ?_)
  dsimp only[a0q]
  refine xN _ (fun w0 R0=> ?_)
  refine za 0 (vI ?_)
  dsimp only[a0q]
  refine wb ?_
  refine vd ?_
  dsimp only[cA,cN]
  refine zn (xj (xx ?_))
  refine wa zE zl (⟨rfl,rfl⟩)
 have h2':=h2
 have hvc:=i0T h2
 obtain⟨⟨p1,p2, -, -⟩, -⟩:=hvc
 have hin:W.i64In (a0C m).1.piv:=by unfold W.i64In;omega
 refine y6 (zn (zD (zD (zr ?_))))
 refine zq ?_
 refine zv ?_
 refine zT ?_
 refine zb ?_
 refine zN ?_
 refine zw 46 ?_
 refine xc 47 ?_
 refine zI ?_
 refine zb ?_
 refine zN ?_
 refine zw 51 ?_
 refine zI (zJ (zn ?_))
 refine yt (fun h3=> ?_) (fun h3=> ?_)<;>(try simp only[vT]at h3)
 ·rw[v0l h1' h2' (fun g=>by
   obtain⟨g1,g2,g3⟩:=g
   rw[g2,g3]at h3
   simp at h3
   omega)]
  refine zD ?_
  refine vl [(0,false),(1,false),(2,false),(3,true),(4,true),(5,true),(6,false)] ?_
  dsimp only[List.eraseIdx]
  refine xP ?_
  refine xP ?_
  refine zQ ?_
  refine xN _ (fun w0 R0=> ?_)
  refine za 2 (vI ?_)
  dsimp only[a0q]
  refine xN _ (fun w0 R0=> ?_)
  refine za 1 (vI ?_)
  dsimp only[a0q]
  refine xN _ (fun w0 R0=> ?_)
  refine za 0 (vI ?_)
  dsimp only[a0q]
  refine wb ?_
  refine vd ?_
  dsimp only[cA,cN]
  refine zn (xj (xx ?_))
  refine wa zE zl (⟨rfl,rfl⟩)
 have h3':j0R (a0C m).1:=by
  obtain⟨⟨g1,g2⟩,g3⟩:=h3
  exact⟨by omega,by simpa using g2,by simpa using g3⟩
 refine y6 (zn (zD (zD (zr ?_))))
 refine zq ?_
 refine zv ?_
 refine zq ?_
 refine zq ?_
 refine zp ?_
 refine vO (xM rfl Tryz.func31 rfl rfl rfl (c0b _ _)) ?_
 refine xu ?_
 refine zb ?_
 refine zN ?_
 refine zw 65 ?_
 refine zN ?_
 refine AO.opG rfl rfl rfl (fun hp=>ve 67 rfl (by exact hp) zx) ?_
 refine yn 68 ?_
 refine AO.opG rfl rfl rfl (fun hp=>ve 66 rfl (by exact hp) (ve 69 rfl (by exact hp) (O.neqB rfl rfl rfl (by rfl)))) ?_
 refine zI ?_
 refine zb ?_
 refine zN ?_
 refine zw 73 ?_
 refine zN ?_
 refine AO.opG rfl rfl rfl (fun hp=>ve 75 rfl (by exact hp) zx) ?_
 refine yn 76 ?_
 refine AO.opG rfl rfl rfl (fun hp=>ve 74 rfl (by exact hp) (ve 77 rfl (by exact hp) (xM rfl Tryz.func31 rfl rfl rfl (c0b _ _)))) ?_
 refine xc 78 ?_
 refine zI (zJ (zn ?_))
 refine yt (fun h4=> ?_) (fun h4=> ?_)<;>(try simp only[vT]at h4)
 ·rw[v0k h1' h2' h3' (fun g=>by
   obtain⟨g1,g2,g3⟩:=g
   rcases h4 with(h|h)|h
   ·exact h g1
   ·exact h g2
   exact h g3)]
  refine zD ?_
  refine vl [(0,false),(1,false),(2,false),(3,true),(4,true),(5,true),(6,false)] ?_
  dsimp only[List.eraseIdx]
  refine xP ?_
  refine xP ?_
  refine zQ ?_
  refine xN _ (fun w0 R0=> ?_)
  refine za 2 (vI ?_)
  dsimp only[a0q]
  refine xN _ (fun w0 R0=> ?_)
  refine za 1 (vI ?_)
  dsimp only[a0q]
  refine xN _ (fun w0 R0=> ?_)
  refine za 0 (vI ?_)
  dsimp only[a0q]
  refine wb ?_
  refine vd ?_
  dsimp only[cA,cN]
  refine zn (xj (xx ?_))
  refine wa zE zl (⟨rfl,rfl⟩)
 have h4':e0j c (a0C m).1:=⟨h4.1.1,(by exact h4.1.2),h4.2⟩
 refine y6 (zn (zD (zD (zr ?_))))
 refine zq ?_
 refine zp ?_
 refine xu (zJ (zn ?_))
 have hal:=f0M (a0C m).1.kid (a0C m).1.piv
 have hop:Sp Tryz.prog 94 [b0c m,roB m.pay,roB c.rk,roB (b0S c.com (a0C m).1.kid (a0C m).1.piv).1,roB (i0F (a0C m).1.kid (a0C m).1.piv).1,.val (.bool true)] [] (Is (i0S (oqP c m))):=o0N m _ _ _ true hm.1 (by omega) hm.2
 refine yt (fun hL=> ?_) (fun hL=> ?_)<;>(try simp only[vT]at hL)
 ·have hL': ¬w.l=true:=by rw[hL];simp
  refine zD (zr ?_)
  refine zA ?_
  refine zq ?_
  refine zv ?_
  refine vO (xM rfl Tryz.func103 rfl rfl rfl (t0d w hw _ hin)) ?_
  refine zc (zJ (zn (zD (zr ?_))))
  refine zb ?_
  refine y2 (zJ (zn ?_))
  refine yt (fun h5=> ?_) (fun h5=> ?_)<;>(try simp only[vT]at h5)
  ·rw[v0j h1' h2' h3' h4' (fun g=>g.elim hL' h5)]
   refine zD ?_
   refine vl [(0,false),(1,false),(2,false),(3,false),(4,true),(5,true),(6,true),(7,false)] ?_
   dsimp only[List.eraseIdx]
   refine xP ?_
   refine xP ?_
   refine zQ ?_
   refine yW ?_
   refine xN _ (fun w0 R0=> ?_)
   refine za 2 (vI ?_)
   dsimp only[a0q]
   refine xN _ (fun w0 R0=> ?_)
   refine za 1 (vI ?_)
   dsimp only[a0q]
   refine xN _ (fun w0 R0=> ?_)
   refine za 0 (vI ?_)
   dsimp only[a0q]
   refine wb ?_
   refine vd ?_
   dsimp only[cA,cN]
   refine zn (xj (xx ?_))
   refine wa zE zl (⟨rfl,rfl⟩)
  refine y6 (zn (zD (zr ?_)))
  refine zq ?_
  refine zp ?_
  refine zq ?_
  refine zv ?_
  refine zq ?_
  refine zv ?_
  refine vO (xM rfl Tryz.func66 rfl rfl rfl (g0c _ _ _ (by omega))) ?_
  refine zb ?_
  refine zK ?_
  refine zK ?_
  refine zc ?_
  refine zc (zJ (zn (zD (zr ?_))))
  refine zq ?_
  refine zv ?_
  refine zq ?_
  refine zv ?_
  refine vO (xM rfl Tryz.func67 rfl rfl rfl (k0s _ _)) ?_
  refine zb ?_
  refine zK ?_
  refine zK ?_
  refine zc ?_
  refine zc (zJ (zn (zD (zr ?_))))
  refine zA ?_
  refine zq ?_
  refine zp ?_
  refine zq ?_
  refine zp ?_
  refine zb ?_
  refine zb ?_
  refine vO (xM rfl Tryz.func94 rfl rfl rfl hop) ?_
  refine zb ?_
  refine zK ?_
  refine zK ?_
  refine zd ?_
  intro B9
  refine za 0 ?_
  refine zc (zJ (zn (zD (zD (zr ?_)))))
  refine zb ?_
  refine y2 (zJ (zn ?_))
  refine yt (fun h6=> ?_) (fun h6=> ?_)<;>(try simp only[vT]at h6)
  ·rw[q0V h1' h2' h3' h4' (.inr h5) h6]
   refine zD ?_
   refine AW.regionM [(0,false),(1,false),(2,false),(3,false),(4,true),(5,true),(6,true),(7,false)] (by kernel_rfl) (by kernel_rfl) (by exact(a0s 3 rfl (a0s 3 rfl (a0s 3 rfl a0g)))) ?_
   dsimp only[List.eraseIdx]
   refine xP ?_
   refine xP ?_
   refine zQ ?_
   refine yW ?_
   refine xN _ (fun w0 R0=> ?_)
   refine za 2 (vI ?_)
   dsimp only[a0q]
   refine xN _ (fun w0 R0=> ?_)
   refine za 1 (vI ?_)
   dsimp only[a0q]
   refine xN _ (fun w0 R0=> ?_)
   refine za 0 (vI ?_)
   dsimp only[a0q]
   refine wb ?_
   refine vd ?_
   dsimp only[cA,cN]
   refine zn (xj (xx ?_))
   refine wa zE zl (⟨rfl,rfl⟩)
  have e7:=q0U h1' h2' h3' h4' (.inr h5) h6
  rw[if_neg hL']at e7
  rw[e7]
  refine y6 (zn (zD (zD (zr ?_))))
  refine zq ?_
  refine zp ?_
  refine xu (zJ (zn ?_))
  refine yt (fun h8=> ?_) (fun h8=> ?_)<;>(try simp only[vT]at h8)
  ·refine zr ?_
   refine zA ?_
   refine zq ?_
   refine zp ?_
   refine vO (xM rfl Tryz.func96 rfl rfl rfl (t0j w hw _ hin)) ?_
   refine zb ?_
   refine zK ?_
   refine zK ?_
   refine za 7 (zJ (zn (zD ?_)))
   refine AW.regionM [(0,false),(1,false),(2,false),(3,false),(4,false),(5,false),(6,false),(7,false),(8,false),(9,true),(10,true),(11,true),(12,false)] (by kernel_rfl) (by kernel_rfl) (by exact(a0s 3 rfl (a0s 3 rfl (a0s 3 rfl a0g)))) ?_
   dsimp only[List.eraseIdx]
   refine yJ ?_
   refine y1 ?_
   refine yu ?_
   refine y1 ?_
   refine yu ?_
   refine y1 ?_
   refine yu ?_
   refine xP ?_
   refine zQ ?_
   refine xN _ (fun w0 R0=> ?_)
   refine za 2 (vI ?_)
   dsimp only[a0q]
   refine xN _ (fun w0 R0=> ?_)
   refine za 1 (vI ?_)
   dsimp only[a0q]
   refine xN _ (fun w0 R0=> ?_)
   refine za 0 (vI ?_)
   dsimp only[a0q]
   refine wb ?_
   refine vd ?_
   dsimp only[cA,cN]
   refine zn (xj ?_)
   refine wa zE yR (⟨rfl,rfl⟩)
  exact absurd h8 hL'
 refine y6 (zn (zD (zr ?_)))
 refine zq ?_
 refine zp ?_
 refine zq ?_
 refine zv ?_
 refine zq ?_
 refine zv ?_
 refine vO (xM rfl Tryz.func66 rfl rfl rfl (g0c _ _ _ (by omega))) ?_
 refine zb ?_
 refine zK ?_
 refine zK ?_
 refine zc ?_
 refine zc (zJ (zn (zD (zr ?_))))
 refine zq ?_
 refine zv ?_
 refine zq ?_
 refine zv ?_
 refine vO (xM rfl Tryz.func67 rfl rfl rfl (k0s _ _)) ?_
 refine zb ?_
 refine zK ?_
 refine zK ?_
 refine zc ?_
 refine zc (zJ (zn (zD (zr ?_))))
 refine zA ?_
 refine zq ?_
 refine zp ?_
 refine zq ?_
 refine zp ?_
 refine zb ?_
 refine zb ?_
 refine vO (xM rfl Tryz.func94 rfl rfl rfl hop) ?_
 refine zb ?_
 refine zK ?_
 refine zK ?_
 refine zd ?_
 intro B10
 refine za 0 ?_
 refine zc (zJ (zn (zD (zD (zr ?_)))))
 refine zb ?_
 refine y2 (zJ (zn ?_))
 refine yt (fun h6=> ?_) (fun h6=> ?_)<;>(try simp only[vT]at h6)
 ·rw[q0V h1' h2' h3' h4' (.inl hL) h6]
  refine zD ?_
  refine AW.regionM [(0,false),(1,false),(2,false),(3,false),(4,true),(5,true),(6,true),(7,false)] (by kernel_rfl) (by kernel_rfl) (by exact(a0s 3 rfl (a0s 3 rfl (a0s 3 rfl a0g)))) ?_
  dsimp only[List.eraseIdx]
  refine xP ?_
  refine xP ?_
  refine zQ ?_
  refine yW ?_
  refine xN _ (fun w0 R0=> ?_)
  refine za 2 (vI ?_)
  dsimp only[a0q]
  refine xN _ (fun w0 R0=> ?_)
  refine za 1 (vI ?_)
  dsimp only[a0q]
  refine xN _ (fun w0 R0=> ?_)
  refine za 0 (vI ?_)
  dsimp only[a0q]
  refine wb ?_
  refine vd ?_
  dsimp only[cA,cN]
  refine zn (xj (xx ?_))
  refine wa zE zl (⟨rfl,rfl⟩)
 have e7:=q0U h1' h2' h3' h4' (.inl hL) h6
 rw[if_pos hL]at e7
 rw[e7]
 refine y6 (zn (zD (zD (zr ?_))))
 refine zq ?_
 refine zp ?_
 refine xu (zJ (zn ?_))
 refine yt (fun h8=> ?_) (fun h8=> ?_)<;>(try simp only[vT]at h8)
 ·rw[hL]at h8
  cases h8
 refine y6 (zn (zD ?_))
 refine AW.regionM [(0,false),(1,false),(2,false),(3,false),(4,false),(5,false),(6,false),(7,false),(8,false),(9,true),(10,true),(11,true),(12,false)] (by kernel_rfl) (by kernel_rfl) (by exact(a0s 3 rfl (a0s 3 rfl (a0s 3 rfl a0g)))) ?_
 dsimp only[List.eraseIdx]
 refine yJ ?_
 refine y1 ?_
 refine yu ?_
 refine y1 ?_
 refine yu ?_
 refine y1 ?_
 refine yu ?_
 refine xP ?_
 refine zQ ?_
 refine xN _ (fun w0 R0=> ?_)
 refine za 2 (vI ?_)
 dsimp only[a0q]
 refine xN _ (fun w0 R0=> ?_)
 refine za 1 (vI ?_)
 dsimp only[a0q]
 refine xN _ (fun w0 R0=> ?_)
 refine za 0 (vI ?_)
 dsimp only[a0q]
 refine wb ?_
 refine vd ?_
 dsimp only[cA,cN]
 refine zn (xj ?_)
 refine wa zE yR (⟨rfl,rfl⟩)
end Go.Proofs.YtojomcdjcpmnkaaGreat.By
namespace Go.Proofs.YtojomcdjcpmnkaaGreat.Wi
open Go.RowKit L A Dk W
attribute [local irreducible] AW AQ AO
theorem n0A (w:Win):(u0J w).take 4=u0J w:=rfl
def oLoop (l:List Int):Nat→Win→Int→Nat→Win×Nat
 |0,w,n,a=>(w,a)
 |k+1,w,n,a=>oLoop l k (if check w (n+(nxt l a 9-3))=0 then acc w (n+(nxt l a 9-3))else w) (n+(nxt l a 9-3)) (adv l a)
def sizes (z:Int):Int:=if z=0 then 1 else if z=1 then 2 else if z=2 then 4 else if z=3 then 16 else if z=4 then 63 else 64
theorem q0n {z:Int}(h:0≤z∧z<6):([.val (.int .i64 1),.val (.int .i64 2),.val (.int .i64 4),.val (.int .i64 16),.val (.int .i64 63),.val (.int .i64 64)]:List AV)[z.toNat*1]? =some (.val (.int .i64 (sizes z))):=by
 rcases(show z=0∨z=1∨z=2∨z=3∨z=4∨z=5 by omega)with rfl|rfl|rfl|rfl|rfl|rfl<;>rfl
def winOf (l:List Int)(a:Nat):Win×Nat:=
 let r:=oLoop l (nxt l (adv l a) 12).toNat (newW (sizes (nxt l a 6))) 0 (adv l (adv l a))
 (if nxt l r.2 6=5 then w0i r.1 else r.1,adv l r.2)
theorem u0m (s t:Int)(b:Nat)(n:Int)(hb:b<2^64)(h:t-n<64):u0n s t b n<2^64:=by
 unfold u0n
 split
 ·unfold accGt
  exact Nat.or_lt_two_pow (Nat.lt_of_le_of_lt Nat.and_le_left (Nat.mod_lt _ (by decide))) (by decide)
 unfold accLe
 exact Nat.or_lt_two_pow hb (Nat.pow_lt_pow_right (by decide) (by omega))
theorem s0s {w:Win}(h:w.ok){n:Int}(hn:i64In n):(acc w n).ok:=by
 unfold acc
 split
 ·rename_i h0
  obtain⟨h1,h2,h3⟩:=h
  refine⟨h1,?_,?_⟩
  ·show i64In (accT w.t n)
   unfold accT
   split
   ·exact hn
   exact h2
  have:=b0h h0
  exact u0m _ _ _ _ h3 (by omega)
 exact⟨⟨by decide,by decide⟩,⟨by decide,by decide⟩,by decide⟩
theorem s0A:zeroW.ok:=⟨⟨by decide,by decide⟩,⟨by decide,by decide⟩,by decide⟩
theorem x0p:i64In (-1):=⟨by decide,by decide⟩
theorem z64:(0:Nat)<2^64:=by decide
theorem s0c {n:Int}(h:i64In n):(newW n).ok:=by
 unfold newW
 split
 ·exact⟨h,x0p,z64⟩
 exact s0A
theorem t0L {w:Win}(h:w.ok):(w0i w).ok:=⟨h.1,x0p,z64⟩
theorem l0k (z:Int):i64In (sizes z):=by unfold sizes i64In;(repeat' split)<;>omega
theorem l0I (l:List Int): ∀(k:Nat) {w:Win} {n:Int} {a:Nat},w.ok→ -1000+6*(k:Int)≤n∧n≤1000-6*(k:Int)→a≤l.length→(oLoop l k w n a).1.ok∧(oLoop l k w n a).2≤l.length
 |0,w,n,a,h,_,ha=>⟨h,ha⟩
 |k+1,w,n,a,h,hn,ha=>by
  have hx:=e0a l a (n:=9) (by omega)
  refine l0I l k ?_ (by omega) (d0f ha)
  split
  ·exact s0s h (by unfold i64In;omega)
  exact h
theorem winOf_ok (l:List Int){a:Nat}(ha:a≤l.length):(winOf l a).1.ok∧(winOf l a).2≤l.length:=by
 have hx:=e0a l (adv l a) (n:=12) (by omega)
 have:=l0I l (nxt l (adv l a) 12).toNat (w:=newW (sizes (nxt l a 6))) (n:=0) (a:=adv l (adv l a)) (s0c (l0k _)) (by omega) (d0f (d0f ha))
 refine⟨?_,d0f this.2⟩
 unfold winOf
 simp only
 split
 ·exact t0L this.1
 exact this.1
theorem window_fn (b:Nat)(l:List Int)(a:Nat)(hl:l.length≤maxLen)(ha:a≤l.length):
  Sp Tryz.prog 50 [ptr b] [g0Y b l a] (IsM (n0s (winOf l a).1) (g0Y b l (winOf l a).2)):=by
 have n0:=e0a l a (n:=6) (by omega)
 have n1:=e0a l (adv l a) (n:=12) (by omega)
 refine yX Tryz.func50 _ Tryz.ntmps50 (fun w0 R0=> ?_)
 refine zD (zr ?_)
 refine zd ?_
 intro B
 refine zJ (zn (zD (zr ?_)))
 refine zR ?_
 intro B
 refine AO.g ?_
 refine yi 0 10 ?_
 refine wm 10 ?_
 refine AO.u ?_
 dsimp only[List.eraseIdx]
 refine zb ?_
 refine xz 1 rfl rfl Tryz.func33 rfl rfl rfl rfl rfl rfl (g0o _ _ _ _ hl (by repeat(assumption)) (by omega) (by omega)) ?_
 refine ye ?_
 refine vO (O.loadR rfl rfl (by exact q0n (by omega))) ?_
 refine vO (xM rfl Tryz.func95 rfl rfl rfl (s0Z _)) ?_
 refine zb ?_
 refine zK ?_
 refine zK ?_
 refine zd ?_
 intro B
 refine za 0 ?_
 refine zc (zJ (zn (zD (zr ?_))))
 refine zc (zJ (zn (zD (zD (zr ?_)))))
 refine zb ?_
 refine xz 2 rfl rfl Tryz.func33 rfl rfl rfl rfl rfl rfl (g0o _ _ _ _ hl (by repeat(first|assumption|refine d0f ?_)) (by omega) (by omega)) ?_
 refine zc (zJ (zn (xo ?_)))
 rename_i B1 _
 refine AW.loop (fun n E H=> ∃(k:Nat) (w:Win) (m:Int) (a':Nat),k≤11∧w.ok∧(-1000+6*(k:Int)≤m∧m≤1000-6*(k:Int))∧a'≤l.length∧oLoop l k w m a'=oLoop l (nxt l (adv l a) 12).toNat (newW (sizes (nxt l a 6))) 0 (adv l (adv l a))∧k=n∧E= [(0,ptr b),(2,.val (.pointer (some ⟨B1,0,none⟩))),(3,.val (.pointer (some ⟨B,0,none⟩))),(5,.val (.int .i64 m)),(6,.val (.int .i64 (k:Int)))]∧H= [.blk B 90 4 (u0J w),.blk B1 90 4 (u0J zeroW),g0Y b l a']) ((nxt l (adv l a) 12).toNat) (⟨(nxt l (adv l a) 12).toNat,newW (sizes (nxt l a 6)),0,adv l (adv l a),by omega,s0c (l0k _),by omega,d0f (d0f ha),rfl,rfl,by rw[Int.toNat_of_nonneg n1.1],rfl⟩) (by repeat(first|exact a0l|refine a0j rfl ?_)) ⟨_,by repeat(first|exact List.Sublist.slnil|refine List.Sublist.cons_cons _ ?_),List.Perm.refl _⟩ ?_
 rintro n E H ⟨k,w,m,a',hk,hok,hm,ha',hb,rfl,rfl,rfl⟩
 refine zD (zD (zr ?_))
 refine zb ?_
 refine yZ (zJ (zn ?_))
 refine yt (fun hpos=> ?_) (fun hpos=> ?_)
 ·have hpos:0<(k:Int):=of_decide_eq_true hpos
  obtain⟨j,rfl⟩: ∃j,k=j+1:=⟨k-1,by omega⟩
  have n2:=e0a l a' (n:=9) (by omega)
  have hin:i64In (m+(nxt l a' 9-3)):=by unfold i64In;omega
  have ha2:=d0f ha'
  refine y6 (zn (zD (xo (zD (zr ?_)))))
  refine zb ?_
  refine zb ?_
  refine xz 2 rfl rfl Tryz.func33 rfl rfl rfl rfl rfl rfl (g0o _ _ _ _ hl (by repeat(assumption)) (by omega) (by omega)) ?_
  refine yN ?_
  refine zB ?_
  refine zc (zJ (zn (zD (zr ?_))))
  refine vn ?_
  refine zb ?_
  refine vO (xM rfl Tryz.func96 rfl rfl rfl (raccept_fn _ hok _ hin)) ?_
  refine zb ?_
  refine zK ?_
  refine zK ?_
  refine zd ?_
  intro B
  refine za 0 ?_
  refine zc (zJ (zn (zD (zr ?_))))
  refine zb ?_
  refine z8 (zJ (zn ?_))
  refine yt (fun he=> ?_) (fun he=> ?_)
  ·have he:check w (m+(nxt l a' 9-3))=0:=by simpa using he
   rw[oLoop,if_pos he]at hb
   refine zr ?_
   refine vn ?_
   refine za 1 (zJ (xE (zn (zr ?_))))
   refine zb ?_
   refine yN ?_
   refine zc (zJ ?_)
   rw[show((j+1:Nat):Int)-1=(j:Int) by omega]
   refine AQ.loopN _ _ _ (Nat.lt_succ_self j) (⟨j,_,_,_,by omega,s0s hok hin,by omega,ha2,hb,rfl,rfl,rfl⟩) (by repeat(first|exact a0l|refine a0j rfl ?_)) ⟨_,by repeat(first|exact List.Sublist.slnil|refine List.Sublist.cons_cons _ ?_|refine List.Sublist.cons _ ?_),List.Perm.refl _⟩
  have he: ¬check w (m+(nxt l a' 9-3))=0:=by simpa using he
  rw[oLoop,if_neg he]at hb
  refine y6 (xE (zn (zr ?_)))
  refine zb ?_
  refine yN ?_
  refine zc (zJ ?_)
  rw[show((j+1:Nat):Int)-1=(j:Int) by omega]
  refine AQ.loopN _ _ _ (Nat.lt_succ_self j) (⟨j,_,_,_,by omega,hok,by omega,ha2,hb,rfl,rfl,rfl⟩) (by repeat(first|exact a0l|refine a0j rfl ?_)) ⟨_,by repeat(first|exact List.Sublist.slnil|refine List.Sublist.cons_cons _ ?_|refine List.Sublist.cons _ ?_),List.Perm.refl _⟩
 have hpos:k=0:=by have:=of_decide_eq_false hpos;omega
 subst hpos
 have hr1:w=(oLoop l (nxt l (adv l a) 12).toNat (newW (sizes (nxt l a 6))) 0 (adv l (adv l a))).1:=congrArg Prod.fst hb
 have hr2:a'=(oLoop l (nxt l (adv l a) 12).toNat (newW (sizes (nxt l a 6))) 0 (adv l (adv l a))).2:=congrArg Prod.snd hb
 have hreg:winOf l a=(if nxt l a' 6=5 then w0i w else w,adv l a'):=by unfold winOf;simp only;rw[←hr1,←hr2]
 rw[hreg]
 have n3:=e0a l a' (n:=6) (by omega)
 refine wj ?_
 refine x8 ?_
 refine wd ?_
 refine xD (zn (zD (zD (zr ?_))))
 refine zb ?_
 refine xz 2 rfl rfl Tryz.func33 rfl rfl rfl rfl rfl rfl (g0o _ _ _ _ hl (by repeat(assumption)) (by omega) (by omega)) ?_
 refine z8 (zJ (zn ?_))
 refine yt (fun h5=> ?_) (fun h5=> ?_)
 ·have h5:nxt l a' 6=5:=by simpa using h5
  rw[if_pos h5]
  refine zr ?_
  refine vn ?_
  refine vO (xM rfl Tryz.func97 rfl rfl rfl (q0C _)) ?_
  refine za 0 (zJ (zn (zD (zr ?_))))
  refine vn ?_
  refine za 1 (zJ (zn (xj ?_)))
  refine AQ.retCell rfl rfl mM (by(dsimp only[List.set,cA,cN,List.take,List.drop];rfl)) rfl ⟨_,by repeat(first|exact List.Sublist.slnil|refine List.Sublist.cons_cons _ ?_|refine List.Sublist.cons _ ?_),List.Perm.refl _⟩ (⟨rfl,rfl⟩)
 have h5: ¬nxt l a' 6=5:=by simpa using h5
 rw[if_neg h5]
 refine y6 (zn (zD (zr ?_)))
 refine vn ?_
 refine za 1 (zJ (zn (xj ?_)))
 refine AQ.retCell rfl rfl mM (by(dsimp only[List.set,cA,cN,List.take,List.drop];rfl)) rfl ⟨_,by repeat(first|exact List.Sublist.slnil|refine List.Sublist.cons_cons _ ?_|refine List.Sublist.cons _ ?_),List.Perm.refl _⟩ (⟨rfl,rfl⟩)
end Go.Proofs.YtojomcdjcpmnkaaGreat.Wi
namespace Go.Proofs.YtojomcdjcpmnkaaGreat.By
open Go.RowKit L A Dk
attribute [local irreducible] AW AQ AO
theorem u0l {w:Win}{n:Int}(hw: -1000≤w.t∧w.t≤1000)(hn: -1000≤n∧n≤1000): -1000≤(Wi.acc w n).t∧(Wi.acc w n).t≤1000:=by
 unfold Wi.acc
 split
 ·show -1000≤W.accT w.t n∧W.accT w.t n≤1000
  unfold W.accT
  split<;>omega
 exact⟨by decide,by decide⟩
theorem j0l (l:List Int): ∀(k:Nat) {w:Win} {n:Int} {a:Nat}, -1000≤w.t∧w.t≤1000→ -1000+6*(k:Int)≤n∧n≤1000-6*(k:Int)→ -1000≤(Wi.oLoop l k w n a).1.t∧(Wi.oLoop l k w n a).1.t≤1000
 |0,w,n,a,h,_=>h
 |k+1,w,n,a,h,hn=>by
  have hx:=e0a l a (n:=9) (by omega)
  refine j0l l k ?_ (by omega)
  split
  ·exact u0l h (by omega)
  exact h
theorem n0z (l:List Int)(a:Nat): -1000≤(Wi.winOf l a).1.t∧(Wi.winOf l a).1.t≤1000:=by
 have hx:=e0a l (adv l a) (n:=12) (by omega)
 have hn: ∀z, -1000≤(Wi.newW z).t∧(Wi.newW z).t≤1000:=fun z=>by
  unfold Wi.newW
  split
  ·exact⟨(by decide:(-1000:Int)≤ -1),(by decide:(-1:Int)≤1000)⟩
  exact⟨by decide,by decide⟩
 have:=j0l l (nxt l (adv l a) 12).toNat (w:=Wi.newW (Wi.sizes (nxt l a 6))) (n:=0) (a:=adv l (adv l a)) (hn _) (by omega)
 unfold Wi.winOf
 simp only
 split
 ·exact⟨(by decide:(-1000:Int)≤ -1),(by decide:(-1:Int)≤1000)⟩
 exact this
def IsW (r:AV):Prop:= ∃w:Win,w.ok∧(-1000≤w.t∧w.t≤1000)∧r=n0v w
theorem m0n (b:Nat)(l:List Int)(a:Nat)(hl:l.length≤maxLen)(ha:a≤l.length):Sp Tryz.prog 50 [ptr b] [g0Y b l a] (Gen b l IsW):=
 (Wi.window_fn b l a hl ha).mono fun r H' ⟨h1,h2⟩=>⟨⟨_,(Wi.winOf_ok l ha).1,n0z l a,h1⟩,_,(Wi.winOf_ok l ha).2,h2⟩
abbrev SmC (m:Msg):Prop:=m.tok.length≤1000∧m.pay.length≤10000∧m.opts.length≤100∧ ∀o∈m.opts,o.val.length≤10000
theorem c0T:SmC Msg.none:=⟨by simp[Msg.none],by simp[Msg.none],by simp[Msg.none],fun o ho=>by cases ho⟩
theorem s0Q {m:Msg}(h:ValM m):SmC m:=by
 obtain⟨h1,h2,h3,h4⟩:=ValM.sm h
 refine⟨by omega,by omega,by omega,fun o ho=> ?_⟩
 obtain⟨k,hk,rfl⟩:=List.getElem_of_mem ho
 have:=h4 k hk
 have e:oat m.opts k=m.opts[k]:=by simp[hk]
 rw[e]at this;omega
theorem n0Q {m:Msg}(h:g0S m):SmC m:=by
 obtain⟨⟨h1,h2,h3⟩,h4⟩:=h
 refine⟨by omega,by omega,by omega,fun o ho=> ?_⟩
 obtain⟨k,hk,rfl⟩:=List.getElem_of_mem ho
 have:=h4 k hk
 have e:oat m.opts k=m.opts[k]:=by simp[hk]
 rw[e]at this;omega
theorem q0m {m:Msg}(h:SmC m):SmT m:=by
 obtain⟨h1,h2,h3,h4⟩:=h
 exact⟨⟨by omega,by omega,by omega,fun o ho=>by have:=h4 o ho;omega⟩,by omega⟩
theorem w0s {m:Msg}(h:SmC m):SmM m:=by
 obtain⟨h1,h2,h3,h4⟩:=h
 exact⟨by omega,by omega,by omega,fun o ho=>by have:=h4 o ho;omega⟩
theorem o0b (outer inner:Msg)(v:Cmp)(key nonce aad:List UInt8):SmC (h0T outer inner v key nonce aad).1:=by
 by_cases h1:(b0w inner).2≠0
 ·rw[k0j h1];exact c0T
 have h1:=Decidable.not_not.1 h1
 by_cases h2:d0R key nonce aad (b0w inner).1 8≠0
 ·rw[k0i h1 h2];exact c0T
 have h2:=Decidable.not_not.1 h2
 by_cases h3:(e0A (o0I outer inner v key nonce aad)).2≠0
 ·rw[k0h h1 h2 h3];exact c0T
 have h3:=Decidable.not_not.1 h3
 rw[h0S h1 h2 h3]
 by_cases hv:ValM (o0I outer inner v key nonce aad)
 ·exact s0Q hv
 rw[e0A,if_neg hv]at h3;cases h3
theorem o0A (m:Msg)(v:Cmp)(key nonce aad:List UInt8):SmC (o0B m v key nonce aad).1:=by
 by_cases h:(a0u m).2.2≠0
 ·rw[k0t h];exact c0T
 rw[h0Z (Decidable.not_not.1 h)];exact o0b ..
theorem l0w (c:Cx)(m:Msg)(piv:Int):SmC (n0u c m piv).1:=by
 unfold n0u
 split
 ·exact c0T
 split
 ·exact c0T
 split
 ·exact c0T
 exact o0A ..
def IsT (r:AV):Prop:= ∃m,SmT m∧r=b0c m
theorem h0P {m:Msg}(h:SmC m)(n:Int){vs:List (List UInt8)}(hv:vs.length≤200)(hs: ∀v∈vs,v.length≤20000):SmT ⟨m.ty,m.code,m.id,m.tok,e0O m.opts n vs,m.pay⟩:=by
 obtain⟨h1,h2,h3,h4⟩:=h
 have:=h0Q m.opts n vs
 refine⟨⟨by show m.tok.length≤_;omega,by show m.pay.length≤_;omega,by show(e0O m.opts n vs).length≤_;omega,fun o ho=> ?_⟩,by show m.pay.length≤_;omega⟩
 rcases d0E ho with h|⟨v,h,rfl⟩
 ·have:=h4 o h;omega
 have:=hs v h;show v.length≤_;omega
abbrev w0v (m:Msg)(n:Int)(vs:List (List UInt8)):Msg:=⟨m.ty,m.code,m.id,m.tok,e0O m.opts n vs,m.pay⟩
theorem k0e {m:Msg}(h:SmC m)(n:Int)(vs:List (List UInt8))(hv:vs.length≤200)(hs: ∀v∈vs,v.length≤20000):Sp Tryz.prog 25 [b0c m,.val (.int .i64 n),u0v vs] [] (Is (b0c (w0v m n vs))):=by
 obtain⟨h1,h2,h3,h4⟩:=h
 exact n0X m n vs (by omega) (by omega) (by omega) (by omega) (fun o ho=>by have:=h4 o ho;omega) (fun v hv=>by have:=hs v hv;omega)
theorem l0m {m:Msg}(h:SmC m)(n:Int)(x:List UInt8)(hx:x.length≤20000):Sp Tryz.prog 25 [b0c m,.val (.int .i64 n),.ro false 1 [roB x]] [] (Is (b0c (w0v m n [x]))):=k0e h n [x] (by simp) (fun v hv=>by obtain rfl:=List.mem_singleton.1 hv;exact hx)
theorem t0q {m:Msg}(h:SmC m){x:List UInt8}(hx:x.length≤20000):SmT ⟨m.ty,m.code,m.id,m.tok,m.opts,x⟩:=by
 obtain⟨h1,h2,h3,h4⟩:=h
 exact⟨⟨by show m.tok.length≤_;omega,by show x.length≤_;omega,by show m.opts.length≤_;omega,fun o ho=>by have:=h4 o ho;omega⟩,by show x.length≤_;omega⟩
theorem v0Q (l:List (List UInt8)):(bsA l).all AV.one=true:=by
 rw[List.all_eq_true]
 intro x hx
 unfold bsA at hx
 obtain⟨v, -,rfl⟩:=List.mem_map.1 hx
 rfl
theorem n0e (m:Msg)(what at' by':Int)(h:SmC m)(hby: -9223372036854775808≤by'∧by'≤9223372036854775807):Sp Tryz.prog 47 [b0c m,.val (.int .i64 what),.val (.int .i64 at'),.val (.int .i64 by')] [] (v0Z IsT):=by
 have h3:m.opts.length≤1000000:=by have:=h.2.2.1;omega
 have hat: ∀o∈m.opts,o.val.length≤140737488355328:=fun o ho=>by have:=h.2.2.2 o ho;omega
 refine yX Tryz.func47 _ Tryz.ntmps47 (fun w0 R0=> ?_)
 refine zD (zr ?_)
 refine yo ?_
 intro B1
 refine zd ?_
 intro B2
 refine zJ (zn (zD (zr ?_)))
 refine zA ?_
 refine vO (xM rfl Tryz.func38 rfl rfl rfl (u0d m (w0s h))) ?_
 refine zd ?_
 intro B3
 refine za 0 (zJ (zn (zD (zr ?_))))
 refine zA ?_
 refine vR (xM rfl Tryz.func71 rfl rfl rfl (p0P m 9 h3 hat)) ?_
 intro V4 hV4
 refine zc (zJ (zn (zD (zD (zr ?_)))))
 refine zb ?_
 refine vO (xM rfl Tryz.func82 rfl rfl rfl (Dk.mod_fn _ _ (by omega) (by omega))) (zJ (zn (xo (zD (zr ?_)))))
 refine z8 ?_
 refine zc (zJ (zn ?_))
 have hav: ∀v∈b0I m.opts 9,v.length≤10000:=fun v hv=>by
  obtain⟨o,ho,rfl⟩:=i0B hv
  exact h.2.2.2 o ho
 have hal:(b0I m.opts 9).length≤100:=Nat.le_trans (d0Q _ _) h.2.2.1
 have hpl:=h.2.1
 refine yt (fun c0=> ?_) (fun c0=> ?_)<;>(try simp only[vT]at c0)
 ·refine zr ?_
  refine zq ?_
  refine zp ?_
  refine zb ?_
  refine zb ?_
  refine AO.opN (xM rfl Tryz.func39 rfl rfl rfl (i0L _ _ _ (by omega) hby)) rfl rfl rfl ?_
  rintro _ _ ⟨⟨x5,hx5,rfl⟩,rfl⟩
  simp only[cA,cN]
  refine zq ?_
  refine za 1 (zJ (xE (zn (zD (zr ?_)))))
  refine zA ?_
  refine za 2 (zJ (zn (xj ?_)))
  refine AQ.retCell rfl rfl mM (by(dsimp only[List.set,cA,cN,List.take,List.drop];rfl)) rfl nS (⟨⟨_,t0q h (by omega),rfl⟩,rfl⟩)
 refine zD (zr ?_)
 refine z8 ?_
 refine zc (zJ (zn ?_))
 refine yt (fun c1=> ?_) (fun c1=> ?_)<;>(try simp only[vT]at c1)
 ·refine AW.g ?_
  refine yf 0 [10] ?_
  refine AW.u ?_
  try dsimp only[List.map,List.eraseIdx,cA,cN]
  refine zD (zr ?_)
  refine zb ?_
  refine zX ?_
  refine yZ (zJ (zn ?_))
  refine yt (fun c2=> ?_) (fun c2=> ?_)<;>(try simp only[vT]at c2)
  ·have hv0:(vat (b0I m.opts 9) 0).length≤10000:=hav _ (b0m [] (by omega))
   refine vo [[(0,false),(1,false),(2,false),(3,false),(4,false),(5,false),(6,true),(7,false)],[(8,false)],[(9,true)]] ?_
   refine vL ?_
   try dsimp only[List.eraseIdx]
   refine yJ ?_
   refine yW ?_
   refine vQ rfl ya ?_
   refine vQ rfl (O.loadR rfl rfl (by exact g0M (k:=0) (by omega) rfl)) ?_
   refine yW ?_
   refine yW ?_
   refine xN _ (fun w0 R0=> ?_)
   refine AO.opN (xM rfl Tryz.func39 rfl rfl rfl (i0L (vat (b0I m.opts 9) 0) _ _ (by omega) hby)) rfl rfl rfl ?_
   rintro _ _ ⟨⟨x6,hx6,rfl⟩,rfl⟩
   simp only[cA,cN]
   refine AM.ok ?_
   dsimp only[a0q]
   refine xk ?_
   refine vd ?_
   try dsimp only[cA,cN]
   refine vL ?_
   try dsimp only[List.eraseIdx]
   refine vQ rfl (xM rfl Tryz.func25 rfl rfl rfl (l0m h 9 _ (by omega))) ?_
   refine vd ?_
   try dsimp only[cA,cN]
   refine AMS.go (by exact(by exact a0K 9 0 rfl rfl a0g)) ?_
   try dsimp only[List.eraseIdx]
   refine xN _ (fun w0 R0=> ?_)
   refine za 0 (vI ?_)
   dsimp only[a0q]
   refine vd ?_
   try dsimp only[cA,cN]
   refine AMS.nil (xE (zn (zD (zr ?_))))
   refine zC ?_
   refine za 1 (zJ (zn (xj ?_)))
   refine AQ.retCell rfl rfl mM (by(dsimp only[List.set,cA,cN,List.take,List.drop];rfl)) rfl nS (⟨⟨_,h0P h 9 (by simp) (fun v hv=>by obtain rfl:=List.mem_singleton.1 hv;omega),rfl⟩,rfl⟩)
  refine y6 (xE (zn (zD (zr ?_))))
  refine zC ?_
  refine za 1 (zJ (zn (xj ?_)))
  refine AQ.retCell rfl rfl mM (by rfl) rfl nS (⟨⟨m,q0m h,rfl⟩,rfl⟩)
 refine zD (zr ?_)
 refine z8 ?_
 refine zc (zJ (zn ?_))
 refine yt (fun c2=> ?_) (fun c2=> ?_)<;>(try simp only[vT]at c2)
 ·have hal2:(b0I m.opts 9++b0I m.opts 9).length=(b0I m.opts 9).length+(b0I m.opts 9).length:=List.length_append
  have hbs:bsA (b0I m.opts 9)++bsA (b0I m.opts 9)=bsA (b0I m.opts 9++b0I m.opts 9):=by unfold bsA;simp
  have hset:Sp Tryz.prog 25 [b0c m,.val (.int .i64 9),.ro false ((b0I m.opts 9).length+(b0I m.opts 9).length) (bsA (b0I m.opts 9)++bsA (b0I m.opts 9))] [] (Is (b0c (w0v m 9 (b0I m.opts 9++b0I m.opts 9)))):=by
   rw[hbs,←hal2]
   exact k0e h 9 _ (by omega) (fun v hv=>by rcases List.mem_append.1 hv with hv|hv<;>(have:=hav v hv;omega))
  refine vo [[(0,false),(1,false),(2,false),(3,true)],[(4,false)],[(5,true)]] ?_
  refine AMS.go (by exact(a0s 0 rfl a0g)) ?_
  try dsimp only[List.eraseIdx]
  refine yJ ?_
  refine yW ?_
  refine yW ?_
  refine xN _ (fun w0 R0=> ?_)
  refine AO.append' (i:=0) rfl rfl rfl rfl (by rfl) (by rfl) rfl rfl rfl (by exact SrcA.row TyD.ax (by repeat(exact List.Mem.head _)) (by(simp;done))) (by exact v0Q _) (by(unfold maxLen;omega)) (by omega) (by(dsimp only[List.set,cA,cN,List.take,List.drop];done)) (fun _=>by(dsimp only[List.set];done)) ?_
  intro V7 hV7
  refine AO.g ?_
  refine yQ 0 [44] ?_
  refine AO.u ?_
  dsimp only[List.map,List.eraseIdx,cA,cN]
  refine AM.ok ?_
  dsimp only[a0q]
  refine vd ?_
  try dsimp only[cA,cN]
  refine vL ?_
  try dsimp only[List.eraseIdx]
  refine vQ rfl (xM rfl Tryz.func25 rfl rfl rfl hset) ?_
  refine vd ?_
  try dsimp only[cA,cN]
  refine AMS.go (by exact(by exact a0K 9 0 rfl rfl a0g)) ?_
  try dsimp only[List.eraseIdx]
  refine xN _ (fun w0 R0=> ?_)
  refine za 0 (vI ?_)
  dsimp only[a0q]
  refine vd ?_
  try dsimp only[cA,cN]
  refine AMS.nil (xE (zn (zD (zr ?_))))
  refine zC ?_
  refine za 1 (zJ (zn (xj ?_)))
  refine AQ.retCell rfl rfl mM (by(dsimp only[List.set,cA,cN,List.take,List.drop];rfl)) rfl nS (⟨⟨_,h0P h 9 (vs:=b0I m.opts 9++b0I m.opts 9) (by omega) (fun v hv=>by rcases List.mem_append.1 hv with hv|hv<;>(have:=hav v hv;omega)),rfl⟩,rfl⟩)
 refine AW.g ?_
 refine yf 0 [10] ?_
 refine AW.u ?_
 try dsimp only[List.map,List.eraseIdx,cA,cN]
 refine zD (zr ?_)
 refine z8 ?_
 refine zc (zJ (zn ?_))
 refine yt (fun c3=> ?_) (fun c3=> ?_)<;>(try simp only[vT]at c3)
 ·refine zr ?_
  refine zC ?_
  refine vO (O.callC rfl Tryz.func25 rfl rfl rfl (k0e h 9 [] (by simp) (fun v hv=>by cases hv)) (by(repeat(first|exact CoeL.nil|refine CoeL.cons Coe.rfl ?_|refine CoeL.cons Coe.nil ?_));done)) ?_
  refine za 0 (zJ (xE (zn (zD (zr ?_)))))
  refine zC ?_
  refine za 1 (zJ (zn (xj ?_)))
  refine AQ.retCell rfl rfl mM (by(dsimp only[List.set,cA,cN,List.take,List.drop];rfl)) rfl nS (⟨⟨_,h0P h 9 (vs:= []) (by simp) (fun v hv=>by cases hv),rfl⟩,rfl⟩)
 refine zD (zr ?_)
 refine z8 ?_
 refine zc (zJ (zn ?_))
 refine yt (fun c4=> ?_) (fun c4=> ?_)<;>(try simp only[vT]at c4)
 ·refine zr ?_
  refine zC ?_
  refine zb ?_
  refine xg ?_
  refine zR ?_
  intro B8
  refine AO.g ?_
  refine yi 0 55 ?_
  refine wm 55 ?_
  refine AO.u ?_
  dsimp only[List.eraseIdx]
  refine zR ?_
  intro B9
  refine AO.g ?_
  refine yi 0 56 ?_
  refine wm 56 ?_
  refine AO.u ?_
  dsimp only[List.eraseIdx]
  refine vO (xM rfl Tryz.func25 rfl rfl rfl (l0m h 6 [u8 by'] (by simp))) ?_
  refine za 0 (zJ (xE (zn (zD (zr ?_)))))
  refine zC ?_
  refine za 1 (zJ (zn (xj ?_)))
  refine AQ.retCell rfl rfl mM (by(dsimp only[List.set,cA,cN,List.take,List.drop];rfl)) rfl nS (⟨⟨_,h0P h 6 (vs:= [[u8 by']]) (by simp) (fun v hv=>by obtain rfl:=List.mem_singleton.1 hv;simp),rfl⟩,rfl⟩)
 refine y6 (xE (zn (zD (zr ?_))))
 refine zC ?_
 refine za 1 (zJ (zn (xj ?_)))
 refine AQ.retCell rfl rfl mM (by rfl) rfl nS (⟨⟨m,q0m h,rfl⟩,rfl⟩)
end Go.Proofs.YtojomcdjcpmnkaaGreat.By
namespace Go.Proofs.YtojomcdjcpmnkaaGreat.By
open Go.RowKit L A
theorem m0R {l:List Opt}{o:Opt}(h:o∈b0W l):o∈l:=by
 have key: ∀(l a:List Opt),o∈l.foldl d0k a→o∈a∨o∈l:=by
  intro l
  induction l with
  |nil=>intro a h;exact .inl h
  | cons x l ih=>
   intro a h
   rcases ih _ h with h|h
   ·unfold d0k at h
    rcases List.mem_append.1 h with h|h
    ·exact .inl (List.mem_of_mem_take h)
    rcases List.mem_append.1 h with h|h
    ·exact .inr (List.mem_cons.2 (.inl (List.mem_singleton.1 h)))
    exact .inl (List.mem_of_mem_drop h)
   exact .inr (List.mem_cons_of_mem _ h)
 rcases key l [] h with h|h
 ·cases h
 exact h
theorem t0S {m i:Msg}(hm:SmS m)(hi:ValM i):(c0C m i).1.opts.length≤1000000∧ ∀o∈(c0C m i).1.opts,o.val.length≤140737488355328:=by
 have hnone:Msg.none.opts.length≤1000000∧ ∀o∈Msg.none.opts,o.val.length≤140737488355328:=⟨by simp[Msg.none],fun o ho=>by cases ho⟩
 unfold c0C
 split
 ·split
  ·split
   ·exact hnone
   obtain⟨h1,h2,h3,h4⟩:=hm
   obtain⟨g1,g2,g3,g4⟩:=(r0V hi)
   have hl:=i0d m.opts
   refine⟨by show(b0W _).length≤_;rw[f0a,cH];omega,fun o ho=> ?_⟩
   rcases List.mem_append.1 (m0R ho)with h|h
   ·have:=g4 o h;omega
   have:=h4 o (List.mem_filter.1 h).1;omega
  exact hnone
 exact hnone
theorem q0W {key:List UInt8}{m:Msg}{nonce aad:List UInt8}{q:Bool}(hm:SmS m):(i0e key m nonce aad q).1.opts.length≤1000000∧ ∀o∈(i0e key m nonce aad q).1.opts,o.val.length≤140737488355328:=by
 have hnone:Msg.none.opts.length≤1000000∧ ∀o∈Msg.none.opts,o.val.length≤140737488355328:=⟨by simp[Msg.none],fun o ho=>by cases ho⟩
 unfold i0e
 split
 ·exact hnone
 unfold s0I
 split
 ·exact hnone
 rename_i h
 split
 ·exact hnone
 exact t0S hm (e0L (Decidable.not_not.1 h)).1
end Go.Proofs.YtojomcdjcpmnkaaGreat.By
namespace Go.Proofs.YtojomcdjcpmnkaaGreat.By
open Go.RowKit L A Dk
attribute [local irreducible] AW AQ AO
theorem t0y {c:Cx}{w:Win}{m:Msg}(hm:SmS m):(oqR c w m).1.opts.length≤140737488355328:=by
 have h0:Msg.none.opts.length≤140737488355328:=by simp[Msg.none]
 have h1:(oqP c m).1.opts.length≤140737488355328:=by have:=(q0W (key:=c.rk) (nonce:=(b0S c.com (a0C m).1.kid (a0C m).1.piv).1) (aad:=(i0F (a0C m).1.kid (a0C m).1.piv).1) (q:=true) hm).1;unfold oqP;omega
 unfold oqR
 (repeat' split)<;>first|exact h0|exact h1
theorem q0f (w:Win)(W:World):(binOp .neq 90 (.agg #[.int .i64 w.s,.int .i64 w.t,.int .u64 (w.b:Int),.bool w.l]) (.agg #[.int .i64 w.s,.int .i64 w.t,.int .u64 (w.b:Int),.bool w.l])).run Tryz.prog W= .ok (.bool false) W:=by
 simp[go_sem]
theorem h0U (c:Cx)(m:Msg)(piv:Int):Sp Tryz.prog 17 [j0N c,b0c m,.val (.int .i64 piv)] [] (Is (w0x (n0u c m piv))):=by
 have hrq:=b0N m.code
 rw[o0d]at hrq
 exact k0k c m piv hrq
theorem v0M {c:Cx}(h:f0u c):SmX c:=by
 obtain⟨⟨⟨q1,q2,q3,q4,q5⟩,k6,k7,k8⟩,k9,k10,k11⟩:=h
 exact⟨⟨by omega,by omega,by omega,by omega,by omega⟩,by omega,by omega,by omega⟩
set_option maxHeartbeats 8000000 in
theorem k0A (l:List Int)(m:Msg)(what at' by':Int)(hl:l.length≤maxLen)(hop:m.opts.length≤maxLen)(hby: -9223372036854775808≤by'∧by'≤9223372036854775807):Sp Tryz.prog 7 [roI l,b0c m,.val (.int .i64 what),.val (.int .i64 at'),.val (.int .i64 by')] [] (Is (.val (.bool true))):=by
 refine yX Tryz.func7 _ Tryz.ntmps7 (fun w0 R0=> ?_)
 refine zD (zr ?_)
 refine yo ?_
 intro B1
 refine zc (zJ (zn (zD (zD (zr ?_)))))
 refine zC ?_
 refine vO (xM rfl Tryz.func9 rfl rfl rfl (n0R m hop)) ?_
 refine xu (zJ (zn ?_))
 refine yt (fun h=> ?_) (fun h=> ?_)<;>(try simp only[vT]at h)
 ·refine zD (zr ?_)
  refine vO (xM rfl Tryz.func10 rfl rfl rfl h0E) ?_
  refine zc (zJ (zn (xj (xx ?_))))
  refine yM
 have hsm:SmC m:=n0Q h
 refine y6 (zn (zD (zr ?_)))
 refine zb ?_
 refine AO.opB (xM rfl Tryz.func11 rfl rfl rfl (v0p _)) rfl rfl rfl ?_
 intro B2
 refine zc (zJ (zn (zD (zr ?_))))
 refine zb ?_
 refine AO.callMG 0 rfl rfl Tryz.func12 rfl rfl rfl rfl rfl rfl (k0N _ l _ hl (by exact Nat.zero_le _)) ?_
 rintro _ _ ⟨⟨c3,hc3,rfl⟩,kd3,hkd3,rfl⟩
 dsimp only[cA,cN,List.eraseIdx]
 refine zb ?_
 refine AO.callMG 0 rfl rfl Tryz.func50 rfl rfl rfl rfl rfl rfl (m0n _ l _ hl (by assumption)) ?_
 rintro _ _ ⟨⟨w4,hw4,hwt4,rfl⟩,kd4,hkd4,rfl⟩
 dsimp only[cA,cN,List.eraseIdx]
 refine zd ?_
 intro B5
 refine zd ?_
 intro B6
 refine za 1 ?_
 refine za 0 (zJ (zn (zD ?_)))
 refine AW.regionM [(0,false),(1,false),(2,false),(3,true),(4,false),(5,false),(6,false),(7,false)] (by kernel_rfl) (by kernel_rfl) (by exact(by exact a0K 11 2 rfl rfl a0g)) ?_
 dsimp only[List.eraseIdx]
 refine y1 ?_
 refine wi ?_
 refine yW ?_
 refine xN _ (fun w0 R0=> ?_)
 refine AO.callMG 0 rfl rfl Tryz.func33 rfl rfl rfl rfl rfl rfl (b0q _ l _ _ hl (by assumption) (by omega) (by omega)) ?_
 rintro _ _ ⟨⟨z7,hz07,hz17,rfl⟩,kd7,hkd7,rfl⟩
 dsimp only[cA,cN,List.eraseIdx]
 refine AM.ok ?_
 dsimp only[a0q]
 refine vQ rfl zG ?_
 refine vQ rfl yK ?_
 refine vQ rfl (O.maxI rfl rfl rfl rfl) ?_
 refine wb ?_
 refine vd ?_
 dsimp only[cA,cN]
 refine zn (zD ?_)
 refine AW.regionB [_,_] (alsOk.cons (Al.mk' (i:=9) (d:=15) (T:=29) _ rfl rfl rfl rfl rfl (by(dsimp only[List.set,cA,cN,List.take,List.drop];done)) (by rfl)) (by rfl) (alsOk.cons (Al.mk' (i:=10) (d:=16) (T:=42) _ rfl rfl rfl rfl rfl (by(dsimp only[List.set,cA,cN,List.take,List.drop];done)) (by rfl)) (by rfl) alsOk.nil)) [(0,false),(1,false),(3,false),(2,true),(4,false),(5,false),(6,false),(7,false),(8,false),(9,true),(10,true),(11,true),(12,true),(13,false)] (by kernel_rfl) (by kernel_rfl) (by exact(by exact a0K 11 0 rfl rfl a0g)) ?_
 dsimp only[List.eraseIdx]
 refine AB.op rfl zk rfl rfl rfl ?_
 refine AB.op rfl zg rfl rfl rfl ?_
 refine AB.op rfl zg rfl rfl rfl ?_
 refine AB.main _ rfl rfl (fun w0 R0=> ?_)
 refine AO.callMG 0 rfl rfl Tryz.func13 rfl rfl rfl rfl rfl rfl (k0l _ l _ hl (by assumption)) ?_
 rintro _ _ ⟨⟨m8,hm8,rfl⟩,kd8,hkd8,rfl⟩
 dsimp only[cA,cN,List.eraseIdx]
 refine AM.ok ?_
 dsimp only[a0q]
 refine AB.op rfl (xM rfl Tryz.func17 rfl rfl rfl (h0U c3 m8 _)) rfl rfl rfl ?_
 refine AB.op rfl zg rfl rfl rfl ?_
 refine AB.op rfl yj rfl rfl rfl ?_
 refine AB.op rfl yj rfl rfl rfl ?_
 refine AB.op rfl yj rfl rfl rfl ?_
 refine AB.box _ rfl ?_
 intro B9
 dsimp only[Al.he]
 refine AB.box _ rfl ?_
 intro B10
 dsimp only[Al.he]
 refine AB.main _ rfl rfl (fun w0 R0=> ?_)
 refine za 1 (vI ?_)
 dsimp only[a0q]
 refine AB.main _ rfl rfl (fun w0 R0=> ?_)
 refine za 0 (vI ?_)
 dsimp only[a0q]
 refine AB.op rfl zj rfl rfl rfl ?_
 refine AB.nil ?_
 dsimp only[cA,cN]
 refine zn (zD (zr ?_))
 refine zA ?_
 refine vO (xM rfl Tryz.func36 rfl rfl rfl (s0N c3 (v0M hc3))) ?_
 refine zd ?_
 intro B11
 refine za 0 (zJ (zn (zD (zD ?_))))
 refine AW.regionM [(0,false),(1,false),(2,false),(3,false),(4,false),(6,false),(9,false),(5,true),(7,false),(8,false)] (by kernel_rfl) (by kernel_rfl) (by exact a0g) ?_
 dsimp only[List.eraseIdx]
 refine zQ ?_
 refine zQ ?_
 refine yW ?_
 refine yW ?_
 refine yW ?_
 refine zQ ?_
 refine yW ?_
 refine xN _ (fun w0 R0=> ?_)
 refine AO.opN (xM rfl Tryz.func47 rfl rfl rfl (n0e (n0u c3 m8 _).1 _ _ _ (l0w _ _ _) hby)) rfl rfl rfl ?_
 rintro _ _ ⟨⟨m12,hm12,rfl⟩,rfl⟩
 simp only[cA,cN]
 refine AM.ok ?_
 dsimp only[a0q]
 refine vQ rfl (OpW.frz xO (by(unfold maxLen;omega))) ?_
 refine vQ rfl (x3 rfl rfl) ?_
 refine vd ?_
 dsimp only[cA,cN]
 refine zn (xo ?_)
 refine AW.g ?_
 refine G.freezePtr 5 12 rfl rfl ?_
 refine AW.u ?_
 dsimp only[List.eraseIdx]
 refine AW.g ?_
 refine G.freezePtr 4 13 rfl rfl ?_
 refine AW.u ?_
 dsimp only[List.eraseIdx]
 refine AW.g ?_
 refine G.freezePtr 0 18 rfl rfl ?_
 refine AW.u ?_
 dsimp only[List.eraseIdx]
 obtain⟨ms,hms⟩: ∃ms:List Msg,ms= [(n0u c3 m8 (if 0<w4.t+z7-3 then w4.t+z7-3 else 0)).1,m12,m]:=⟨_,rfl⟩
 have hml:ms.length=3:=by rw[hms];rfl
 have hmt: ∀x∈ms,SmT x:=fun x hx=>by
  rw[hms]at hx
  rcases List.mem_cons.1 hx with rfl|hx
  ·exact q0m (l0w _ _ _)
  rcases List.mem_cons.1 hx with rfl|hx
  ·exact hm12
  obtain rfl:=List.mem_singleton.1 hx;exact q0m hsm
 refine AW.g ?_
 refine G.re 66 (x0K ms) (by rw[hms];rfl) ?_
 refine AW.u ?_
 refine wT [(12,_),(13,_),(18,_),(66,_),(67,_)] (fun nn E H=> ∃(i:Nat),(i≤3)∧nn=3-i∧E= [(68,.val (.int .i64 (i:Int)))]∧H= []) _ (⟨0,by omega,rfl,rfl,rfl⟩) ?_
 rintro nn E H ⟨i,hi,rfl,rfl,rfl⟩
 dsimp only[cA,cN]
 refine zD (zr ?_)
 refine zT (zJ (zn (zD ?_)))
 refine yt (fun h1=> ?_) (fun h1=> ?_)<;>(try simp only[vT]at h1)
 ·obtain⟨x,hx⟩: ∃x,x=t0K ms i:=⟨_,rfl⟩
  have hxt:SmT x:=by rw[hx];exact hmt _ (b0m Msg.none (by omega))
  have hg6:((ms6 ms).drop (Int.toNat (i:Int)*6)).take 6= [.val (.int .i64 x.ty),.val (.int .i64 x.code),.val (.int .i64 x.id),roB x.tok,roO x.opts,roB x.pay]:=by rw[w0R (k:=i) (by omega) (by omega),hx]
  refine y6 (zn (zD (xo (zD (zr ?_)))))
  refine ye ?_
  refine vO (O.loadRK rfl rfl (by exact hg6) (by rfl)) ?_
  refine zd ?_
  intro B13
  refine za 0 (zJ (zn (zD (zr ?_))))
  refine vO (O.loadRK rfl rfl (by rfl) (by rfl)) ?_
  refine vO (O.loadRK rfl rfl (by rfl) (by rfl)) ?_
  refine xy ?_
  intro B14
  refine AO.g ?_
  refine yi 0 74 ?_
  refine wm 74 ?_
  refine AO.u ?_
  dsimp only[List.eraseIdx]
  refine zX ?_
  refine zb (zJ (zn (xo ?_)))
  refine AW.g ?_
  refine G.freezePtr 0 20 rfl rfl ?_
  refine AW.u ?_
  dsimp only[List.eraseIdx]
  obtain⟨cs,hcs⟩: ∃cs:List Cx,cs= [u0T c3,c3]:=⟨_,rfl⟩
  have hcl:cs.length=2:=by rw[hcs];rfl
  refine AW.g ?_
  refine G.re 74 (x0J cs) (by rw[hcs];rfl) ?_
  refine AW.u ?_
  refine wT [(12,_),(13,_),(18,_),(20,_),(66,_),(67,_),(68,_),(74,_),(75,_)] (fun nn E H=> ∃(j:Nat),(j≤2)∧nn=2-j∧E= [(76,.val (.int .i64 (j:Int)))]∧H= []) _ (⟨0,by omega,rfl,rfl,rfl⟩) ?_
  rintro nn E H ⟨j,hj,rfl,rfl,rfl⟩
  dsimp only[cA,cN]
  refine zD (zr ?_)
  refine zT (zJ (zn (zD ?_)))
  refine yt (fun h2=> ?_) (fun h2=> ?_)<;>(try simp only[vT]at h2)
  ·obtain⟨k,hk⟩: ∃k,k=x0D cs j:=⟨_,rfl⟩
   have hg:((w0W cs).drop (Int.toNat (j:Int)*9)).take 9=cX k:=by rw[w0P (k:=j) (by omega) (by omega),hk]
   refine y6 (zn (zD (xo (zD (zr ?_)))))
   refine ye ?_
   refine vO (O.loadRK rfl rfl (by exact hg) (by rfl)) ?_
   refine zd ?_
   intro B15
   refine za 0 (zJ (zn (zD (zr ?_))))
   refine vO (O.loadK rfl rfl (by repeat(exact List.Mem.head _)) (by rfl) (by rfl)) ?_
   refine vO (O.loadRK rfl rfl (by rfl) (by rfl)) ?_
   refine vO (O.loadRK rfl rfl (by rfl) (by rfl)) ?_
   refine vO (xM rfl Tryz.func51 rfl rfl rfl (v0o k w4 x hw4 hxt)) ?_
   refine zb ?_
   refine zK ?_
   refine zK ?_
   refine zK ?_
   refine zK ?_
   refine zd ?_
   intro B16
   refine zd ?_
   intro B17
   refine zd ?_
   intro B18
   refine za 2 ?_
   refine za 1 ?_
   refine za 0 ?_
   refine zc (zJ (zn (zD (zr ?_))))
   refine vO vj ?_
   refine vO (O.loadRK rfl rfl (by rfl) (by rfl)) ?_
   refine vO (O.loadRK rfl rfl (by rfl) (by rfl)) ?_
   refine vO (xM rfl Tryz.func52 rfl rfl rfl (u0X k w4 x hw4 hxt)) ?_
   refine zb ?_
   refine zK ?_
   refine zK ?_
   refine zK ?_
   refine zK ?_
   refine zd ?_
   intro B19
   refine zd ?_
   intro B20
   refine zd ?_
   intro B21
   refine za 2 ?_
   refine za 1 ?_
   refine za 0 ?_
   refine zc (zJ (zn (zD (zr ?_))))
   refine zb ?_
   refine zb ?_
   refine vO (O.neq rfl rfl rfl (by exact bne_eq_false_iff_eq.2 (by omega))) ?_
   refine zb ?_
   refine vO vj ?_
   refine vO vj ?_
   refine vO (xM rfl Tryz.func18 rfl rfl rfl (s0U (oqR k w4 x).1 (oqR k w4 x).1 (t0y hxt.1))) ?_
   refine xu ?_
   refine vO (O.pickF rfl rfl rfl) ?_
   refine zb ?_
   refine AO.opG rfl rfl rfl (fun hp=>vj) ?_
   refine AO.opG rfl rfl rfl (fun hp=>vj) ?_
   refine AO.opG rfl rfl rfl (fun hp=>ve 108 rfl (by exact hp) (ve 109 rfl (by exact hp) (xM rfl Tryz.func19 rfl rfl rfl (p0H _)))) ?_
   refine xc 110 ?_
   refine zI ?_
   refine zb ?_
   refine AO.opG rfl rfl rfl (fun hp=>vj) ?_
   refine AO.opG rfl rfl rfl (fun hp=>O.loadK rfl rfl (by repeat(exact List.Mem.head _)) (by rfl) (by rfl)) ?_
   refine AO.opG rfl rfl rfl (fun hp=>ve 114 rfl (by exact hp) (ve 115 rfl (by exact hp) (O.binAgg rfl rfl rfl rfl rfl (by kernel_rfl) (q0f (oqR k w4 x).2.2.1)))) ?_
   refine zI (zJ (zn ?_))
   refine yt (fun h4=> ?_) (fun h4=> ?_)<;>(try simp only[vT]at h4)
   ·exact absurd h4 (by simp)
   refine y6 (xE (zn (zr ?_)))
   refine zB ?_
   refine zb (zJ ?_)
   refine wH _ _ _ (by omega) (⟨j+1,by omega,rfl,rfl,rfl⟩)
  refine wj ?_
  refine x8 ?_
  refine wd ?_
  refine xD (xE (zn (zr ?_)))
  refine zB ?_
  refine zb (zJ ?_)
  refine wH _ _ _ (by omega) (⟨i+1,by omega,rfl,rfl,rfl⟩)
 refine wj ?_
 refine x8 ?_
 refine wd ?_
 refine xD (zn (zD (zr ?_)))
 refine vO (xM rfl Tryz.func10 rfl rfl rfl h0E) ?_
 refine zc (zJ (zn (xj ?_)))
 refine yM
end Go.Proofs.YtojomcdjcpmnkaaGreat.By
namespace Go.Proofs.YtojomcdjcpmnkaaGreat.A
open Go.ChangeShapes Go.WideShapes Go.ChangeAt Go.RowKit Go.Deep L
theorem own:ownKnob Tryz.prog.godebug=none:=by kernel_rfl
theorem x0P:Kids Tryz.prog (· <Tryz.prog.types.size):=kids_rows (by kernel_rfl) (by kernel_rfl)
theorem full: ∀t e,t<Tryz.prog.types.size→Tryz.prog.underlying t=some (.slice e)→0<Tryz.prog.cellsOf e:=slices_full_of Tryz.prog (by kernel_rfl)
theorem m0q {W W':World}(h:Ext W W')(p:MemPlace)(hp:p.block<W.heap.size):W.sameAt W' p:=by
 have hb:W'.heap[p.block]? =W.heap[p.block]? :=h.block _ hp (fun hh=>hh)
 cases p with
 |cell b off=>exact World.cell?_of_block (w:=W) (a:=⟨b,off,none⟩) hb
 |map b=>exact hb
section
variable {H:Type}{enc:TypeId×Value→H}
theorem e0m {P:Program}{W W':World}{base:Nat}{spare:Nat→Bool}{held:Bool}: ∀{ts:List TypeId} {vs:List Value} {ds:List (DataW H)} {ps:List MemPlace},
  DataW.TrodAll enc P W base spare held ts vs ds ps→(∀p∈ps,W.sameAt W' p)→DataW.TrodAll enc P W' base spare held ts vs ds ps
 | [],[],[],_,h,_=>h
 |_::_,_::_,_::_,_,⟨p,q,⟨n,h1⟩,h2,e⟩,hs=>⟨p,q,⟨n,DataW.trod_carry n _ _ _ h1 (fun x hx=>hs x (by rw[e];exact List.mem_append_left _ hx))⟩,e0m h2 (fun x hx=>hs x (by rw[e];exact List.mem_append_right _ hx)),e⟩
theorem t0O {fn:Func}{s:ChangeSpec}{W W':World}{args:Array Value}{ds gs:List (DataW H)}{before:List MemPlace}{bt:TypeId}
  (hW:DataW.Whole enc Tryz.prog fn.params.toList s.vars false W args.toList ds gs before) (hv:s.vars= []) (hfn:s.fn H (ds++gs)={results:= [.lit (.bool true)],args:=ds}) (hres:fn.resultTypes= #[bt]) (hbt:Tryz.prog.underlying bt=some .bool)
  (hpar: ∀t∈fn.params.toList,t<Tryz.prog.types.size) (hE:Ext W W'):s.post enc Tryz.prog fn false true false false W args (.bool true) W':=by
 have hold: ∀p∈before,(fun b=>decide (b<W.heap.size)) p.block=true:=fun p hp=>by simpa using hW.lt p hp
 have hlt:=hW.lt
 have hW':=hW
 obtain⟨pa,pv,hA,hV,rfl,hz,hn⟩:=hW
 rw[hv]at hV
 obtain⟨rfl,rfl⟩:=trodVars_none hV
 have hA':DataW.TrodAll enc Tryz.prog W' 0 (fun _=>true) true fn.params.toList args.toList ds pa:=e0m hA fun p hp=>m0q hE p (hlt p (List.mem_append_left _ hp))
 have hargs: ∀sp:Nat→Bool,(∀p∈pa++[],sp p.block=true)→DataW.TrodAll enc Tryz.prog W' 0 sp true fn.params.toList args.toList ds pa:=fun sp hsp=>
  DataW.TrodAll.respare x0P full hpar hA' fun p hp=>hsp p (by simpa using hp)
 have hres': ∀(b:Nat) (sp:Nat→Bool) (hd:Bool),DataW.TrodAll enc Tryz.prog W' b sp hd fn.resultTypes.toList ((Value.bool true).resultList fn.resultTypes.size) [.lit (.bool true)] []:=fun b sp hd=>by
  rw[hres];exact trodAll_cons_mk (shut_bool hbt true) trodAll_mk0
 refine⟨ds,[],pa++[],[],pa,[],hW',by rw[hfn];exact hres' _ _ _,by rw[hfn];exact hargs _ hold,by rw[hfn,hv];rfl,World.keptBut_mono (fun p hp=>⟨hp,?_⟩) ((hE.toBelow).frame (· ∈pa++[])),fun h=>by cases h⟩
 exact Or.inr (by simpa using hp)
def Old (W:World):Nat→Prop:=fun b=>b<W.heap.size
variable {P:Program}{W:World}
theorem r0Y {base:Nat}{spare:Nat→Bool}{held:Bool}{t:TypeId}{k:IntKind}(ht:P.underlying t=some (.int k)){n:Nat}{cs:List Value}{x:DataW H×List MemPlace}(h:DataW.trod enc P W base spare held n t cs=some x):
  ∃z:Int,(Lit.int k z).wf=true∧RelL (Old W) W [.val (.int k z)] cs:=by
 cases n with
 |zero=>simp[DataW.trod]at h
 |succ n=>
  obtain⟨z,rfl,_,hw⟩:=DataW.trod_int ht h
  exact⟨z,hw,RelL.cons (.val _) RelL.nil⟩
theorem l0y {α:Type}{enc':α→List AV}{good:α→Prop}{base:Nat}{spare:Nat→Bool}{held:Bool}{t e:TypeId}(ht:P.underlying t=some (.slice e))(hsz: ∀a,(enc' a).length=P.cellsOf e)(hpos:0<P.cellsOf e)
  (he: ∀(n:Nat) (cs:List Value) (x:DataW H×List MemPlace),cs.length=P.cellsOf e→DataW.trod enc P W base spare held n e cs=some x→ ∃a,good a∧RelL (Old W) W (enc' a) cs)
  {n:Nat} {cs:List Value} {x:DataW H×List MemPlace} (h:DataW.trod enc P W base spare held n t cs=some x):
  ∃l:List α,(∀a∈l,good a)∧l.length≤maxLen∧RelL (Old W) W [.ro false l.length (l.flatMap enc')] cs:=by
 rcases open_slice ht h with⟨rfl, -⟩|⟨ad,len,cap,m,n',D,Pl,rfl,hb,hl,hm,hmm,hx,hi⟩
 ·exact⟨[],fun _ h=>(by cases h),Nat.zero_le _,RelL.cons (.emp _ _ _ (fun h=>by cases h) (Nat.zero_le _)) RelL.nil⟩
 ·have hlm:len≤m:=by rw[hmm];split<;>omega
  have hex: ∀i:Nat,∃a:Option α,i<len→ ∃a',a=some a'∧good a'∧ ∃cs',W.cells? base (ad.add (i*P.cellsOf e)) (P.cellsOf e)=some cs'∧RelL (Old W) W (enc' a') cs':=fun i=>by
   by_cases hil:i<len
   ·obtain⟨cs',hc,htr⟩:=hi i (by omega)
    obtain⟨_,hcl,_⟩:=World.cells?_some hc
    obtain⟨a,hg,hr⟩:=he _ _ _ hcl htr
    exact⟨some a,fun _=>⟨a,rfl,hg,cs',hc,hr⟩⟩
   ·exact⟨none,fun h=>absurd h hil⟩
  obtain⟨f,hf⟩:=Classical.axiomOfChoice hex
  by_cases hlen0:len=0
  ·subst hlen0
   exact⟨[],fun _ h=>(by cases h),Nat.zero_le _,RelL.cons (.emp _ _ _ (fun h=>by cases h) hm) RelL.nil⟩
  ·obtain⟨a0,_,_⟩:=hf 0 (by omega)
   let g:Nat→α:=fun i=>(f i).getD a0
   have hg: ∀i,i<len→good (g i)∧ ∃cs',W.cells? base (ad.add (i*P.cellsOf e)) (P.cellsOf e)=some cs'∧RelL (Old W) W (enc' (g i)) cs':=fun i hi'=>by
    obtain⟨a',ha',h1,h2⟩:=hf i hi'
    have:g i=a':=by simp[g,ha']
    rw[this];exact⟨h1,h2⟩
   have hflat: ∀(len:Nat),(((List.range len).map g).flatMap enc').length=len*P.cellsOf e:=by
    intro len
    induction len with
    |zero=>simp
    |succ k ih=>rw[List.range_succ,List.map_append,List.flatMap_append,cH,ih];simp[hsz,Nat.add_mul]
   have hflatget: ∀(len i j:Nat),i<len→j<P.cellsOf e→(((List.range len).map g).flatMap enc')[i*P.cellsOf e+j]? =(enc' (g i))[j]? :=by
    intro len
    induction len with
    |zero=>intro i j h;omega
    | succ k ih=>
     intro i j h hj
     rw[List.range_succ,List.map_append,List.flatMap_append,List.getElem?_append]
     by_cases hik:i<k
     ·have h1:(i+1)*P.cellsOf e≤k*P.cellsOf e:=Nat.mul_le_mul_right _ (by omega)
      rw[Nat.add_mul]at h1
      rw[if_pos (by rw[hflat];omega)]
      exact ih i j hik hj
     ·have:i=k:=by omega
      subst this
      rw[if_neg (by rw[hflat];omega),hflat]
      simp
   have hblk:ad.spot=none∧ad.block<W.heap.size:=by
    obtain⟨_,cs',hc,_⟩:=hg 0 (by omega)
    obtain⟨_,hcl,hat⟩:=World.cells?_some hc
    have h0:=hat 0 hpos
    simp only[Nat.zero_mul]at h0
    have h1:W.cell? ad≠none:=by
     intro hn
     rw[show(ad.add 0).add 0=ad by simp[Addr.add]]at h0
     rw[hn]at h0
     have:=(List.getElem?_eq_none_iff.1 h0.symm)
     omega
    refine⟨?_,?_⟩
    ·cases hsp:ad.spot with
     |none=>rfl
     |some _=>exfalso;apply h1;unfold World.cell?;split<;>simp[hsp]
    ·cases hc:W.cell? ad with
     |none=>exact absurd hc h1
     |some u=>exact World.block_lt_of_cell? W ad hc
   obtain⟨b,off,sp⟩:=ad
   obtain⟨rfl,hblt⟩:=hblk
   have hcell: ∀i j,i<len→j<P.cellsOf e→ ∃u,W.cell? ⟨b,off+(i*P.cellsOf e+j),none⟩=some u∧ ∃x,(enc' (g i))[j]? =some x∧RelV (Old W) W x u:=fun i j hi' hj=>by
    obtain⟨_,cs',hc,hr⟩:=hg i hi'
    obtain⟨_,hcl,hat⟩:=World.cells?_some hc
    have h0:=hat j hj
    rw[a0N,a0N]at h0
    have hjl:j<cs'.length:=by omega
    have hjx:j<(enc' (g i)).length:=by rw[hsz];exact hj
    refine⟨cs'[j],by rw[←Nat.add_assoc,h0];simp[hjl],(enc' (g i))[j],by simp[hjx],?_⟩
    have:=hr.2 j hjx
    simpa[hjl]using this
   refine⟨(List.range len).map g,fun a ha=> ?_,by simp;omega,RelL.cons ?_ RelL.nil⟩
   ·obtain⟨i,hi',rfl⟩:=List.mem_map.1 ha
    exact(hg i (List.mem_range.1 hi')).1
   ·rw[List.length_map,List.length_range]
    have hq: ∀j,j<(((List.range len).map g).flatMap enc').length→ ∃u,W.cell? ⟨b,off+j,none⟩=some u∧ ∃x,(((List.range len).map g).flatMap enc')[j]? =some x∧RelV (Old W) W x u:=fun j hj=>by
     rw[hflat]at hj
     have h1:j/P.cellsOf e<len:=(Nat.div_lt_iff_lt_mul hpos).2 hj
     have h2:=Nat.mod_lt j hpos
     have h3:j/P.cellsOf e*P.cellsOf e+j%P.cellsOf e=j:=by rw[Nat.mul_comm];exact Nat.div_add_mod j _
     obtain⟨u,hu,x,hx',hr⟩:=hcell (j/P.cellsOf e) (j%P.cellsOf e) h1 h2
     rw[h3]at hu
     refine⟨u,hu,x,?_,hr⟩
     have:=hflatget len _ _ h1 h2
     rw[h3]at this
     rw[this,hx']
    refine .ro false len _ b off cap (fun j=>(W.cell? ⟨b,off+j,none⟩).getD undef) hblt (fun j hj=> ?_) (fun j hj=> ?_) hl hm (fun h=>by cases h)
    ·obtain⟨u,hu,_⟩:=hq j hj
     rw[hu];rfl
    ·obtain⟨u,hu,x,hx',hr⟩:=hq j hj
     rw[hu]
     simp only[Option.getD_some]
     have:x=(((List.range len).map g).flatMap enc')[j]:=by
      rw[List.getElem?_eq_getElem hj]at hx';exact(Option.some.inj hx').symm
     rw[←this];exact hr
theorem k0F {α:Type}(f:α→AV)(l:List α):l.flatMap (fun a=> [f a])=l.map f:=by
 induction l with
 |nil=>rfl
 |cons a l ih=>simp[List.flatMap_cons,ih]
theorem o0t {base:Nat}{spare:Nat→Bool}{held:Bool}{t e:TypeId}{k:IntKind}(ht:P.underlying t=some (.slice e))(he:P.underlying e=some (.int k))(h1:P.cellsOf e=1){n:Nat}{cs:List Value}{x:DataW H×List MemPlace}(h:DataW.trod enc P W base spare held n t cs=some x):
  ∃l:List Int,(∀z∈l,(Lit.int k z).wf=true)∧l.length≤maxLen∧RelL (Old W) W [.ro false l.length (d0S k l)] cs:=by
 obtain⟨l,h2,h3,h4⟩:=l0y (enc':=fun z:Int=> [.val (.int k z)]) (good:=fun z=>(Lit.int k z).wf=true) ht (fun _=>h1.symm) (by omega) (fun n cs x _ h=>r0Y he h) h
 rw[k0F]at h4
 exact⟨l,h2,h3,h4⟩
theorem q0G {base:Nat}{spare:Nat→Bool}{held:Bool}{t e:TypeId}(ht:P.underlying t=some (.slice e))(he:P.underlying e=some (.int .u8))(h1:P.cellsOf e=1){n:Nat}{cs:List Value}{x:DataW H×List MemPlace}(h:DataW.trod enc P W base spare held n t cs=some x):
  ∃l:List UInt8,l.length≤maxLen∧RelL (Old W) W [roB l] cs:=by
 obtain⟨l,h2,h3,h4⟩:=o0t ht he h1 h
 have hb: ∃m:List UInt8,l=m.map fun b=>((b.toNat:Nat):Int):=by
  clear h h3 h4
  induction l with
  |nil=>exact⟨[],rfl⟩
  |cons z l ih=>
   obtain⟨m,rfl⟩:=ih fun z hz=>h2 z (List.mem_cons_of_mem _ hz)
   have hz:=h2 z (List.mem_cons_self ..)
   have hz':0≤z∧z≤255:=by simpa[Lit.wf,IntKind.min,IntKind.max,IntKind.signed,IntKind.bits]using hz
   refine⟨UInt8.ofNat z.toNat::m,?_⟩
   simp only[List.map_cons,List.cons.injEq,and_true]
   rw[UInt8.toNat_ofNat_of_lt' (by simp[UInt8.size];omega)]
   omega
 obtain⟨m,rfl⟩:=hb
 refine⟨m,by simpa using h3,?_⟩
 simpa[roB,a0a,d0S,Function.comp_def]using h4
theorem k0n {R:Nat→Prop}{a:AV}{v:Value}(hc:v.cells.toList= [v])(h:RelL R W [a] v.cells.toList):RelV R W a v:=by
 rw[hc]at h
 obtain⟨u,r,he,h1,_⟩:=h.uncons
 cases he
 exact h1
theorem k0o {R:Nat→Prop}{xs:List AV}{cs:Array Value}(h:RelL R W xs (Value.agg cs).cells.toList):RelV R W (.agg xs) (.agg cs):=by
 have:=h.toAgg
 simpa[Value.cells]using this
end
end Go.Proofs.YtojomcdjcpmnkaaGreat.A
namespace Go.Proofs.YtojomcdjcpmnkaaGreat.A
open Go.ChangeShapes Go.WideShapes Go.ChangeAt Go.RowKit L
section
variable {P:Program}
def Reads (P:Program)(t:TypeId)(φ:AV→Prop):Prop:=
 ∀(H:Type) (enc:TypeId×Value→H) (W:World) (base b0:Nat) (spare:Nat→Bool) (held:Bool) (v:Value) (d:DataW H) (p:List MemPlace),
  Value.okWide P W .any b0 t v→DataW.Trod enc P W base spare held t v d p→ ∃x,φ x∧RelV (Old W) W x v
structure RdC (P:Program) (t:TypeId) {α:Type} (f:α→List AV) (good:α→Prop):Prop where
 len: ∀a,(f a).length=P.cellsOf t
 rd: ∀(H:Type) (enc:TypeId×Value→H) (W:World) (base:Nat) (spare:Nat→Bool) (held:Bool) (n:Nat) (cs:List Value) (x:DataW H×List MemPlace),
  DataW.trod enc P W base spare held n t cs=some x→ ∃a,good a∧RelL (Old W) W (f a) cs
theorem t0E {W:World}{r:Reach}{b:Nat}{t:TypeId}{k:IntKind}(ht:P.underlying t=some (.int k)){v:Value}(h:Value.okWide P W r b t v):v.cells.toList= [v]:=by
 cases v<;>simp[Value.okWide,ht,Cell.okWide,Cell.ok]at h<;>rfl
theorem g0m {W:World}{r:Reach}{b:Nat}{t e:TypeId}(ht:P.underlying t=some (.slice e)){v:Value}(h:Value.okWide P W r b t v):v.cells.toList= [v]:=by
 cases v<;>simp[Value.okWide,ht,Cell.okWide,Cell.ok]at h<;>rfl
theorem q0X {W:World}{r:Reach}{b:Nat}{t:TypeId}(ht:P.underlying t=some .bool){v:Value}(h:Value.okWide P W r b t v):v.cells.toList= [v]:=by
 cases v<;>simp[Value.okWide,ht,Cell.okWide,Cell.ok]at h<;>rfl
theorem RelL.glue {R:Nat→Prop}{W:World}{xs ys:List AV}{cs:List Value}{o k:Nat}(h1:RelL R W xs ((cs.drop o).take k))(h2:RelL R W ys (cs.drop (o+k))):RelL R W (xs++ys) (cs.drop o):=by
 have:=h1.app h2
 rwa [show(cs.drop o).take k++cs.drop (o+k)=cs.drop o by rw[←List.drop_drop,List.take_append_drop]]at this
theorem RdC.int {t:TypeId}{k:IntKind}(ht:P.underlying t=some (.int k))(h1:P.cellsOf t=1):RdC P t (fun z:Int=> [.val (.int k z)]) (fun z=>(Lit.int k z).wf=true):=
 ⟨fun _=>h1.symm,fun H enc W base spare held n cs x h=>r0Y ht h⟩
theorem RdC.bool {t:TypeId}(ht:P.underlying t=some .bool)(h1:P.cellsOf t=1):RdC P t (fun z:Bool=> [.val (.bool z)]) (fun _=>True):=
 ⟨fun _=>h1.symm,fun H enc W base spare held n cs x h=>by
  obtain⟨b,rfl,_⟩:=DataW.trod_bool ht h
  exact⟨b,trivial,RelL.cons (.val _) RelL.nil⟩⟩
theorem RdC.string {t:TypeId}(ht:P.underlying t=some .string)(h1:P.cellsOf t=1):RdC P t (fun s:ByteArray=> [.val (.string s)]) (fun s=>s.size≤maxLen):=
 ⟨fun _=>h1.symm,fun H enc W base spare held n cs x h=>by
  obtain⟨b,rfl,_,hs⟩:=DataW.trod_string ht h
  exact⟨b,hs,RelL.cons (.val _) RelL.nil⟩⟩
theorem RdC.slice {t e:TypeId}{α:Type}{f:α→List AV}{good:α→Prop}(ht:P.underlying t=some (.slice e))(h1:P.cellsOf t=1)(hpos:0<P.cellsOf e)(h:RdC P e f good):
  RdC P t (fun l:List α=> [.ro false l.length (l.flatMap f)]) (fun l=>(∀a∈l,good a)∧l.length≤maxLen):=
 ⟨fun _=>h1.symm,fun H enc W base spare held n cs x hx=>by
  obtain⟨l,h2,h3,h4⟩:=l0y ht h.len hpos (fun n cs x _ hx=>h.rd H enc W base spare held n cs x hx) hx
  exact⟨l,⟨h2,h3⟩,h4⟩⟩
theorem RdC.bytes {t e:TypeId}(ht:P.underlying t=some (.slice e))(he:P.underlying e=some (.int .u8))(h1:P.cellsOf t=1)(h2:P.cellsOf e=1):RdC P t (fun l:List UInt8=> [roB l]) (fun l=>l.length≤maxLen):=
 ⟨fun _=>h1.symm,fun H enc W base spare held n cs x hx=>q0G ht he h2 hx⟩
theorem RdC.ints {t e:TypeId}{k:IntKind}(ht:P.underlying t=some (.slice e))(he:P.underlying e=some (.int k))(h1:P.cellsOf t=1)(h2:P.cellsOf e=1):
  RdC P t (fun l:List Int=> [.ro false l.length (d0S k l)]) (fun l=>(∀z∈l,(Lit.int k z).wf=true)∧l.length≤maxLen):=
 ⟨fun _=>h1.symm,fun H enc W base spare held n cs x hx=>by
  obtain⟨l,h3,h4,h5⟩:=o0t ht he h2 hx
  exact⟨l,⟨h3,h4⟩,h5⟩⟩
structure FR (P:Program) (fs:List Field) (o m:Nat) {α:Type} (f:α→List AV) (good:α→Prop):Prop where
 len: ∀a,(f a).length=m
 rd: ∀(H:Type) (enc:TypeId×Value→H) (W:World) (base:Nat) (spare:Nat→Bool) (held:Bool) (cs:List Value),cs.length=o+m→
  (∀fd∈fs,∃(n:Nat) (y:DataW H×List MemPlace),DataW.trod enc P W base spare held n fd.type ((cs.drop fd.offset).take (P.cellsOf fd.type))=some y)→ ∃a,good a∧RelL (Old W) W (f a) (cs.drop o)
theorem FR.nil {o:Nat}:FR P [] o 0 (fun _:Unit=> []) (fun _=>True):=
 ⟨fun _=>rfl,fun H enc W base spare held cs hl _=>⟨(),trivial,by rw[List.drop_of_length_le (by omega)];exact RelL.nil⟩⟩
theorem FR.cons {fd:Field}{fs:List Field}{o k m:Nat}{α β:Type}{f:α→List AV}{good:α→Prop}{g:β→List AV}{good':β→Prop}(h:RdC P fd.type f good)(ho:fd.offset=o)(hk:P.cellsOf fd.type=k)(hs:FR P fs (o+k) m g good'):
  FR P (fd::fs) o (k+m) (fun p:α×β=>f p.1++g p.2) (fun p=>good p.1∧good' p.2):=
 ⟨fun p=>by rw[cH,h.len,hs.len,hk],fun H enc W base spare held cs hl hall=>by
  obtain⟨n,y,h1⟩:=hall fd (List.mem_cons_self ..)
  rw[ho,hk]at h1
  obtain⟨a,h2,h3⟩:=h.rd H enc W base spare held _ _ _ h1
  obtain⟨b,h4,h5⟩:=hs.rd H enc W base spare held cs (by omega) (fun fd hfd=>hall fd (List.mem_cons_of_mem _ hfd))
  exact⟨(a,b),⟨h2,h4⟩,RelL.glue h3 h5⟩⟩
theorem RdC.struct {t:TypeId}{fs:List Field}{m:Nat}{α:Type}{f:α→List AV}{good:α→Prop}(ht:P.underlying t=some (.struct fs.toArray))(hm:P.cellsOf t=m)(h:FR P fs 0 m f good):RdC P t f good:=
 ⟨fun a=>by rw[h.len,hm],fun H enc W base spare held n cs x hx=>by
  obtain⟨xs,n',_,_,hl,hlen,hf⟩:=DataW.trod_struct ht hx
  obtain⟨a,h1,h2⟩:=h.rd H enc W base spare held cs (by omega) (fun fd hfd=>by
   obtain⟨i,hi,rfl⟩:=List.getElem_of_mem hfd
   have h0:=hf i fs[i] (by simp[hi])
   have hxi:i<xs.length:=by rw[hlen];simpa using hi
   rw[List.getElem?_eq_getElem hxi]at h0
   exact⟨n',_,h0⟩)
  exact⟨a,h1,by simpa using h2⟩⟩
theorem RdC.map {t:TypeId}{α β:Type}{f:α→List AV}{good:α→Prop}{g:β→List AV}{good':β→Prop}(h:RdC P t f good)(φ:α→β)(hφ: ∀a,good a→good' (φ a)∧f a=g (φ a))(hl: ∀b,(g b).length=P.cellsOf t):RdC P t g good':=
 ⟨hl,fun H enc W base spare held n cs x hx=>by
  obtain⟨a,h1,h2⟩:=h.rd H enc W base spare held n cs x hx
  exact⟨φ a,(hφ a h1).1,(hφ a h1).2▸h2⟩⟩
theorem RdC.reads {t:TypeId}{α:Type}{f:α→List AV}{good:α→Prop}(h:RdC P t f good)(g:α→AV)(hg: ∀a,f a= [g a])(hw: ∀(W:World) (b:Nat) (v:Value),Value.okWide P W .any b t v→v.cells.toList= [v]):Reads P t (fun x=> ∃a,good a∧x=g a):=
 fun H enc W base b0 spare held v d p hv ⟨n,hx⟩=>by
  obtain⟨a,h1,h2⟩:=h.rd H enc W base spare held n _ _ hx
  rw[hg]at h2
  exact⟨g a,⟨a,h1,rfl⟩,k0n (hw _ _ _ hv) h2⟩
theorem RdC.readsAgg {t:TypeId}{α:Type}{f:α→List AV}{good:α→Prop}(h:RdC P t f good)(hw: ∀(W:World) (b:Nat) (v:Value),Value.okWide P W .any b t v→ ∃cs,v= .agg cs):Reads P t (fun x=> ∃a,good a∧x= .agg (f a)):=
 fun H enc W base b0 spare held v d p hv ⟨n,hx⟩=>by
  obtain⟨cs,rfl⟩:=hw _ _ _ hv
  obtain⟨a,h1,h2⟩:=h.rd H enc W base spare held n _ _ hx
  exact⟨.agg (f a),⟨a,h1,rfl⟩,k0o h2⟩
theorem Reads.int {t:TypeId}{k:IntKind}(ht:P.underlying t=some (.int k))(h1:P.cellsOf t=1):Reads P t (fun x=> ∃z:Int,(Lit.int k z).wf=true∧x= .val (.int k z)):=(RdC.int ht h1).reads (fun z=> .val (.int k z)) (fun _=>rfl) (fun _ _ _ h=>t0E ht h)
theorem Reads.bool {t:TypeId}(ht:P.underlying t=some .bool)(h1:P.cellsOf t=1):Reads P t (fun x=> ∃z:Bool,True∧x= .val (.bool z)):=(RdC.bool ht h1).reads (fun z=> .val (.bool z)) (fun _=>rfl) (fun _ _ _ h=>q0X ht h)
theorem Reads.bytes {t e:TypeId}(ht:P.underlying t=some (.slice e))(he:P.underlying e=some (.int .u8))(h1:P.cellsOf t=1)(h2:P.cellsOf e=1):Reads P t (fun x=> ∃l:List UInt8,l.length≤maxLen∧x=roB l):=(RdC.bytes ht he h1 h2).reads roB (fun _=>rfl) (fun _ _ _ h=>g0m ht h)
theorem Reads.ints {t e:TypeId}{k:IntKind}(ht:P.underlying t=some (.slice e))(he:P.underlying e=some (.int k))(h1:P.cellsOf t=1)(h2:P.cellsOf e=1):
  Reads P t (fun x=> ∃l:List Int,((∀z∈l,(Lit.int k z).wf=true)∧l.length≤maxLen)∧x= .ro false l.length (d0S k l)):=(RdC.ints ht he h1 h2).reads (fun l=> .ro false l.length (d0S k l)) (fun _=>rfl) (fun _ _ _ h=>g0m ht h)
theorem Reads.slice {t e:TypeId}{α:Type}{f:α→List AV}{good:α→Prop}(ht:P.underlying t=some (.slice e))(h1:P.cellsOf t=1)(hpos:0<P.cellsOf e)(h:RdC P e f good):
  Reads P t (fun x=> ∃l:List α,((∀a∈l,good a)∧l.length≤maxLen)∧x= .ro false l.length (l.flatMap f)):=(RdC.slice ht h1 hpos h).reads (fun l=> .ro false l.length (l.flatMap f)) (fun _=>rfl) (fun _ _ _ h=>g0m ht h)
def ReadsL (P:Program):List TypeId→List (AV→Prop)→Prop
 | [],[]=>True
 |t::ts,φ::φs=>Reads P t φ∧ReadsL P ts φs
 |_,_=>False
theorem ReadsL.nil:ReadsL P [] []:=trivial
theorem ReadsL.cons {t:TypeId}{ts:List TypeId}{φ:AV→Prop}{φs:List (AV→Prop)}(h:Reads P t φ)(hs:ReadsL P ts φs):ReadsL P (t::ts) (φ::φs):=⟨h,hs⟩
def u0t:List (AV→Prop)→(List AV→Prop)→Prop
 | [],K=>K []
 |φ::φs,K=> ∀x,φ x→u0t φs (fun xs=>K (x::xs))
theorem o0s {H:Type}{enc:TypeId×Value→H}{W:World}{base b0:Nat}{spare:Nat→Bool}{held:Bool}: ∀{ts:List TypeId} {φs:List (AV→Prop)} {K:List AV→Prop} {vs:List Value} {ds:List (DataW H)} {ps:List MemPlace},
  ReadsL P ts φs→u0t φs K→(∀(j:Nat) t v,ts[j]? =some t→vs[j]? =some v→Value.okWide P W .any b0 t v)→DataW.TrodAll enc P W base spare held ts vs ds ps→ ∃xs,K xs∧RelL (Old W) W xs vs
 | [],[],K,vs,ds,ps,_,hK,_,hT=>by
  obtain⟨rfl,_,_⟩:=trodAll_nil hT
  exact⟨[],hK,RelL.nil⟩
 | [],_::_,_,_,_,_,h,_,_,_=>h.elim
 |_::_,[],_,_,_,_,h,_,_,_=>h.elim
 |t::ts,φ::φs,K,vs,ds,ps,h,hK,hv,hT=>by
  obtain⟨v0,vs0,d0,ds0,p0,q0,rfl,rfl,rfl,h0,r0⟩:=trodAll_cons hT
  obtain⟨x,h1,h2⟩:=h.1 H enc W base b0 spare held v0 d0 p0 (hv 0 t v0 rfl rfl) h0
  obtain⟨xs,h3,h4⟩:=o0s h.2 (hK x h1) (fun j t v a b=>hv (j+1) t v a b) r0
  exact⟨x::xs,h3,RelL.cons h2 h4⟩
end
theorem j0p {f:FuncId}{fn:Func}{s:ChangeSpec}{H:Type}(enc:TypeId×Value→H){ts:List TypeId}{φs:List (AV→Prop)}(hp:fn.params.toList=ts)(hr:ReadsL Tryz.prog ts φs)
  (h:u0t φs fun xs=>Sp Tryz.prog f xs [] (Is (.val (.bool true)))) {W:World} {base:Nat} {args:Array Value} {ds gs:List (DataW H)} {before:List MemPlace}
  (hval: ∀(j:Nat) t v,fn.params[j]? =some t→args[j]? =some v→Value.okWide Tryz.prog W .any base t v)
  (hW:DataW.Whole enc Tryz.prog fn.params.toList s.vars false W args.toList ds gs before)
  (post: ∀W',Ext W W'→s.post enc Tryz.prog fn false true false false W args (.bool true) W'):
  Calls Tryz.prog f args W fun e W'=> ∃v,e= .returned v∧s.post enc Tryz.prog fn false true false false W args v W':=by
 obtain⟨p,q,hA,hV,rfl,hfz,hnd⟩:=hW
 rw[hp]at hA
 obtain⟨xs,hS,hR⟩:=o0s (b0:=base) hr h (fun j t v h1 h2=>hval j t v (by rw[←Array.getElem?_toList,hp];exact h1) (by rw[←Array.getElem?_toList];exact h2)) hA
 have hc:=hS W (Old W) args.toList (fun b hb=>hb) (fun e he=>by cases he) .nil hR
 rw[Array.toArray_toList]at hc
 refine hc.mono ?_
 rintro e W' ⟨u,r,H',R',rfl,⟨rfl,rfl⟩,hs,hv⟩
 obtain rfl:=hv.val_inv
 exact⟨_,rfl,post W' (hs.mods.mono fun b _ ⟨e,he,_⟩=>by cases he)⟩
end Go.Proofs.YtojomcdjcpmnkaaGreat.A
namespace Go.Proofs.YtojomcdjcpmnkaaGreat.By
open Go.RowKit L A
theorem i64_in {z:Int}(h:(Lit.int .i64 z).wf=true): -9223372036854775808≤z∧z≤9223372036854775807:=by
 simpa[Lit.wf,IntKind.min,IntKind.max,IntKind.signed,IntKind.bits]using h
def w0b (o:Opt):Prop:=(Lit.int .i64 o.num).wf=true∧o.val.length≤maxLen
def x0i (m:Msg):Prop:=((Lit.int .i64 m.ty).wf=true∧(Lit.int .i64 m.code).wf=true∧(Lit.int .i64 m.id).wf=true)∧m.tok.length≤maxLen∧((∀o∈m.opts,w0b o)∧m.opts.length≤maxLen)∧m.pay.length≤maxLen
theorem w0B:RdC Tryz.prog 96 p0E w0b:=
 (RdC.struct Tryz.underlying96 (by kernel_rfl)
  (.cons (k:=1) (RdC.int Tryz.underlying3 (by kernel_rfl)) rfl (by kernel_rfl)
  (.cons (k:=1) (RdC.bytes Tryz.underlying22 Tryz.underlying5 (by kernel_rfl) (by kernel_rfl)) rfl (by kernel_rfl) .nil))).map
  (fun p=>⟨p.1,p.2.1⟩) (fun p h=>⟨⟨h.1,h.2.1⟩,rfl⟩) (fun _=>by show 2=_;kernel_rfl)
theorem w0C:RdC Tryz.prog 29 v0P x0i:=
 (RdC.struct Tryz.underlying29 (by kernel_rfl)
  (.cons (k:=1) (RdC.int Tryz.underlying3 (by kernel_rfl)) rfl (by kernel_rfl)
  (.cons (k:=1) (RdC.int Tryz.underlying3 (by kernel_rfl)) rfl (by kernel_rfl)
  (.cons (k:=1) (RdC.int Tryz.underlying3 (by kernel_rfl)) rfl (by kernel_rfl)
  (.cons (k:=1) (RdC.bytes Tryz.underlying22 Tryz.underlying5 (by kernel_rfl) (by kernel_rfl)) rfl (by kernel_rfl)
  (.cons (k:=1) (RdC.slice Tryz.underlying27 (by kernel_rfl) (of_decide_eq_true (by kernel_rfl)) w0B) rfl (by kernel_rfl)
  (.cons (k:=1) (RdC.bytes Tryz.underlying22 Tryz.underlying5 (by kernel_rfl) (by kernel_rfl)) rfl (by kernel_rfl) .nil))))))).map
  (fun p=>⟨p.1,p.2.1,p.2.2.1,p.2.2.2.1,p.2.2.2.2.1,p.2.2.2.2.2.1⟩) (fun p h=>⟨⟨⟨h.1,h.2.1,h.2.2.1⟩,h.2.2.2.1,h.2.2.2.2.1,h.2.2.2.2.2.1⟩,rfl⟩) (fun _=>by show 6=_;kernel_rfl)
end Go.Proofs.YtojomcdjcpmnkaaGreat.By
namespace Go.Proofs.YtojomcdjcpmnkaaGreat.By
open Go.RowKit Go.Deep L A
end Go.Proofs.YtojomcdjcpmnkaaGreat.By
