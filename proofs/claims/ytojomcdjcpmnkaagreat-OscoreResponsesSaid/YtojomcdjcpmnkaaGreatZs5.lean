/-
  Texts laid together (part 5): what the statement's walk and plain law need. No condition.
-/
import Derived.Maps.AppendAt
import Derived.Test.YtojomcdjcpmnkaaGreatZs4
set_option linter.unusedVariables false
set_option linter.unusedSimpArgs false
set_option maxRecDepth 20000
set_option maxHeartbeats 4000000
namespace Go.Proofs.YtojomcdjcpmnkaaGreat.A
open Go.RowKit L
section
variable {Γ:Cx}{P:Program}{E:Env}{H:List HE}
theorem AQ.ret2G {fn:Func}{Post:AV→List HE→Prop}{x y:ResultVar}{p q:AV}{H':List HE}(hr:fn.results= #[x,y])(h1:ResAt Γ P E H x p)(h2:ResAt Γ P E H y q)
  (hH: ∃H1,H1.Sublist H∧H'.Perm H1) (hp:Post (.tup [p,q]) H'):AQ Γ (FnQ Γ P fn Post) .ret E H:=fun R a W hs ha=>by
 obtain⟨H1,k1,k2⟩:=hH
 obtain⟨u1,e1,g1⟩:=h1 R a W hs ha
 obtain⟨u2,e2,g2⟩:=h2 R a W hs ha
 refine⟨ha.defers,.tuple #[u1,u2],?_,_,_,H',R,rfl,hp,?_,RelL.toTup (us:= [u1,u2]) (RelL.cons g1 (RelL.cons g2 RelL.nil))⟩
 ·rw[g0G,hr]
  simp[e1,e2]
 have:=(hs.sub k1).perm k2
 exact⟨this.mods,this.rlt,this.rsub,this.rnew,this.ok,this.own,this.disj⟩
end
end Go.Proofs.YtojomcdjcpmnkaaGreat.A
namespace Go.Proofs.YtojomcdjcpmnkaaGreat.By
open Go.RowKit L A
set_option linter.unusedVariables false
set_option maxRecDepth 20000
set_option linter.unusedSimpArgs false
attribute [local irreducible] AW AQ AO
theorem n0W (l:List UInt8)(hl:l.length≤1000000):Sp Tryz.prog 138 [roB l] [] (b0h 5 1 l.length (arB l.length (kf l))):=by
 refine yN Tryz.func138 _ Tryz.ntmps138 (fun w0 R0=> ?_)
 refine zD (zr ?_)
 refine zc (zI (zo (zD (zD (zr ?_)))))
 refine zb ?_
 refine AO.opN (O.eqlNil rfl rfl rfl) rfl rfl rfl ?_
 rintro _ _ ⟨c1,rfl,rfl,hnil1⟩
 simp only[cA,cN]
 refine zI (zo ?_)
 refine yk (fun h=> ?_) (fun h=> ?_)
 ·obtain rfl:l= []:=List.eq_nil_of_length_eq_zero (by exact hnil1 (by simp[h]))
  refine zD (zr ?_)
  refine zc (zI (zo (xc (xr ?_))))
  refine AQ.g ?_
  refine G.nilRow 5 1 ?_
  refine AQ.u ?_
  refine vu rfl rfl ⟨_,by repeat(first|exact List.Sublist.slnil|refine List.Sublist.cons_cons _ ?_),List.Perm.refl _⟩ (⟨_,rfl,rfl,rfl⟩)
 refine yX (zo (zD (zr ?_)))
 refine vV (O.buildSlice0 rfl) ?_
 intro V2 hV2
 refine zb ?_
 refine zH 0 ?_
 intro V3 hV3
 refine zc (zI (zo (xc ?_)))
 rw[Nat.zero_add,e0Q]
 refine vu rfl rfl ⟨_,by repeat(first|exact List.Sublist.slnil|refine List.Sublist.cons_cons _ ?_),List.Perm.refl _⟩ (⟨V3,rfl,hV3,rfl⟩)
def e0l (w:Nat→UInt8)(nonce text:List UInt8)(i:Nat):UInt8:=kf text i^^^enc w (c0a (u8 (14-(nonce.length:Int))) nonce (((i/16:Nat):Int)+1)) (i%16)
def m0a (w:Nat→UInt8)(nonce text:List UInt8)(k i:Nat):UInt8:=if i<k then e0l w nonce text i else kf text i
def e0g (w:Nat→UInt8)(nonce:List UInt8)(tg:Nat→UInt8)(q:Nat):UInt8:=tg q^^^enc w (c0a (u8 (14-(nonce.length:Int))) nonce 0) q
theorem m0m (w:Nat→UInt8)(nonce text:List UInt8)(i:Nat):m0a w nonce text 0 i=kf text i:=if_neg (by omega)
set_option maxHeartbeats 8000000 in
theorem h0W (w:Nat→UInt8)(nonce text:List UInt8)(tg:Nat→UInt8)(hn13:nonce.length≤13)(hp:text.length≤1000000):Sp Tryz.prog 158 [.rp (g0u w) 0,roB nonce,roB text,.agg (arB 16 tg)] []
  (fun r Hn=> ∃V:Value,V.oneCell'=true∧r= .tup [.val V,.agg (arB 16 (e0g w nonce tg))]∧Hn= [.row V 5 1 text.length (arB text.length (e0l w nonce text))]):=by
 refine yN Tryz.func158 _ Tryz.ntmps158 (fun w0 R0=> ?_)
 refine zD (zr ?_)
 refine ye ?_
 intro B1
 refine zc ?_
 refine zd ?_
 intro B2
 refine zI (zo (zD (zr ?_)))
 refine zb ?_
 refine vV (xH rfl Tryz.func138 rfl rfl rfl (n0W _ hp)) ?_
 intro V3 hV3
 refine zc (zI (zo (zD (zr ?_))))
 refine zb ?_
 refine zW ?_
 refine yK ?_
 refine xa ?_
 refine zc (zI (zo (zD (zD (zr ?_)))))
 refine zc (zI (zo (xj ?_)))
 obtain⟨n,hn⟩: ∃n,n=text.length:=⟨_,rfl⟩
 rw[←hn]
 have e0:arB n (kf text)=arB n (m0a w nonce text 0):=a0c fun q _=>(m0m w nonce text q).symm
 rw[e0]
 refine zh [(0,_),(1,_),(7,_),(9,_),(11,_)] (fun nn E H=> ∃(j:Nat) (V:Value),(16*j<n+16)∧(V.oneCell'=true)∧nn=n+16-16*j∧E= [(10,.val V),(12,.val (.int .i64 ((16*j:Nat):Int)))]∧H= [.row V 5 1 n (arB n (m0a w nonce text (16*j))),.blk B2 171 16 (arB 16 fun _=>0),.blk B1 171 16 (arB 16 tg)]) _ (⟨0,V3,by omega,hV3,rfl,rfl,rfl⟩) ?_
 rintro nn E H ⟨j,V,hj,hV,rfl,rfl,rfl⟩
 dsimp only[cA,cN]
 refine zD (zD (zr ?_))
 refine zb ?_
 refine zb ?_
 refine wn ?_
 refine zP (zI (zo ?_))
 refine yk (fun h=> ?_) (fun h=> ?_)<;>(try simp only[vX]at h)
 ·have hj':16*j<n:=by omega
  obtain⟨m,hm⟩: ∃m:Nat,m=min n (16*j+16):=⟨_,rfl⟩
  have hmin:(if((16*j:Nat):Int)+16<(n:Int)then((16*j:Nat):Int)+16 else(n:Int))=(m:Int):=by split<;>omega
  have hq:((16*j:Nat):Int)/16+1=(j:Int)+1:=by omega
  refine AW.g ?_
  refine G.openRow 0 rfl (by omega) (fun b' cap hc1 hc2 hxs hVe=> ?_)
  refine AW.u ?_
  subst hVe
  dsimp only[List.set]
  refine yX (zo (zD (xj (zD (zr ?_)))))
  refine zb ?_
  refine zb ?_
  refine zb ?_
  refine zb ?_
  refine wI ?_
  refine zA ?_
  refine vT (xH rfl Tryz.func180 rfl rfl rfl (g0f _ nonce _ hn13 ⟨by omega,by omega⟩)) ?_
  refine vT (xH rfl Tryz.func179 rfl rfl rfl (h0M w _)) ?_
  refine zd ?_
  intro B4
  refine xf 0 (zI (zo (zD (zr ?_))))
  refine zb ?_
  refine zc (zI (zo (xj ?_)))
  rw[hq]
  obtain⟨z,hz⟩: ∃z,z=enc w (c0a (u8 (14-(nonce.length:Int))) nonce ((j:Int)+1)):=⟨_,rfl⟩
  rw[←hz]
  refine zh [(0,_),(1,_),(7,_),(9,_),(10,_),(11,_),(12,_),(13,_)] (fun nn E H=> ∃(k:Nat),(16*j≤k∧k≤m)∧nn=m-k∧E= [(14,.val (.int .i64 (k:Int)))]∧H= [.blk B4 171 16 (arB 16 z),.blk b' 5 (cap*1) (arB n (m0a w nonce text k)),.blk B2 171 16 (arB 16 fun _=>0),.blk B1 171 16 (arB 16 tg)]) _ (⟨16*j,by omega,rfl,rfl,rfl⟩) ?_
  rintro nn E H ⟨k,hk,rfl,rfl,rfl⟩
  dsimp only[cA,cN]
  refine zD (zD (zr ?_))
  refine zb ?_
  refine zb ?_
  refine vT (O.lenV rfl rfl) ?_
  refine zb ?_
  refine zA ?_
  refine vT (O.minI rfl rfl rfl hmin) ?_
  refine zP (zI (zo ?_))
  refine yk (fun h2=> ?_) (fun h2=> ?_)<;>(try simp only[vX]at h2)
  ·have hk':k<m:=by omega
   refine yX (zo (zD (xj ?_)))
   refine yw 11 ?_
   simp only[cT,cZ,cD,cO]
   refine zG ?_
   refine zG ?_
   refine wV ?_
   refine vS (O.load rfl rfl mM (by exact a0o (k:=k) (by omega) (by omega))) ?_
   refine zG ?_
   refine zG ?_
   refine xT ?_
   refine yP ?_
   refine vS (O.load rfl rfl (by repeat(exact List.Mem.head _)) (by exact a0o (k:=k-16*j) (by omega) (by omega))) ?_
   refine wm ?_
   refine wV ?_
   refine wZ ?_
   simp only[a0f,cN,cA,cP]
   refine yM 1 rfl rfl rfl rfl rfl rfl (by rfl) (by rfl) (by exact Nat.ble_eq_true_of_le (by rw[a0b];omega)) (by exact a0M (k:=k) (by omega) _ (by omega)) (zI (xz (zo (zr ?_))))
   refine zb ?_
   refine zA ?_
   refine zc (zI ?_)
   have e1:arB n (fun q=>if q=k then m0a w nonce text k k^^^z (k-16*j)else m0a w nonce text k q)=arB n (m0a w nonce text (k+1)):=a0c fun q _=>by
    unfold m0a
    rcases Nat.lt_trichotomy q k with h1|h1|h1
    ·rw[if_neg (by omega),if_pos h1,if_pos (by omega)]
    ·rw[if_pos h1,if_neg (by omega),if_pos (by omega),h1,e0l,hz,show k/16=j by omega,show k%16=k-16*j by omega]
    rw[if_neg (by omega),if_neg (by omega),if_neg (by omega)]
   rw[e1]
   refine zq _ _ _ (by omega) (⟨k+1,by omega,rfl,rfl,rfl⟩)
  obtain rfl:k=m:=by omega
  refine wb ?_
  refine xY ?_
  refine x3 ?_
  refine xx (xz (zo (zr ?_)))
  refine zb ?_
  refine zA ?_
  refine zc (zI ?_)
  have e1:arB n (m0a w nonce text k)=arB n (m0a w nonce text (16*(j+1))):=a0c fun q hq=>by
   unfold m0a
   by_cases h1:q<k
   ·rw[if_pos h1,if_pos (by omega)]
   rw[if_neg h1,if_neg (by omega)]
  rw[e1]
  refine AQ.g ?_
  refine G.closeRow (b:=b') 1 rfl (by rw[a0b,Nat.mul_one]) rfl hc1 hc2 ?_
  refine AQ.u ?_
  dsimp only[List.set]
  have e2:((16*j:Nat):Int)+16=((16*(j+1):Nat):Int):=by omega
  rw[e2]
  refine zJ _ _ _ (by omega) (⟨j+1,_,by omega,hV,rfl,rfl,rfl⟩)
 have e1:arB n (m0a w nonce text (16*j))=arB n (e0l w nonce text):=a0c fun q hq=>if_pos (by omega)
 rw[e1]
 refine wb ?_
 refine xY ?_
 refine x3 ?_
 refine xx (zo (zD (zr ?_)))
 refine zb ?_
 refine zb ?_
 refine zb ?_
 refine vT (xH rfl Tryz.func180 rfl rfl rfl (g0f _ nonce _ hn13 ⟨by omega,by omega⟩)) ?_
 refine vT (xH rfl Tryz.func179 rfl rfl rfl (h0M w _)) ?_
 refine zd ?_
 intro B5
 refine xf 0 (zI (zo (zD (zD (zr ?_)))))
 refine zb (zI (zo (xj ?_)))
 have e2:arB 16 tg=arB 16 (fun q=>if q<0 then e0g w nonce tg q else tg q):=a0c fun q _=>(if_neg (by omega)).symm
 rw[e2]
 obtain⟨z,hz⟩: ∃z,z=enc w (c0a (u8 (14-(nonce.length:Int))) nonce 0):=⟨_,rfl⟩
 rw[←hz]
 refine zh [(7,_),(9,_),(10,_),(15,_)] (fun nn E H=> ∃(i:Nat),(i≤16)∧nn=16-i∧E= [(63,.val (.int .i64 (i:Int)))]∧H= [.blk B5 171 16 (arB 16 z),.row V 5 1 n (arB n (e0l w nonce text)),.blk B2 171 16 (arB 16 fun _=>0),.blk B1 171 16 (arB 16 (fun q=>if q<i then e0g w nonce tg q else tg q))]) _ (⟨0,by omega,rfl,rfl,rfl⟩) ?_
 rintro nn E H ⟨i,hi,rfl,rfl,rfl⟩
 dsimp only[cA,cN]
 refine zD (zr ?_)
 refine zP (zI (zo (zD ?_)))
 refine yk (fun h3=> ?_) (fun h3=> ?_)<;>(try simp only[vX]at h3)
 ·have hi':i<16:=by omega
  refine yX (zo (zD (xj (zD (zr ?_)))))
  refine zb ?_
  refine zc (zI (zo ?_))
  refine yw 8 ?_
  simp only[cT,cZ,cD,cO]
  refine zG ?_
  refine yP ?_
  refine vS (O.load rfl rfl mM (by exact a0o (k:=i) (by omega) (by omega))) ?_
  refine zG ?_
  refine yP ?_
  refine vS (O.load rfl rfl (by repeat(exact List.Mem.head _)) (by exact a0o (k:=i) (by omega) (by omega))) ?_
  refine wm ?_
  refine yP ?_
  refine wZ ?_
  simp only[a0f,cN,cA,cP]
  refine yM 3 rfl rfl rfl rfl rfl rfl (by rfl) (by rfl) (by exact Nat.ble_eq_true_of_le (by rw[a0b];omega)) (by exact a0M (k:=i) (by omega) _ (by omega)) (zI (xz (zo (zr ?_))))
  refine zA ?_
  refine zb (zI ?_)
  have e3:arB 16 (fun q=>if q=i then(if i<i then e0g w nonce tg i else tg i)^^^z i else if q<i then e0g w nonce tg q else tg q)=arB 16 (fun q=>if q<i+1 then e0g w nonce tg q else tg q):=a0c fun q _=>by
   rcases Nat.lt_trichotomy q i with h1|h1|h1
   ·rw[if_neg (by omega),if_pos h1,if_pos (by omega)]
   ·rw[if_pos h1,if_neg (by omega),if_pos (by omega),h1,e0g,hz]
   rw[if_neg (by omega),if_neg (by omega),if_neg (by omega)]
  rw[e3]
  refine zq _ _ _ (by omega) (⟨i+1,by omega,rfl,rfl,rfl⟩)
 obtain rfl:i=16:=by omega
 have e3:arB 16 (fun q=>if q<16 then e0g w nonce tg q else tg q)=arB 16 (e0g w nonce tg):=a0c fun q hq=>if_pos hq
 rw[e3]
 refine wb ?_
 refine xY ?_
 refine x3 ?_
 refine xx (zo (zD ?_))
 refine yw 3 ?_
 simp only[cT,cZ,cD,cO]
 refine zG ?_
 refine vS (O.loadK rfl rfl mM (by exact o0g _) (by exact a0b _ _)) ?_
 refine vB ?_
 refine wZ ?_
 simp only[a0f,cN,cA,cP]
 refine AO.store (i:=2) rfl rfl rfl rfl rfl rfl (by exact c0H _ _) (by exact a0b _ _) (by exact Nat.ble_eq_true_of_le (Nat.le_of_eq (a0b _ _).symm)) (by exact b0t rfl) (by(dsimp only[List.set,cA,cN,List.take,List.drop];done)) (zI (zo (xc ?_)))
 rw[hn]
 refine AQ.ret2G rfl (ResAt.tmp rfl) (ResAt.cell (ys:=arB 16 (e0g w nonce tg)) rfl mM (List.take_of_length_le (Nat.le_of_eq (a0b _ _))) (a0b _ _)) ⟨_,List.Sublist.cons _ (List.Sublist.cons_cons _ (List.nil_sublist _)),.refl _⟩ ⟨V,hV,rfl,rfl⟩
end Go.Proofs.YtojomcdjcpmnkaaGreat.By
namespace Go.Proofs.YtojomcdjcpmnkaaGreat.By
open Go.RowKit L A
attribute [local irreducible] AW AQ AO
attribute [local simp] a0b
abbrev wK (key:List UInt8):Nat→UInt8:=wS (kf key)
def c0e (aad plain:List UInt8):Bool:=decide ((aad.length:Int)≤4096)&&decide ((plain.length:Int)≤4096)
def e0n (key nonce aad plain:List UInt8)(tag:Int):List UInt8:=
 if cvB key nonce tag&&c0e aad plain then fnB plain.length (e0l (wK key) nonce plain)++fnB tag.toNat (e0g (wK key) nonce (i0x (wK key) nonce aad plain tag))else []
def d0s (key nonce aad plain:List UInt8)(tag:Int):Int:=
 if cvB key nonce tag then(if c0e aad plain then 0 else 8)else 1
theorem k0l {key nonce aad plain:List UInt8}{tag:Int}(h:cvB key nonce tag=false):e0n key nonce aad plain tag= []∧d0s key nonce aad plain tag=1:=by
 simp[e0n,d0s,h]
theorem h0Z {key nonce aad plain:List UInt8}{tag:Int}(h:cvB key nonce tag=true)(h2:c0e aad plain=false):e0n key nonce aad plain tag= []∧d0s key nonce aad plain tag=8:=by
 simp[e0n,d0s,h,h2]
theorem c0S {key nonce aad plain:List UInt8}{tag:Int}(h:cvB key nonce tag=true)(h2:c0e aad plain=true):e0n key nonce aad plain tag=fnB plain.length (e0l (wK key) nonce plain)++fnB tag.toNat (e0g (wK key) nonce (i0x (wK key) nonce aad plain tag))∧d0s key nonce aad plain tag=0:=by
 simp[e0n,d0s,h,h2]
theorem p0S {T:Nat}(h:T≤16)(f:Nat→UInt8):((arB 16 f).drop (0+0*1)).take ((T-0)*1)=arB T f:=by
 rw[show(T-0)*1=T by omega]
 have:=h0a (n:=16) (f:=f) (j:=0+0*1) (k:=T) (by omega)
 rw[this]
 exact a0c fun q _=>by rw[show 0+0*1+q=q by omega]
theorem k0t (n T:Nat)(f g:Nat→UInt8):AV.ro false (n+(T-0)) (arB n f++arB T g)=roB (fnB n f++fnB T g):=by
 unfold roB
 rw[cH,a0G,a0G,Nat.sub_zero]
 show _=AV.ro false (n+T) (a0a (fnB n f++fnB T g))
 rw[a0a,List.map_append];rfl
theorem r0e (key nonce aad plain:List UInt8)(tag:Int)(ha:aad.length≤1000000)(hp:plain.length≤1000000):Sp Tryz.prog 116 [roB key,roB nonce,roB aad,roB plain,.val (.int .i64 tag)] [] (Is (.tup [roB (e0n key nonce aad plain tag),.val (.int .i64 (d0s key nonce aad plain tag))])):=by
 refine yN Tryz.func116 _ Tryz.ntmps116 (fun w0 R0=> ?_)
 refine zD (zr ?_)
 refine zc ?_
 refine zc (zI (zo (zD (xj (zD (zr ?_))))))
 refine zb ?_
 refine zb ?_
 refine zb ?_
 refine vT (xH rfl Tryz.func156 rfl rfl rfl (k0V key nonce _)) ?_
 refine xq ?_
 refine zc (zI (zo ?_))
 refine yk (fun h=> ?_) (fun h=> ?_)<;>(try simp only[vX]at h)
 ·have hb:cvB key nonce tag=false:=by simpa using h
  obtain⟨e1,e2⟩:=k0l (aad:=aad) (plain:=plain) hb
  rw[e1,e2]
  refine zD (zr ?_)
  refine zc ?_
  refine zc (zI (zo (xc ?_)))
  refine wi (xr ?_)
  refine x8 yJ yq (⟨rfl,rfl⟩)
 obtain⟨hk,hn7,hn13,ht4,ht16,ht2⟩:=k0T h
 refine zD (zr ?_)
 refine zb ?_
 refine zW ?_
 refine yS ?_
 refine zb ?_
 refine yt ?_
 refine yb 26 ?_
 refine yp 27 ?_
 refine zE ?_
 refine zc (zI (zo ?_))
 refine yk (fun h2=> ?_) (fun h2=> ?_)<;>(try simp only[vX]at h2)
 ·have hb:c0e aad plain=false:=by
   simp only[c0e,Bool.and_eq_false_iff,decide_eq_false_iff_not]
   omega
  obtain⟨e1,e2⟩:=h0Z h hb
  rw[e1,e2]
  refine zD (zr ?_)
  refine zc ?_
  refine zc (zI (zo (xc ?_)))
  refine wi (xr ?_)
  refine x8 yJ yq (⟨rfl,rfl⟩)
 have hb:c0e aad plain=true:=by
  simp only[c0e,Bool.and_eq_true,cQ]
  omega
 obtain⟨e1,e2⟩:=c0S h hb
 rw[e1,e2]
 obtain⟨T,hT⟩: ∃T:Nat,T=tag.toNat:=⟨_,rfl⟩
 rw[←hT]
 have hT':tag=(T:Int):=by omega
 have ha':aad.length≤10000:=by omega
 have hp':plain.length≤10000:=by omega
 refine AW.g ?_
 refine G.re 0 (.ro false 16 (arB 16 (kf key))) (congrArg some (i0c hk)) ?_
 refine AW.u (yX (xz (zo (zD (zr ?_)))))
 refine zb ?_
 refine AO.opB (xH rfl Tryz.func157 rfl rfl rfl (i0V _)) rfl rfl rfl ?_
 intro B1
 refine zc ?_
 refine AO.g ?_
 refine G.freezePtr 0 12 rfl rfl ?_
 refine AO.u ?_
 dsimp only[List.eraseIdx]
 refine zI (zo (zD (zr ?_)))
 refine zb ?_
 refine zb ?_
 refine zb ?_
 refine zb ?_
 refine zb ?_
 refine zb ?_
 refine zb ?_
 refine zb ?_
 refine vT (xH rfl Tryz.func159 rfl rfl rfl (o0e _ nonce aad plain tag hn13 ⟨ht4,ht16⟩ ha' hp')) ?_
 refine AO.opN (xH rfl Tryz.func158 rfl rfl rfl (h0W _ nonce plain _ hn13 (by omega))) rfl rfl rfl ?_
 rintro _ _ ⟨V442,hV442,rfl,rfl⟩
 simp only[cA,cN]
 refine zb ?_
 refine zO ?_
 refine zO ?_
 refine zd ?_
 intro B3
 refine zc ?_
 refine xf 0 ?_
 refine AO.g ?_
 refine G.freezePtr 0 14 rfl rfl ?_
 refine AO.u ?_
 dsimp only[List.eraseIdx]
 refine zI (zo (zD (zr ?_)))
 refine zb ?_
 refine zb ?_
 refine vT (O.sliceArrRK (p:=0) (q:=T) rfl rfl rfl rfl (by rfl) (by omega) ⟨by omega,by omega⟩ (by omega) (by(unfold maxLen;omega)) (by exact p0S (by omega) _)) ?_
 refine AO.append' (i:=0) rfl rfl rfl rfl (by rfl) (by rfl) rfl rfl rfl (by exact SrcA.ro TyD.ax (by(simp;done)) (lB rfl)) (by exact c0H _ _) (by(unfold maxLen;omega)) (by omega) (by(dsimp only[List.set,cA,cN,List.take,List.drop];done)) (fun _=>by(dsimp only[List.set];done)) ?_
 intro V4 hV4
 refine AO.g ?_
 refine yH 0 [48] ?_
 refine AO.u ?_
 dsimp only[List.map,List.eraseIdx,cA,cN]
 refine zc ?_
 refine zc (zI (zo (xc ?_)))
 refine AQ.g ?_
 refine G.re 10 (roB (fnB plain.length (e0l (wK key) nonce plain)++fnB T (e0g (wK key) nonce (i0x (wK key) nonce aad plain tag)))) (congrArg some (k0t _ T _ _)) ?_
 refine AQ.u ?_
 refine x8 yJ xe (⟨rfl,rfl⟩)
theorem o0a {first:UInt8}{nonce:List UInt8}{n:Int}{q:Nat}(hq:nonce.length<q)(h8:7<15-(q:Int))(hn:0≤n∧n≤9223372036854775807):(0:UInt8)=c0a first nonce n q:=by
 rw[c0a,if_neg (by omega),if_neg (by omega)]
 have h1:(256:Int)^8≤256^ (15-q):=by
  obtain⟨d,hd⟩: ∃d,15-q=8+d:=⟨15-q-8,by omega⟩
  rw[hd,Int.pow_add]
  have:(1:Int)≤256^d:=Int.pow_pos (by decide)
  have h2:(0:Int)≤256^8:=by decide
  calc (256:Int)^8=256^8*1:=(Int.mul_one _).symm
   _≤256^8*256^d:=Int.mul_le_mul_of_nonneg_left this h2
 have h3:n<256^ (15-q):=by
  have:(9223372036854775807:Int)<256^8:=by decide
  omega
 rw[Int.ediv_eq_zero_of_lt hn.1 h3];rfl
theorem n0Z {first:UInt8}{nonce:List UInt8}{n:Int}{q:Nat}(hq:nonce.length<q)(hq2:q≤15)(h8:15-(q:Int)≤7):u8 (n.fdiv (2^min (8*(15-(q:Int))).toNat IntKind.i64.bits))=c0a first nonce n q:=by
 rw[c0a,if_neg (by omega),if_neg (by omega)]
 have e: ∃i:Nat,i≤7∧15-q=i∧15-(q:Int)=i:=⟨15-q,by omega,rfl,by omega⟩
 obtain⟨i,hi,e1,e2⟩:=e
 rw[e1,e2]
 have e3:min (8*(i:Int)).toNat IntKind.i64.bits=8*i:=by
  show min (8*(i:Int)).toNat 64=_
  omega
 rw[e3,Int.fdiv_eq_ediv_of_nonneg _ (Int.le_of_lt (Int.pow_pos (by decide))),Int.pow_mul];rfl
theorem l0N (first:Int)(nonce:List UInt8)(n:Int)(hn13:nonce.length≤13)(hn:0≤n∧n≤9223372036854775807):Sp Tryz.prog 187 [.val (.int .i64 first),roB nonce,.val (.int .i64 n)] [] (Is (roB (fnB 16 (c0a (u8 first) nonce n)))):=by
 refine yN Tryz.func187 _ Tryz.ntmps187 (fun w0 R0=> ?_)
 refine zD (zr ?_)
 refine zc (zI (zo (zD (zr ?_))))
 refine zb ?_
 refine xa ?_
 refine zQ ?_
 intro B1
 refine AO.g ?_
 refine xN B1 1 1 0 rfl rfl rfl (Nat.le_refl _) ?_
 refine AO.u ?_
 dsimp only[List.set]
 refine zb ?_
 refine yG 0 ?_
 intro V2 hV2
 refine zc (zI (zo (zD (zD (zr ?_)))))
 refine zb ?_
 refine zW ?_
 refine yK ?_
 refine zc (zI (zo (xj ?_)))
 obtain⟨L,hL⟩: ∃L,L=nonce.length:=⟨_,rfl⟩
 rw[←hL]at hn13
 have e0:AV.val (.int .u8 ((u8 first).toNat:Int))::a0a nonce=arB (1+L) (c0a (u8 first) nonce n):=by
  rw[hL,e0Q]
  show arB 1 (fun _=>u8 first)++arB nonce.length (kf nonce)=_
  rw[j0V]
  exact a0c fun q hq=>by
   by_cases h:q<1
   ·rw[if_pos h,c0a,if_pos (by omega)]
   rw[if_neg h,c0a,if_neg (by omega),if_pos (by omega)]
 have ez:nonce.length=L:=hL.symm
 have ey:14-(L:Int)=15-((1+L:Nat):Int):=by omega
 rw[ez,e0,ey]
 refine zh [(2,_)] (fun nn E H=> ∃(q:Nat) (V:Value),(1+L≤q∧q≤16)∧(V.oneCell'=true)∧nn=16-q∧E= [(7,.val V),(8,.val (.int .i64 (15-(q:Int))))]∧H= [.row V 5 1 q (arB q (c0a (u8 first) nonce n))]) _ (⟨1+L,V2,by omega,hV2,rfl,rfl,rfl⟩) ?_
 rintro nn E H ⟨q,V,hq,hV,rfl,rfl,rfl⟩
 dsimp only[cA,cN]
 have ex:15-(q:Int)-1=15-((q+1:Nat):Int):=by omega
 refine zD (zD (zr ?_))
 refine zb ?_
 refine ww (zI (zo ?_))
 refine yk (fun h=> ?_) (fun h=> ?_)<;>(try simp only[vX]at h)
 ·have hq':q<16:=by omega
  refine yX (zo (zD (xj (zD (zD (zr ?_))))))
  refine zb ?_
  refine yS (zI (zo ?_))
  refine yk (fun h2=> ?_) (fun h2=> ?_)<;>(try simp only[vX]at h2)
  ·refine zD (zr ?_)
   refine zb ?_
   refine zQ ?_
   intro B3
   refine AO.g ?_
   refine yc 0 24 ?_
   refine wd 24 ?_
   refine AO.u ?_
   dsimp only[List.eraseIdx]
   refine yn 0 ?_
   intro V4 hV4
   refine zc (zI (zo ?_))
   refine wb ?_
   refine xY ?_
   refine xx (zo (zr ?_))
   refine zb ?_
   refine yK ?_
   refine zc (zI ?_)
   rw[show arB q (c0a (u8 first) nonce n)++[AV.val (.int .u8 0)]=arB (q+1) (c0a (u8 first) nonce n)from c0g (o0a (by omega) h2 hn),ex]
   refine zq _ _ _ (by omega) (⟨q+1,V4,by omega,hV4,rfl,rfl,rfl⟩)
  refine yX (zo (zr ?_))
  refine zb ?_
  refine zb ?_
  refine zb ?_
  refine wa ?_
  refine vT (O.mul rfl rfl rfl (by exact o0v (by omega))) ?_
  refine vT (O.shr rfl rfl rfl (by omega) rfl) ?_
  refine xa ?_
  refine zQ ?_
  intro B5
  refine AO.g ?_
  refine yc 0 33 ?_
  refine wd 33 ?_
  refine AO.u ?_
  dsimp only[List.eraseIdx]
  refine yn 0 ?_
  intro V6 hV6
  refine zc (zI (xz (zo (zr ?_))))
  refine zb ?_
  refine yK ?_
  refine zc (zI ?_)
  rw[show arB q (c0a (u8 first) nonce n)++[AV.val (.int .u8 ((u8 (n.fdiv (2^min (8*(15-(q:Int))).toNat IntKind.i64.bits))).toNat:Int))]=arB (q+1) (c0a (u8 first) nonce n)from c0g (n0Z (by omega) (by omega) h2),ex]
  refine zq _ _ _ (by omega) (⟨q+1,V6,by omega,hV6,rfl,rfl,rfl⟩)
 obtain rfl:q=16:=by omega
 refine wb ?_
 refine xY ?_
 refine x3 ?_
 refine xx (zo (zD (zr ?_)))
 refine zb ?_
 refine zc (zI (zo (xc ?_)))
 refine AQ.g ?_
 refine yf 0 [6] ?_
 refine AQ.u ?_
 try dsimp only[List.map,List.eraseIdx,cA,cN]
 refine AQ.g ?_
 refine G.re 6 (roB (fnB 16 (c0a (u8 first) nonce n))) (congrArg some (b0E _ _).symm) ?_
 refine AQ.u ?_
 refine yE
theorem j0L (first:Int)(nonce:List UInt8)(n:Int)(hn13:nonce.length≤13)(hn:0≤n∧n≤9223372036854775807):Sp Tryz.prog 187 [.val (.int .i64 first),roB nonce,.val (.int .i64 n)] [] (b0h 5 1 16 (arB 16 (c0a (u8 first) nonce n))):=by
 refine yN Tryz.func187 _ Tryz.ntmps187 (fun w0 R0=> ?_)
 refine zD (zr ?_)
 refine zc (zI (zo (zD (zr ?_))))
 refine zb ?_
 refine xa ?_
 refine zQ ?_
 intro B1
 refine AO.g ?_
 refine xN B1 1 1 0 rfl rfl rfl (Nat.le_refl _) ?_
 refine AO.u ?_
 dsimp only[List.set]
 refine zb ?_
 refine yG 0 ?_
 intro V2 hV2
 refine zc (zI (zo (zD (zD (zr ?_)))))
 refine zb ?_
 refine zW ?_
 refine yK ?_
 refine zc (zI (zo (xj ?_)))
 obtain⟨L,hL⟩: ∃L,L=nonce.length:=⟨_,rfl⟩
 rw[←hL]at hn13
 have e0:AV.val (.int .u8 ((u8 first).toNat:Int))::a0a nonce=arB (1+L) (c0a (u8 first) nonce n):=by
  rw[hL,e0Q]
  show arB 1 (fun _=>u8 first)++arB nonce.length (kf nonce)=_
  rw[j0V]
  exact a0c fun q hq=>by
   by_cases h:q<1
   ·rw[if_pos h,c0a,if_pos (by omega)]
   rw[if_neg h,c0a,if_neg (by omega),if_pos (by omega)]
 have ez:nonce.length=L:=hL.symm
 have ey:14-(L:Int)=15-((1+L:Nat):Int):=by omega
 rw[ez,e0,ey]
 refine zh [(2,_)] (fun nn E H=> ∃(q:Nat) (V:Value),(1+L≤q∧q≤16)∧(V.oneCell'=true)∧nn=16-q∧E= [(7,.val V),(8,.val (.int .i64 (15-(q:Int))))]∧H= [.row V 5 1 q (arB q (c0a (u8 first) nonce n))]) _ (⟨1+L,V2,by omega,hV2,rfl,rfl,rfl⟩) ?_
 rintro nn E H ⟨q,V,hq,hV,rfl,rfl,rfl⟩
 dsimp only[cA,cN]
 have ex:15-(q:Int)-1=15-((q+1:Nat):Int):=by omega
 refine zD (zD (zr ?_))
 refine zb ?_
 refine ww (zI (zo ?_))
 refine yk (fun h=> ?_) (fun h=> ?_)<;>(try simp only[vX]at h)
 ·have hq':q<16:=by omega
  refine yX (zo (zD (xj (zD (zD (zr ?_))))))
  refine zb ?_
  refine yS (zI (zo ?_))
  refine yk (fun h2=> ?_) (fun h2=> ?_)<;>(try simp only[vX]at h2)
  ·refine zD (zr ?_)
   refine zb ?_
   refine zQ ?_
   intro B3
   refine AO.g ?_
   refine yc 0 24 ?_
   refine wd 24 ?_
   refine AO.u ?_
   dsimp only[List.eraseIdx]
   refine yn 0 ?_
   intro V4 hV4
   refine zc (zI (zo ?_))
   refine wb ?_
   refine xY ?_
   refine xx (zo (zr ?_))
   refine zb ?_
   refine yK ?_
   refine zc (zI ?_)
   rw[show arB q (c0a (u8 first) nonce n)++[AV.val (.int .u8 0)]=arB (q+1) (c0a (u8 first) nonce n)from c0g (o0a (by omega) h2 hn),ex]
   refine zq _ _ _ (by omega) (⟨q+1,V4,by omega,hV4,rfl,rfl,rfl⟩)
  refine yX (zo (zr ?_))
  refine zb ?_
  refine zb ?_
  refine zb ?_
  refine wa ?_
  refine vT (O.mul rfl rfl rfl (by exact o0v (by omega))) ?_
  refine vT (O.shr rfl rfl rfl (by omega) rfl) ?_
  refine xa ?_
  refine zQ ?_
  intro B5
  refine AO.g ?_
  refine yc 0 33 ?_
  refine wd 33 ?_
  refine AO.u ?_
  dsimp only[List.eraseIdx]
  refine yn 0 ?_
  intro V6 hV6
  refine zc (zI (xz (zo (zr ?_))))
  refine zb ?_
  refine yK ?_
  refine zc (zI ?_)
  rw[show arB q (c0a (u8 first) nonce n)++[AV.val (.int .u8 ((u8 (n.fdiv (2^min (8*(15-(q:Int))).toNat IntKind.i64.bits))).toNat:Int))]=arB (q+1) (c0a (u8 first) nonce n)from c0g (n0Z (by omega) (by omega) h2),ex]
  refine zq _ _ _ (by omega) (⟨q+1,V6,by omega,hV6,rfl,rfl,rfl⟩)
 obtain rfl:q=16:=by omega
 refine wb ?_
 refine xY ?_
 refine x3 ?_
 refine xx (zo (zD (zr ?_)))
 refine zb ?_
 refine zc (zI (zo (xc ?_)))
 refine vu rfl rfl ⟨_,by repeat(first|exact List.Sublist.slnil|refine List.Sublist.cons_cons _ ?_),List.Perm.refl _⟩ (⟨_,rfl,hV,rfl⟩)
def d0F (n:Nat):Nat:=(n+15)/16*16
theorem i0m (b:List UInt8)(hl:b.length≤1000000):Sp Tryz.prog 188 [roB b] [] (Is (roB (fnB (d0F b.length) (kf b)))):=by
 refine yN Tryz.func188 _ Tryz.ntmps188 (fun w0 R0=> ?_)
 refine zD (zr ?_)
 refine zc (zI (zo (zD (zr ?_))))
 refine zb ?_
 refine yD ?_
 intro V1 hV1
 refine zc (zI (zo (zD (xj ?_))))
 rw[e0Q]
 refine AW.loopK [] (fun nn E H=> ∃(m:Nat) (V:Value),(b.length≤m∧m≤d0F b.length)∧(V.oneCell'=true)∧nn=d0F b.length-m∧E= [(3,.val V)]∧H= [.row V 5 1 m (arB m (kf b))]) _ (⟨b.length,V1,⟨Nat.le_refl _,by unfold d0F;omega⟩,hV1,rfl,rfl,rfl⟩) (by repeat(exact a0j)) (by repeat(first|exact a0j|refine a0i rfl ?_)) (by repeat(first|exact a0A|refine a0v 0 rfl ?_)) ?_
 rintro nn E H ⟨m,V,hm,hV,rfl,rfl,rfl⟩
 dsimp only[cA,cN]
 have hpn:d0F b.length=(b.length+15)/16*16:=rfl
 refine zD (zD (zr ?_))
 refine zb ?_
 refine wn ?_
 refine wk ?_
 refine y1 (zI (zo ?_))
 refine yk (fun h=> ?_) (fun h=> ?_)<;>(try simp only[vX]at h)
 ·have hm':m<d0F b.length:=by omega
  refine yX (zo (xj (zr ?_)))
  refine zb ?_
  refine zQ ?_
  intro B2
  refine AO.g ?_
  refine yc 0 11 ?_
  refine wd 11 ?_
  refine AO.u ?_
  dsimp only[List.eraseIdx]
  refine yn 0 ?_
  intro V3 hV3
  refine zc (zI (xz ?_))
  rw[show arB m (kf b)++[AV.val (.int .u8 0)]=arB (m+1) (kf b)from c0g (h0D b hm.1).symm]
  refine AQ.loopKN _ _ _ (by omega) (⟨m+1,V3,by omega,hV3,rfl,rfl,rfl⟩) (by repeat(exact a0j)) (by repeat(first|exact a0j|refine a0i rfl ?_)) (by repeat(first|exact a0A|refine a0v 0 rfl ?_))
 have hm':m=d0F b.length:=by omega
 subst hm'
 refine wb ?_
 refine xY ?_
 refine x3 ?_
 refine xx (zo (zD (zr ?_)))
 refine zb ?_
 refine zc (zI (zo (xc ?_)))
 refine AQ.g ?_
 refine yf 0 [2] ?_
 refine AQ.u ?_
 try dsimp only[List.map,List.eraseIdx,cA,cN]
 refine AQ.g ?_
 refine G.re 2 (roB (fnB (d0F b.length) (kf b))) (congrArg some (b0E _ _).symm) ?_
 refine AQ.u ?_
 refine yE
end Go.Proofs.YtojomcdjcpmnkaaGreat.By
namespace Go.Proofs.YtojomcdjcpmnkaaGreat.By
open Go.RowKit L A
attribute [local irreducible] AW AQ AO
abbrev q0I (w f:Nat→UInt8):AV→List HE→Prop:=fun r Hn=> ∃V:Value,V.oneCell'=true∧r= .tup [.val V,.val (.int .i64 0)]∧Hn= [.row V 5 1 16 (arB 16 (enc w f))]
theorem i0H (w f:Nat→UInt8):o0o (q0I w f):=by
 rintro r Hn ⟨V,_,rfl,rfl⟩
 refine⟨fun R R' W u h=>h.plainT (fun x hx=> ?_),fun e he R R' W h=> ?_⟩
 ·simp only[List.mem_cons,List.not_mem_nil,or_false]at hx
  rcases hx with rfl|rfl<;>exact⟨_,rfl⟩
 obtain rfl:e=_:=List.mem_singleton.1 he
 exact HE.plainRow (k0b _ _) h
theorem o0Q (key:List UInt8)(f:Nat→UInt8)(hk:key.length=16):Sp Tryz.prog 186 [roB key,.ro false 16 (arB 16 f)] [] (q0I (wS (kf key)) f):=by
 refine yN Tryz.func186 _ Tryz.ntmps186 (fun w0 R0=> ?_)
 refine zD (zr ?_)
 refine zc ?_
 refine zc (zI (zo (zD (zD (zr ?_)))))
 refine zb ?_
 refine zW ?_
 refine vT (O.neq rfl rfl rfl (by exact bne_eq_false_iff_eq.2 (by omega))) ?_
 refine zb ?_
 refine yt ?_
 refine yb 17 ?_
 refine AO.opG rfl rfl rfl (fun hp=>wW 18 rfl (by exact hp) (O.neq rfl rfl rfl (by exact bne_eq_false_iff_eq.2 (by omega)))) ?_
 refine zE (zI (zo ?_))
 refine yk (fun h=> ?_) (fun h=> ?_)<;>(try simp only[vX]at h)
 ·exact absurd h (by simp[hk])
 refine AW.g ?_
 refine G.re 0 (.ro false 16 (arB 16 (kf key))) (congrArg some (i0c hk)) ?_
 refine AW.u ?_
 obtain⟨w,hwd⟩: ∃w,w=wS (kf key):=⟨_,rfl⟩
 have hs0:(arB 176 (wS (kf key))).take (16*1)=arB 16 (fun q=>w (0*16+q)):=by
  have:=h0a (n:=176) (f:=w) (j:=0) (k:=16) (by omega)
  rw[hwd]at this⊢
  simpa using this
 have hseg: ∀r,r<11→((arB 176 w).drop (16*r*1)).take (16*1)=arB 16 fun q=>w (r*16+q):=fun r hr=>by
  rw[show 16*r*1=r*16 by omega];exact h0a (by omega)
 refine yX (zo (zD (zr ?_)))
 refine vT (xH rfl Tryz.func199 rfl rfl rfl k0n) ?_
 refine wu ?_
 intro B1
 refine ym 0 (zI (zo (zD (zr ?_))))
 refine zb ?_
 refine xA ?_
 refine vT (xH rfl Tryz.func200 rfl rfl rfl (i0a _)) ?_
 refine zc (zI (zo (zD ?_)))
 refine yw 7 ?_
 simp only[cT,cZ,cD,cO]
 refine zG ?_
 refine vS (O.toArr rfl rfl (by omega) (by omega)) ?_
 refine vS (O.loadRK rfl rfl (by exact List.take_of_length_le (Nat.le_of_eq (a0b _ _))) (by exact a0b _ _)) ?_
 refine zG ?_
 refine vS (O.sliceTo (k:=16) rfl rfl rfl (by rfl) (by omega) (by exact hs0)) ?_
 refine vS (xH rfl Tryz.func201 rfl rfl rfl (e0o _ _)) ?_
 refine yV ?_
 refine wZ ?_
 simp only[a0f,cN,cA,cP]
 rintro _ _ ⟨B2,rfl,rfl⟩
 simp only[cA,cN]
 refine xf 0 (zI (zo (zD (zD (zr ?_)))))
 refine zc (zI (zo (xj ?_)))
 rw[←hwd]
 refine zh [(6,_),(7,_),(8,_)] (fun nn E H=> ∃(j:Nat),(j≤10)∧nn=10-j∧E= [(9,.val (.int .i64 ((j+1:Nat):Int)))]∧H= [a0B B2 (d0v w f j),.blk B1 181 256 (arB 256 RB)]) _ (⟨0,by omega,rfl,rfl,rfl⟩) ?_
 rintro nn E H ⟨j,hj,rfl,rfl,rfl⟩
 dsimp only[cA,cN]
 refine zD (zD (zr ?_))
 refine zb ?_
 refine vN (zI (zo ?_))
 refine yk (fun hj1=> ?_) (fun hj1=> ?_)<;>(try simp only[vX]at hj1)
 ·obtain⟨g,hg⟩: ∃g,g=d0v w f j:=⟨_,rfl⟩
  have hst: ∀q,d0v w f (j+1) q=(if j+1<10 then e0S (shF sb 1 g) f0H else shF sb 1 g) q^^^w ((j+1)*16+q):=fun q=>by rw[d0v,hg]
  rw[←hg]
  refine yX (zo (zD (xj (zD (zr ?_)))))
  refine zd ?_
  intro B3
  refine zI (zo (zD (zD (zr ?_))))
  refine zb (zI (zo (xj ?_)))
  have e0:a0B B3 (fun _=>0)=a0B B3 (fun q=>if q<4*0+0 then shF sb 1 g q else 0):=b0o fun q _=>(if_neg (by omega)).symm
  refine zh [(6,_),(7,_),(8,_),(9,_),(10,_)] (fun nn E H=> ∃(c:Nat),(c≤4)∧nn=4-c∧E= [(35,.val (.int .i64 (c:Int)))]∧H= [a0B B3 (fun q=>if q<4*c+0 then shF sb 1 g q else 0),a0B B2 g,.blk B1 181 256 (arB 256 RB)]) _ (⟨0,by omega,rfl,rfl,congrArg (fun x=> [x,a0B B2 g,.blk B1 181 256 (arB 256 RB)]) e0⟩) ?_
  rintro nn E H ⟨c,hc,rfl,rfl,rfl⟩
  dsimp only[cA,cN]
  refine zD (zr ?_)
  refine zP (zI (zo (zD ?_)))
  refine yk (fun hc4=> ?_) (fun hc4=> ?_)<;>(try simp only[vX]at hc4)
  ·refine yX (zo (zD (xj (zD (zr ?_)))))
   refine zb ?_
   refine zc (zI (zo (zD (zr ?_))))
   refine zb (zI (zo (xj ?_)))
   refine zh [(6,_),(7,_),(8,_),(9,_),(10,_),(11,_),(35,_)] (fun nn E H=> ∃(r:Nat),(r≤4)∧nn=4-r∧E= [(38,.val (.int .i64 (r:Int)))]∧H= [a0B B3 (fun q=>if q<4*c+r then shF sb 1 g q else 0),a0B B2 g,.blk B1 181 256 (arB 256 RB)]) _ (⟨0,by omega,rfl,rfl,rfl⟩) ?_
   rintro nn E H ⟨r,hr,rfl,rfl,rfl⟩
   dsimp only[cA,cN]
   refine zD (zr ?_)
   refine zP (zI (zo (zD ?_)))
   refine yk (fun hr4=> ?_) (fun hr4=> ?_)<;>(try simp only[vX]at hr4)
   ·have hr':r<4:=by omega
    have hix:(0+(4*(((c:Int)+(r:Int))%4)+(r:Int)).toNat*1)=r+4*((c+r)%4):=by
     have hi:(4*(((c:Int)+(r:Int))%4)+(r:Int))=((r+4*((c+r)%4):Nat):Int):=by push_cast;omega
     rw[hi,Int.toNat_natCast];omega
    have hgb:(arB 16 g)[0+(4*(((c:Int)+(r:Int))%4)+(r:Int)).toNat*1]? =some (by8 (g (r+4*((c+r)%4)))):=by rw[hix];exact a0o (by omega) rfl
    have hsh:shF sb 1 g (4*c+r)=sb (g (r+4*((c+r)%4))):=by
     rw[shF,show(4*c+r)%4=r by omega,show(4*c+r)/4=c by omega,Nat.one_mul]
    refine yX (zo (zD (xj (zD (zr ?_)))))
    refine zb ?_
    refine zc (zI (zo (zr ?_)))
    refine zb ?_
    refine wE ?_
    refine zb ?_
    refine zA ?_
    refine zb ?_
    refine zb ?_
    refine zA ?_
    refine wk ?_
    refine wE ?_
    refine zb ?_
    refine zA ?_
    refine xR ?_
    refine vT (O.load rfl rfl mM (by exact hgb)) ?_
    refine vT (O.idxL rfl rfl rfl (by exact m0j _)) ?_
    refine vT wL ?_
    refine xR ?_
    refine yM 0 rfl rfl rfl rfl rfl rfl (by rfl) (by rfl) (by exact Nat.ble_eq_true_of_le (by rw[a0b];omega)) (by exact a0M (k:=4*c+r) (by omega) _ (by omega)) (zI (xz (zo (zr ?_))))
    refine zA ?_
    refine zb (zI ?_)
    have e:a0B B3 (fun q=>if q=4*c+r then sb (g (r+4*((c+r)%4)))else if q<4*c+r then shF sb 1 g q else 0)=a0B B3 (fun q=>if q<4*c+(r+1)then shF sb 1 g q else 0):=b0o fun q _=>by
     rw[←hsh]
     rcases Nat.lt_trichotomy q (4*c+r)with h1|h1|h1
     ·rw[if_neg (by omega),if_pos h1,if_pos (by omega)]
     ·rw[if_pos h1,if_pos (by omega),h1]
     rw[if_neg (by omega),if_neg (by omega),if_neg (by omega)]
    refine zq _ _ _ (by omega) (⟨r+1,by omega,rfl,rfl,congrArg (fun x=> [x,a0B B2 g,.blk B1 181 256 (arB 256 RB)]) e⟩)
   obtain rfl:r=4:=by omega
   refine wb ?_
   refine xY ?_
   refine x3 ?_
   refine xx (xz (zo (zr ?_)))
   refine zA ?_
   refine zb (zI ?_)
   refine zq _ _ _ (by omega) (⟨c+1,by omega,rfl,rfl,rfl⟩)
  obtain rfl:c=4:=by omega
  have e:a0B B3 (fun q=>if q<4*4+0 then shF sb 1 g q else 0)=a0B B3 (shF sb 1 g):=b0o fun q hq=>if_pos hq
  rw[e]
  refine wb ?_
  refine xY ?_
  refine x3 ?_
  refine xx (zo (zD (zD (zr ?_))))
  refine zb ?_
  refine zP (zI (zo ?_))
  refine yk (fun h10=> ?_) (fun h10=> ?_)<;>(try simp only[vX]at h10)
  ·refine zr ?_
   refine xA ?_
   refine zN ?_
   refine vT (xH rfl Tryz.func202 rfl rfl rfl (m0E _ f0H)) ?_
   refine ym 0 (zI (zo ?_))
   refine yw 9 ?_
   simp only[cT,cZ,cD,cO]
   refine vE ?_
   refine zG ?_
   refine zG ?_
   refine xt ?_
   refine zG ?_
   refine xt ?_
   refine xk ?_
   refine vS (O.sliceLHm (m:=16) rfl rfl rfl rfl (l:=16*(j+1)) (h:=16*(j+1)+16) (by omega) (by omega) (by omega) (by omega) (by omega) (by exact hseg (j+1) (by omega))) ?_
   refine vS (xH rfl Tryz.func201 rfl rfl rfl (e0o _ _)) ?_
   refine wZ ?_
   simp only[a0f,cN,cA,cP]
   refine ym 1 (zI (xz (zo (zr ?_))))
   refine zb ?_
   refine zA ?_
   refine zc (zI ?_)
   have e2:a0B B2 (fun q=>e0S (shF sb 1 g) f0H q^^^w ((j+1)*16+q))=a0B B2 (d0v w f (j+1)):=b0o fun q _=>by rw[hst,if_pos (by omega)]
   refine zJ _ _ _ (by omega) (⟨j+1,by omega,rfl,rfl,congrArg (fun x=> [x,.blk B1 181 256 (arB 256 RB)]) e2⟩)
  refine yX (zo ?_)
  refine yw 9 ?_
  simp only[cT,cZ,cD,cO]
  refine vE ?_
  refine zG ?_
  refine zG ?_
  refine xt ?_
  refine zG ?_
  refine xt ?_
  refine xk ?_
  refine vS (O.sliceLHm (m:=16) rfl rfl rfl rfl (l:=16*(j+1)) (h:=16*(j+1)+16) (by omega) (by omega) (by omega) (by omega) (by omega) (by exact hseg (j+1) (by omega))) ?_
  refine vS (xH rfl Tryz.func201 rfl rfl rfl (e0o _ _)) ?_
  refine wZ ?_
  simp only[a0f,cN,cA,cP]
  refine ym 1 (zI (xz (zo (zr ?_))))
  refine zb ?_
  refine zA ?_
  refine zc (zI ?_)
  have e2:a0B B2 (fun q=>shF sb 1 g q^^^w ((j+1)*16+q))=a0B B2 (d0v w f (j+1)):=b0o fun q _=>by rw[hst,if_neg (by omega)]
  refine zJ _ _ _ (by omega) (⟨j+1,by omega,rfl,rfl,congrArg (fun x=> [x,.blk B1 181 256 (arB 256 RB)]) e2⟩)
 obtain rfl:j=10:=by omega
 refine wb ?_
 refine xY ?_
 refine x3 ?_
 refine xx (zo (zD (zr ?_)))
 refine vT (O.sliceArrK (p:=0) rfl rfl rfl rfl (by rfl) (by rfl) ⟨by omega,by omega⟩ (by omega)) ?_
 refine vV (O.appendNil rfl (by rfl) (by rfl) rfl rfl (by exact SrcA.blk TyD.ax (by repeat(exact List.Mem.head _)) (by(dsimp only[List.set,cA,cN,List.take,List.drop];done)) (by rfl)) (by rfl) (by(unfold maxLen;omega)) (by omega)) ?_
 intro V4 hV4
 refine zc ?_
 refine zc (zI (zo (xc ?_)))
 have em:List.take ((16-0)*1) (arB 16 (d0v w f 10))=arB 16 (enc w f):=by
  show List.take 16 (arB 16 (d0v w f 10))=_
  rw[List.take_of_length_le (Nat.le_of_eq (a0b _ _))];rfl
 rw[em]
 refine AQ.ret2G rfl (ResAt.tmp rfl) (ResAt.tmp rfl) ⟨_,List.Sublist.cons_cons _ (List.nil_sublist _),.refl _⟩ ⟨V4,hV4,rfl,rfl⟩
attribute [local simp] a0b
theorem c0h {w:Nat→UInt8}: ∀(n:Nat) (l:List UInt8) (x y:Nat→UInt8),l.length≤n→(∀q,q<16→x q=y q)→ ∀q,q<16→absorb w x l q=absorb w y l q
 |0,l,x,y,hl,h,q,hq=>by
  obtain rfl:l= []:=List.eq_nil_of_length_eq_zero (by omega)
  rw[a0Q,a0Q];exact h q hq
 |n+1,l,x,y,hl,h,q,hq=>by
  by_cases e:l= []
  ·subst e;rw[a0Q,a0Q];exact h q hq
  rw[b0b e,b0b e]
  have h0:0<l.length:=List.length_pos_iff.2 e
  exact c0h n _ _ _ (by rw[List.length_drop];omega) (f0T fun q hq=>by rw[h q hq]) q hq
theorem e0H {w:Nat→UInt8}: ∀(n:Nat) (A B:List UInt8) (x:Nat→UInt8),A.length≤n→A.length%16=0→ ∀q,q<16→absorb w x (A++B) q=absorb w (absorb w x A) B q
 |0,A,B,x,hl,h,q,hq=>by
  obtain rfl:A= []:=List.eq_nil_of_length_eq_zero (by omega)
  rw[a0Q,cN]
 | n+1,A,B,x,hl,h,q,hq=>by
  by_cases e:A= []
  ·subst e;rw[a0Q,cN]
  have h0:0<A.length:=List.length_pos_iff.2 e
  rw[b0b e,b0b (by simp[e]),List.drop_append_of_le_length (by omega)]
  rw[c0h _ _ _ (enc w fun q=>x q^^^kf A q) (Nat.le_refl _) (f0T fun q hq=>by
   have:kf (A++B) q=kf A q:=by simp only[kf,List.getD_eq_getElem?_getD];rw[List.getElem?_append_left (by omega)]
   rw[this]) q hq]
  exact e0H n _ B _ (by rw[List.length_drop];omega) (by rw[List.length_drop];omega) q hq
theorem t0G (l:List UInt8)(N:Nat)(h:l.length≤N):kf (fnB N (kf l))=kf l:=by
 funext q
 by_cases e:q<N
 ·exact i0A e
 rw[h0D _ (by rw[a0G];omega),h0D _ (by omega)]
theorem r0z (n:Nat):n≤d0F n:=by unfold d0F;omega
theorem e0G {w:Nat→UInt8}: ∀(n:Nat) (l:List UInt8) (x:Nat→UInt8),l.length≤n→absorb w x (fnB (d0F l.length) (kf l))=absorb w x l
 |0,l,x,hl=>by
  obtain rfl:l= []:=List.eq_nil_of_length_eq_zero (by omega)
  rfl
 | n+1,l,x,hl=>by
  by_cases e:l= []
  ·subst e;rfl
  have h0:0<l.length:=List.length_pos_iff.2 e
  have h1:=r0z l.length
  have e2:fnB (d0F l.length) (kf l)≠ []:=fun h=>by
   have:=congrArg List.length h
   rw[a0G]at this;simp at this;omega
  have e3:(fnB (d0F l.length) (kf l)).drop 16=fnB (d0F (l.drop 16).length) (kf (l.drop 16)):=by
   have hp:d0F (l.drop 16).length=d0F l.length-16:=by rw[List.length_drop];unfold d0F;omega
   rw[hp]
   apply List.ext_getElem
   ·rw[List.length_drop,a0G,a0G]
   intro q h2 h3
   rw[List.getElem_drop]
   rw[a0G]at h3
   have g: ∀(N:Nat) (f:Nat→UInt8) (q:Nat) (h:q<(fnB N f).length),(fnB N f)[q]=f q:=fun N f q h=>by simp[fnB]
   rw[g,g]
   simp[kf,List.getElem?_drop]
  rw[b0b e2,b0b e,t0G _ _ h1,e3]
  exact e0G n _ _ (by rw[List.length_drop];omega)
def i0y (aad:List UInt8):List UInt8:=if aad= []then []else fnB (d0F (c0q aad).length) (kf (c0q aad))
def p0q (nonce aad plain:List UInt8)(tag:Int):List UInt8:=fnB 16 (c0a (j0D aad nonce tag) nonce plain.length)++i0y aad++fnB (d0F plain.length) (kf plain)
theorem k0y (n:Nat):d0F n%16=0:=by unfold d0F;omega
theorem k0I (aad:List UInt8):(i0y aad).length%16=0:=by
 unfold i0y;split
 ·rfl
 rw[a0G];exact k0y _
theorem p0p {w:Nat→UInt8}(nonce aad plain:List UInt8)(tag:Int): ∀q,q<16→absorb w (fun _=>0) (p0q nonce aad plain tag) q=i0x w nonce aad plain tag q:=fun q hq=>by
 rw[p0q,e0H _ _ _ _ (Nat.le_refl _) (by rw[cH,a0G];have:=k0I aad;omega) q hq,e0G _ _ _ (Nat.le_refl _),i0x]
 refine c0h _ _ _ _ (Nat.le_refl _) (fun q hq=> ?_) q hq
 rw[e0H _ _ _ _ (Nat.le_refl _) (by rw[a0G]) q hq]
 by_cases e:aad= []
 ·rw[if_pos e,i0y,if_pos e,a0Q]
 rw[if_neg e,i0y,if_neg e,e0G _ _ _ (Nat.le_refl _)]
theorem p0o (nonce aad plain:List UInt8)(tag:Int):(p0q nonce aad plain tag).length=16+(i0y aad).length+d0F plain.length:=by
 rw[p0q,cH,cH,a0G,a0G]
theorem t0E (key nonce aad plain:List UInt8)(tag:Int)(hk:key.length=16)(hn13:nonce.length≤13)(ht:4≤tag∧tag≤16)(ha:aad.length≤10000)(hp:plain.length≤10000):Sp Tryz.prog 171 [roB key,roB nonce,roB aad,roB plain,.val (.int .i64 tag)] [] (Is (roB (fnB 16 (i0x (wS (kf key)) nonce aad plain tag)))):=by
 refine yN Tryz.func171 _ Tryz.ntmps171 (fun w0 R0=> ?_)
 refine zD (zr ?_)
 refine zc (zI (zo (zD (zr ?_))))
 refine zb ?_
 refine wI ?_
 refine yK ?_
 refine wE ?_
 refine zA ?_
 refine zb ?_
 refine zW ?_
 refine yK ?_
 refine zc (zI (zo (zD (zr ?_))))
 refine zc (zI (zo (zD (zD (zr ?_)))))
 refine zb ?_
 refine zW ?_
 refine yS (zI (zo ?_))
 obtain⟨z,hz⟩: ∃z,z=8*(tag/2-1)+14-(nonce.length:Int):=⟨_,rfl⟩
 have hzb:0≤z∧z≤127∧z+64≤255:=by omega
 rw[←hz]
 refine xL True [(0,_),(1,_),(3,_)] [(11,.val (.int .i64 (z+if aad= []then 0 else 64))),(12,roB (i0y aad))] [] (fun h26=> ?_) (fun h26=> ?_) (fun hj=> ?_)<;>try(try simp only[vX]at h26)
 ·have hne:aad≠ []:=fun e=>by rw[e]at h26;simp at h26
  have hpl:=i0m (c0q aad) (by simp only[c0q,cL];omega)
  have em:fnB (d0F (c0q aad).length) (kf (c0q aad))=i0y aad:=by rw[i0y,if_neg hne]
  have er:roB (c0q aad)=AV.ro false (2+aad.length) (AV.val (.int .u8 ((u8 ((aad.length:Int)/256)).toNat:Int))::AV.val (.int .u8 ((u8 (aad.length:Int)).toNat:Int))::a0a aad):=(b0l (by simp only[c0q,cL];omega) rfl).symm
  rw[em,er]at hpl
  refine zD (zr ?_)
  refine zb ?_
  refine zA ?_
  refine zc (zI (zo (zr ?_)))
  refine zb ?_
  refine zW ?_
  refine vd ?_
  refine xa ?_
  refine zb ?_
  refine zW ?_
  refine xa ?_
  refine y6 ?_
  intro B1
  refine AO.g ?_
  refine xN B1 2 2 0 rfl rfl rfl (Nat.le_refl _) ?_
  refine AO.u ?_
  dsimp only[List.set]
  refine zb ?_
  refine zH 0 ?_
  intro V2 hV2
  refine AO.g ?_
  refine yH 0 [38] ?_
  refine AO.u ?_
  dsimp only[List.map,List.eraseIdx,cA,cN]
  refine vT (xH rfl Tryz.func188 rfl rfl rfl hpl) ?_
  refine zc (zI ?_)
  have e11:z+64=z+(if aad= []then 0 else 64):=by rw[if_neg hne]
  rw[e11]
  refine AQ.midK0 trivial (by repeat(first|exact a0j|refine a0i rfl ?_)) (by repeat(exact a0A))
 ·have hne:aad= []:=List.eq_nil_of_length_eq_zero (by omega)
  have e11:z+(if aad= []then 0 else 64)=z:=by rw[if_pos hne,Int.add_zero]
  have e12:roB (i0y aad)= .ro false 0 []:=by rw[i0y,if_pos hne];rfl
  rw[e11,e12]
  refine yX ?_
  refine AQ.g ?_
  refine G.nilRo 12 rfl ?_
  refine AQ.u ?_
  refine AQ.midK trivial (by repeat(first|exact a0j|refine a0i rfl ?_)) (by repeat(first|exact a0j|refine a0i rfl ?_)) (by repeat(exact a0A))
 dsimp only[cA,cN]
 refine zo ?_
 have hal:(i0y aad).length≤10020:=by
  unfold i0y;split
  ·simp
  rw[a0G,c0q,cL,cL];unfold d0F;omega
 have hpl:(fnB (d0F plain.length) (kf plain)).length≤10020:=by rw[a0G];unfold d0F;omega
 have hfs:u8 (z+if aad= []then 0 else 64)=j0D aad nonce tag:=by rw[j0D,hz]
 refine zD (zr ?_)
 refine zb ?_
 refine zb ?_
 refine zb ?_
 refine zW ?_
 refine vV (xH rfl Tryz.func187 rfl rfl rfl (j0L _ nonce _ hn13 ⟨by omega,by omega⟩)) ?_
 intro V3 hV3
 refine zb ?_
 refine zH 0 ?_
 intro V4 hV4
 refine zb ?_
 refine vT (xH rfl Tryz.func188 rfl rfl rfl (i0m plain (by omega))) ?_
 refine AO.append' (i:=0) rfl rfl rfl rfl (by rfl) (by rfl) rfl rfl rfl (by exact SrcA.ro TyD.ax (by(simp;done)) (lB rfl)) (by exact c0H _ _) (by(unfold maxLen;omega)) (by omega) (by(dsimp only[List.set,cA,cN,List.take,List.drop];done)) (fun _=>by(dsimp only[List.set];done)) ?_
 intro V5 hV5
 refine AO.g ?_
 refine yH 0 [49] ?_
 refine AO.u ?_
 dsimp only[List.map,List.eraseIdx,cA,cN]
 refine zc (zI (zo (zD (zr ?_))))
 refine AO.opB (O.makeSlice rfl rfl rfl (by rfl) (by rfl) (by decide) (by decide) (by rfl)) rfl rfl rfl ?_
 intro B6
 refine zc (zI (zo (zD (zD (zr ?_)))))
 refine zc (zI (zo (xj ?_)))
 rw[hfs]
 obtain⟨N,hN⟩: ∃N,N=(p0q nonce aad plain tag).length:=⟨_,rfl⟩
 have hNe:N=16+(i0y aad).length+d0F plain.length:=by rw[hN,p0o]
 have hN16:N%16=0:=by have:=k0I aad;have:=k0y plain.length;omega
 have hNl:N≤100000:=by rw[a0G]at hpl;omega
 have e12:AV.ro false (16+(i0y aad).length+(fnB (d0F plain.length) (kf plain)).length) (arB 16 (c0a (j0D aad nonce tag) nonce plain.length)++a0a (i0y aad)++a0a (fnB (d0F plain.length) (kf plain)))= .ro false N (arB N (kf (p0q nonce aad plain tag))):=by
  have e:arB 16 (c0a (j0D aad nonce tag) nonce plain.length)++a0a (i0y aad)++a0a (fnB (d0F plain.length) (kf plain))=a0a (p0q nonce aad plain tag):=by
   simp only[p0q,a0a,List.map_append];rfl
  rw[e,e0Q,←hN,a0G,←hNe]
 rw[e12]
 have e13:a0p 16 (.int .u8 0)=arB 16 (fun _=>0):=rfl
 rw[e13]
 refine AW.g ?_
 refine xN B6 16 16 0 rfl (a0b _ _) rfl (Nat.le_refl _) ?_
 refine AW.u ?_
 dsimp only[List.set]
 have hfin:=p0p (w:=wS (kf key)) nonce aad plain tag
 obtain⟨D,hD⟩: ∃D,D=p0q nonce aad plain tag:=⟨_,rfl⟩
 rw[←hD]at hN hfin⊢
 obtain⟨M,hM⟩: ∃M,M=i0x (wS (kf key)) nonce aad plain tag:=⟨_,rfl⟩
 rw[←hM]at hfin⊢
 obtain⟨w,hw⟩: ∃w,w=wS (kf key):=⟨_,rfl⟩
 rw[←hw]at hfin
 refine zh [(0,_),(12,_)] (fun nn E H=> ∃(j:Nat) (V:Value) (x:Nat→UInt8),(16*j≤N)∧(V.oneCell'=true)∧(absorb w x (D.drop (16*j))=absorb w (fun _=>0) D)∧nn=N-16*j∧E= [(13,.val V),(14,.val (.int .i64 ((16*j:Nat):Int)))]∧H= [.row V 5 1 16 (arB 16 x)]) _ (⟨0,_,fun _=>0,by omega,rfl,rfl,rfl,rfl,rfl⟩) ?_
 rintro nn E H ⟨j,V,x,hj,hV,hx,rfl,rfl,rfl⟩
 dsimp only[cA,cN]
 refine zD (zD (zr ?_))
 refine zb ?_
 refine zb ?_
 refine zW ?_
 refine zP (zI (zo ?_))
 refine yk (fun h=> ?_) (fun h=> ?_)<;>(try simp only[vX]at h)
 ·have hj':16*j+16≤N:=by omega
  refine AW.g ?_
  refine G.openRow 0 rfl (by omega) (fun b' cap hc1 hc2 hxs hVe=> ?_)
  refine AW.u ?_
  subst hVe
  dsimp only[List.set]
  refine yX (zo (zD (xj (zD (zD (zr ?_))))))
  refine zb (zI (zo (xj ?_)))
  have e0:arB 16 x=arB 16 (fun q=>if q<0 then x q^^^kf D (16*j+q)else x q):=a0c fun q _=>(if_neg (by omega)).symm
  rw[e0]
  refine zh [(0,_),(12,_),(13,_),(14,_)] (fun nn E H=> ∃(k:Nat),(k≤16)∧nn=16-k∧E= [(57,.val (.int .i64 (k:Int)))]∧H= [.blk b' 5 (cap*1) (arB 16 (fun q=>if q<k then x q^^^kf D (16*j+q)else x q))]) _ (⟨0,by omega,rfl,rfl,rfl⟩) ?_
  rintro nn E H ⟨k,hk2,rfl,rfl,rfl⟩
  dsimp only[cA,cN]
  refine zD (zr ?_)
  refine zP (zI (zo (zD ?_)))
  refine yk (fun h2=> ?_) (fun h2=> ?_)<;>(try simp only[vX]at h2)
  ·have hk':k<16:=by omega
   refine yX (zo (zD (xj (zD (zr ?_)))))
   refine zb ?_
   refine zc (zI (zo ?_))
   refine yw 12 ?_
   simp only[cT,cZ,cD,cO]
   refine zG ?_
   refine zG ?_
   refine wV ?_
   refine vS (O.load rfl rfl (by repeat(exact List.Mem.head _)) (by exact a0o (k:=k) (by omega) (by omega))) ?_
   refine zG ?_
   refine zG ?_
   refine zG ?_
   refine xk ?_
   refine xn ?_
   refine vS (O.loadR rfl rfl (by exact a0o (k:=16*j+k) (by omega) (by omega))) ?_
   refine wm ?_
   refine wV ?_
   refine wZ ?_
   simp only[a0f,cN,cA,cP]
   refine yM 0 rfl rfl rfl rfl rfl rfl (by rfl) (by rfl) (by exact Nat.ble_eq_true_of_le (by rw[a0b];omega)) (by exact a0M (k:=k) (by omega) _ (by omega)) (zI (xz (zo (zr ?_))))
   refine zA ?_
   refine zb (zI ?_)
   have e1:arB 16 (fun q=>if q=k then(if k<k then x k^^^kf D (16*j+k)else x k)^^^kf D (16*j+k)else if q<k then x q^^^kf D (16*j+q)else x q)=arB 16 (fun q=>if q<k+1 then x q^^^kf D (16*j+q)else x q):=a0c fun q _=>by
    rcases Nat.lt_trichotomy q k with h1|h1|h1
    ·rw[if_neg (by omega),if_pos h1,if_pos (by omega)]
    ·rw[if_pos h1,if_neg (by omega),if_pos (by omega),h1]
    rw[if_neg (by omega),if_neg (by omega),if_neg (by omega)]
   rw[e1]
   refine zq _ _ _ (by omega) (⟨k+1,by omega,rfl,rfl,rfl⟩)
  obtain rfl:k=16:=by omega
  have e1:arB 16 (fun q=>if q<16 then x q^^^kf D (16*j+q)else x q)=arB 16 (fun q=>x q^^^kf D (16*j+q)):=a0c fun q hq=>if_pos hq
  rw[e1]
  refine AW.g ?_
  refine G.closeRow (b:=b') (n:=16) (cap:=cap) 0 rfl (a0b _ _) rfl hc1 hc2 ?_
  refine AW.u ?_
  dsimp only[List.set]
  refine wb ?_
  refine xY ?_
  refine x3 ?_
  refine xx (zo (zr ?_))
  refine zb ?_
  refine zb ?_
  refine AO.opN (O.callLP rfl Tryz.func186 rfl rfl rfl (by repeat(exact List.Mem.head _)) (o0Q key _ hk) (i0H _ _) (by(repeat(first|exact LendL.nil|refine LendL.same ?_|refine LendL.lend ?_));done)) rfl rfl rfl ?_
  rintro _ _ ⟨V97,hV97,rfl,rfl⟩
  simp only[cA,cN]
  refine zb ?_
  refine zO ?_
  refine zO ?_
  refine zc (zI (xz (zo (zr ?_))))
  refine zb ?_
  refine zA ?_
  refine zc (zI ?_)
  have hne:D.drop (16*j)≠ []:=fun e=>by
   have:=congrArg List.length e
   rw[List.length_drop,cE]at this;omega
  have hx2:absorb w (enc w fun q=>x q^^^kf D (16*j+q)) (D.drop (16*(j+1)))=absorb w (fun _=>0) D:=by
   rw[←hx,b0b hne,List.drop_drop]
   have ek:(fun q=>x q^^^kf (D.drop (16*j)) q)=fun q=>x q^^^kf D (16*j+q):=by
    funext q;simp[kf,List.getElem?_drop]
   rw[ek,show 16*j+16=16*(j+1) by omega]
  have e2:((16*j:Nat):Int)+16=((16*(j+1):Nat):Int):=by omega
  rw[e2,←hw]
  refine zq _ _ _ (by omega) (⟨j+1,_,_,by omega,hV97,hx2,rfl,rfl,rfl⟩)
 have hj':16*j=N:=by omega
 refine wb ?_
 refine xY ?_
 refine x3 ?_
 refine xx (zo (zD (zr ?_)))
 refine zb ?_
 refine zc (zI (zo (xc ?_)))
 refine AQ.g ?_
 refine yf 0 [10] ?_
 refine AQ.u ?_
 try dsimp only[List.map,List.eraseIdx,cA,cN]
 have ed:D.drop (16*j)= []:=List.drop_eq_nil_of_le (by omega)
 rw[ed,a0Q]at hx
 have ef:arB 16 x=arB 16 M:=a0c fun q hq=>by rw[hx];exact hfin q hq
 rw[ef]
 refine AQ.g ?_
 refine G.re 10 (roB (fnB 16 M)) (congrArg some (b0E _ _).symm) ?_
 refine AQ.u ?_
 refine yE
def sF (w:Nat→UInt8)(nonce b:List UInt8)(c:Int)(i:Nat):UInt8:=kf b i^^^enc w (c0a (u8 (14-(nonce.length:Int))) nonce (c+((i/16:Nat):Int))) (i%16)
theorem j0M (first:Int)(nonce:List UInt8)(n:Int)(hn13:nonce.length≤13)(hn:0≤n∧n≤9223372036854775807):Sp Tryz.prog 187 [.val (.int .i64 first),roB nonce,.val (.int .i64 n)] [] (Is (.ro false 16 (arB 16 (c0a (u8 first) nonce n)))):=by
 rw[←b0E];exact l0N first nonce n hn13 hn
theorem o0R (key:List UInt8)(f:Nat→UInt8)(hk:key.length=16):Sp Tryz.prog 186 [roB key,.ro false 16 (arB 16 f)] [] (Is (.tup [.ro false 16 (arB 16 (enc (wS (kf key)) f)),.val (.int .i64 0)])):=by
 have h:=o0X key (fnB 16 f)
 have e1:t0U key (fnB 16 f)=fnB 16 (enc (wS (kf key)) f):=by
  rw[t0U,if_pos ⟨hk,a0G _ _⟩]
  exact b0W (f0T fun q hq=>i0A hq)
 have e2:u0v key (fnB 16 f)=0:=if_pos ⟨hk,a0G _ _⟩
 rw[e1,e2,b0E,b0E]at h
 exact h
theorem g0E (key nonce b:List UInt8)(c:Int)(hk:key.length=16)(hn13:nonce.length≤13)(hc:0≤c∧c≤1)(hb:b.length≤10000):Sp Tryz.prog 170 [roB key,roB nonce,roB b,.val (.int .i64 c)] [] (b0h 5 1 b.length (arB b.length (sF (wS (kf key)) nonce b c))):=by
 refine yN Tryz.func170 _ Tryz.ntmps170 (fun w0 R0=> ?_)
 refine zD (zr ?_)
 refine zc (zI (zo (zD (zr ?_))))
 refine zc ?_
 refine zc (zI (zo (zD (zD (zr ?_)))))
 refine zb ?_
 refine zW ?_
 refine zb (zI (zo (xj ?_)))
 refine AW.g ?_
 refine G.nilRow 5 1 ?_
 refine AW.u ?_
 refine zh [(0,_),(1,_),(3,_),(13,_),(14,_)] (fun nn E H=> ∃(i:Nat) (V:Value) (S:AV),(i≤b.length)∧(V.oneCell'=true)∧(i%16≠0→S= .ro false 16 (arB 16 (enc (wS (kf key)) (c0a (u8 (14-(nonce.length:Int))) nonce (c+((i/16:Nat):Int))))))∧nn=b.length-i∧E= [(9,.val V),(10,S),(15,.val (.int .i64 (i:Int)))]∧H= [.row V 5 1 i (arB i (sF (wS (kf key)) nonce b c))]) _ (⟨0,.slice none 0 0,.val (.slice none 0 0),by omega,rfl,fun h=>absurd rfl h,rfl,rfl,rfl⟩) ?_
 rintro nn E H ⟨i,V,S,hi,hV,hS,rfl,rfl,rfl⟩
 dsimp only[cA,cN]
 refine zD (zr ?_)
 refine zP (zI (zo (zD ?_)))
 refine yk (fun h=> ?_) (fun h=> ?_)<;>(try simp only[vX]at h)
 ·have hi':i<b.length:=by omega
  have hget:(a0a b)[(i:Int).toNat*1]? =some (by8 (kf b i)):=by
   rw[e0Q];exact a0o (by omega) (by omega)
  refine yX (zo (zD (xj (zD (zr ?_)))))
  refine zb ?_
  refine z8 ?_
  refine vT (O.loadR rfl rfl (by exact hget)) ?_
  refine zc ?_
  refine zc (zI (zo (zD (zD (zr ?_)))))
  refine zb ?_
  refine wk ?_
  refine z9 (zI (zo ?_))
  obtain⟨z,hz⟩: ∃z,z=enc (wS (kf key)) (c0a (u8 (14-(nonce.length:Int))) nonce (c+((i/16:Nat):Int))):=⟨_,rfl⟩
  have ei:(i:Int)/16=((i/16:Nat):Int):=by omega
  refine xL True [(0,_),(1,_),(3,_),(9,_),(11,_),(12,_),(13,_),(14,_),(15,_)] [(10,.ro false 16 (arB 16 z))] [.row V 5 1 i (arB i (sF (wS (kf key)) nonce b c))] (fun h22=> ?_) (fun h22=> ?_) (fun hj=> ?_)<;>try(try simp only[vX]at h22)
  ·refine zr ?_
   refine zb ?_
   refine zb ?_
   refine zW ?_
   refine yK ?_
   refine zb ?_
   refine zb ?_
   refine zb ?_
   refine wI ?_
   refine zA ?_
   refine vT (xH rfl Tryz.func187 rfl rfl rfl (j0M _ nonce _ hn13 ⟨by omega,by omega⟩)) ?_
   refine vT (xH rfl Tryz.func186 rfl rfl rfl (o0R key _ hk)) ?_
   refine zb ?_
   refine zO ?_
   refine zO ?_
   refine zc (zI ?_)
   rw[ei,←hz]
   refine yj
  ·have:=hS (by omega)
   subst this
   rw[←hz]
   refine yX ?_
   refine yj
  dsimp only[cA,cN]
  refine zo (zr ?_)
  refine zb ?_
  refine zb ?_
  refine zb ?_
  refine zb ?_
  refine wk ?_
  refine z8 ?_
  refine vT (O.loadR rfl rfl (by exact a0o (k:=i%16) (by omega) (by omega))) ?_
  refine vF ?_
  refine zQ ?_
  intro B1
  refine AO.g ?_
  refine yc 0 45 ?_
  refine wd 45 ?_
  refine AO.u ?_
  dsimp only[List.eraseIdx]
  refine yn 0 ?_
  intro V2 hV2
  refine zc (zI (xz (zo (zr ?_))))
  refine zA ?_
  refine zb (zI ?_)
  have e1:arB i (sF (wS (kf key)) nonce b c)++[AV.val (.int .u8 ((kf b i^^^z (i%16)).toNat:Int))]=arB (i+1) (sF (wS (kf key)) nonce b c):=c0g (by rw[sF,hz])
  rw[e1]
  refine zq _ _ _ (by omega) (⟨i+1,V2,.ro false 16 (arB 16 z),by omega,hV2,fun h=>by rw[hz,show(i+1)/16=i/16 by omega],rfl,rfl,rfl⟩)
 obtain rfl:i=b.length:=by omega
 refine wb ?_
 refine xY ?_
 refine x3 ?_
 refine xx (zo (zD (zr ?_)))
 refine zb ?_
 refine zc (zI (zo (xc ?_)))
 refine vu rfl rfl ⟨_,by repeat(first|exact List.Sublist.slnil|refine List.Sublist.cons_cons _ ?_),List.Perm.refl _⟩ (⟨_,rfl,hV,rfl⟩)
theorem k0o (key nonce b:List UInt8)(hk:key.length=16)(hn13:nonce.length≤13)(hb:b.length≤10000):Sp Tryz.prog 170 [roB key,roB nonce,roB b,.val (.int .i64 1)] [] (b0h 5 1 b.length (arB b.length (e0l (wS (kf key)) nonce b))):=by
 have h:=g0E key nonce b 1 hk hn13 (by omega) hb
 have e:sF (wS (kf key)) nonce b 1=e0l (wS (kf key)) nonce b:=by
  funext i;rw[sF,e0l,Int.add_comm]
 rw[e]at h;exact h
theorem o0H (key nonce:List UInt8)(M:Nat→UInt8)(hk:key.length=16)(hn13:nonce.length≤13):Sp Tryz.prog 170 [roB key,roB nonce,roB (fnB 16 M),.val (.int .i64 0)] [] (b0h 5 1 16 (arB 16 (e0g (wS (kf key)) nonce M))):=by
 have h:=g0E key nonce (fnB 16 M) 0 hk hn13 (by omega) (by rw[a0G];omega)
 rw[a0G]at h
 have e:arB 16 (sF (wS (kf key)) nonce (fnB 16 M) 0)=arB 16 (e0g (wS (kf key)) nonce M):=a0c fun q hq=>by
  rw[sF,e0g,i0A hq,show q/16=0 by omega,show q%16=q by omega];rfl
 rw[e]at h;exact h
theorem w0J {T:Nat}(h:T≤16)(f:Nat→UInt8):(arB 16 f).take (T*1)=arB T f:=by
 have:=p0S h f
 rw[show(T-0)*1=T*1 by omega]at this
 exact this
theorem k0p (key nonce aad plain:List UInt8)(tag:Int)(ha:aad.length≤1000000)(hp:plain.length≤1000000):Sp Tryz.prog 128 [roB key,roB nonce,roB aad,roB plain,.val (.int .i64 tag)] [] (Is (.tup [roB (e0n key nonce aad plain tag),.val (.int .i64 (d0s key nonce aad plain tag))])):=by
 refine yN Tryz.func128 _ Tryz.ntmps128 (fun w0 R0=> ?_)
 refine zD (zr ?_)
 refine zc ?_
 refine zc (zI (zo (zD (xj (zD (zr ?_))))))
 refine zb ?_
 refine zb ?_
 refine zb ?_
 refine vT (xH rfl Tryz.func169 rfl rfl rfl (i0f key nonce _)) ?_
 refine xq ?_
 refine zc (zI (zo ?_))
 refine yk (fun h=> ?_) (fun h=> ?_)<;>(try simp only[vX]at h)
 ·have hb:cvB key nonce tag=false:=by simpa using h
  obtain⟨e1,e2⟩:=k0l (aad:=aad) (plain:=plain) hb
  rw[e1,e2]
  refine zD (zr ?_)
  refine zc ?_
  refine zc (zI (zo (xc ?_)))
  refine wi (xr ?_)
  refine x8 yJ yq (⟨rfl,rfl⟩)
 obtain⟨hk,hn7,hn13,ht4,ht16,ht2⟩:=k0T h
 refine zD (zr ?_)
 refine zb ?_
 refine zW ?_
 refine yS ?_
 refine zb ?_
 refine yt ?_
 refine yb 23 ?_
 refine yp 24 ?_
 refine zE ?_
 refine zc (zI (zo ?_))
 refine yk (fun h2=> ?_) (fun h2=> ?_)<;>(try simp only[vX]at h2)
 ·have hb:c0e aad plain=false:=by
   simp only[c0e,Bool.and_eq_false_iff,decide_eq_false_iff_not]
   omega
  obtain⟨e1,e2⟩:=h0Z h hb
  rw[e1,e2]
  refine zD (zr ?_)
  refine zc ?_
  refine zc (zI (zo (xc ?_)))
  refine wi (xr ?_)
  refine x8 yJ yq (⟨rfl,rfl⟩)
 have hb:c0e aad plain=true:=by
  simp only[c0e,Bool.and_eq_true,cQ]
  omega
 obtain⟨e1,e2⟩:=c0S h hb
 rw[e1,e2]
 obtain⟨T,hT⟩: ∃T:Nat,T=tag.toNat:=⟨_,rfl⟩
 rw[←hT]
 have hT':tag=(T:Int):=by omega
 have ha':aad.length≤10000:=by omega
 have hp':plain.length≤10000:=by omega
 obtain⟨M,hM⟩: ∃M,M=i0x (wS (kf key)) nonce aad plain tag:=⟨_,rfl⟩
 have i0X:=t0E key nonce aad plain tag hk hn13 ⟨ht4,ht16⟩ ha' hp'
 rw[←hM]at i0X⊢
 refine yX (xz (zo (zD (zr ?_))))
 refine zb ?_
 refine zb ?_
 refine zb ?_
 refine vV (xH rfl Tryz.func170 rfl rfl rfl (k0o key nonce plain hk hn13 hp')) ?_
 intro V1 hV1
 refine zb ?_
 refine zb ?_
 refine zb ?_
 refine zb ?_
 refine zb ?_
 refine zb ?_
 refine zb ?_
 refine vT (xH rfl Tryz.func171 rfl rfl rfl i0X) ?_
 refine vV (xH rfl Tryz.func170 rfl rfl rfl (o0H key nonce M hk hn13)) ?_
 intro V2 hV2
 refine AO.g ?_
 refine yH 0 [39] ?_
 refine AO.u ?_
 dsimp only[List.map,List.eraseIdx,cA,cN]
 refine zb ?_
 refine vT (O.sliceTo (k:=T) rfl rfl rfl (by omega) (by omega) (by exact w0J (by omega) _)) ?_
 refine AO.append' (i:=0) rfl rfl rfl rfl (by rfl) (by rfl) rfl rfl rfl (by exact SrcA.ro TyD.ax (by(simp;done)) (lB rfl)) (by exact c0H _ _) (by(unfold maxLen;omega)) (by omega) (by(dsimp only[List.set,List.append,cA,cN,a0d,a0n,AV.cells,List.map,List.map_cons,List.map_nil,List.take,List.drop,Nat.zero_add,Nat.add_zero,Nat.reduceAdd,Nat.reduceMul,Nat.zero_mul,Value.cells,List.toList_toArray,a0p,List.replicate,List.flatten,cP];done)) (fun _=>by(dsimp only[List.set];done)) ?_
 intro V3 hV3
 refine AO.g ?_
 refine yH 0 [42] ?_
 refine AO.u ?_
 dsimp only[List.map,List.eraseIdx,cA,cN]
 refine zc ?_
 refine zc (zI (zo (xc ?_)))
 refine AQ.g ?_
 refine G.re 10 (roB (fnB plain.length (e0l (wK key) nonce plain)++fnB T (e0g (wK key) nonce M))) (congrArg some (k0t _ T _ _)) ?_
 refine AQ.u ?_
 refine x8 yJ xe (⟨rfl,rfl⟩)
end Go.Proofs.YtojomcdjcpmnkaaGreat.By
namespace Go.Proofs.YtojomcdjcpmnkaaGreat.By
open Go.RowKit L A
attribute [local irreducible] AW AQ AO
attribute [local simp] a0b
def d0B (aad cipher:List UInt8)(tag:Int):Bool:=decide ((aad.length:Int)≤4096)&&decide ((cipher.length:Int)≤4096+tag)
def e0v (key nonce cipher:List UInt8)(tag:Int):List UInt8:=fnB (cipher.length-tag.toNat) (e0l (wK key) nonce (cipher.take (cipher.length-tag.toNat)))
def g0s (key nonce aad cipher:List UInt8)(tag:Int):Bool:=e0n key nonce aad (e0v key nonce cipher tag) tag==cipher
def b0y (key nonce aad cipher:List UInt8)(tag:Int):List UInt8:=
 if cvB key nonce tag&&d0B aad cipher tag&&decide (tag≤(cipher.length:Int))&&g0s key nonce aad cipher tag then e0v key nonce cipher tag else []
def b0M (key nonce aad cipher:List UInt8)(tag:Int):Int:=
 if cvB key nonce tag then(if d0B aad cipher tag then(if tag≤(cipher.length:Int)then(if g0s key nonce aad cipher tag then 0 else 11)else 2)else 8)else 1
theorem o0M (key nonce aad cipher:List UInt8)(tag:Int)(ha:aad.length≤1000000)(hp:cipher.length≤1000000):Sp Tryz.prog 142 [roB key,roB nonce,roB aad,roB cipher,.val (.int .i64 tag)] [] (Is (.tup [roB (b0y key nonce aad cipher tag),.val (.int .i64 (b0M key nonce aad cipher tag))])):=by
 refine yN Tryz.func142 _ Tryz.ntmps142 (fun w0 R0=> ?_)
 refine zD (zr ?_)
 refine zc ?_
 refine zc (zI (zo (zD (xj (zD (zr ?_))))))
 refine zb ?_
 refine zb ?_
 refine zb ?_
 refine vT (xH rfl Tryz.func169 rfl rfl rfl (i0f key nonce _)) ?_
 refine xq ?_
 refine zc (zI (zo ?_))
 refine yk (fun h=> ?_) (fun h=> ?_)<;>(try simp only[vX]at h)
 ·have hb:cvB key nonce tag=false:=by simpa using h
  have e1:b0y key nonce aad cipher tag= []:=by simp[b0y,hb]
  have e2:b0M key nonce aad cipher tag=1:=by simp[b0M,hb]
  rw[e1,e2]
  refine zD (zr ?_)
  refine zc ?_
  refine zc (zI (zo (xc ?_)))
  refine wi (xr ?_)
  refine x8 yJ yq (⟨rfl,rfl⟩)
 obtain⟨hk,hn7,hn13,ht4,ht16,ht2⟩:=k0T h
 refine zD (zr ?_)
 refine zb ?_
 refine zW ?_
 refine yS ?_
 refine zb ?_
 refine yt ?_
 refine yb 26 ?_
 refine yt ?_
 refine AO.opG rfl rfl rfl (fun hp=>wW 28 rfl (by exact hp) zF) ?_
 refine AO.opG rfl rfl rfl (fun hp=>wW 27 rfl (by exact hp) (wW 29 rfl (by exact hp) yI)) ?_
 refine zE ?_
 refine zc (zI (zo ?_))
 refine yk (fun h2=> ?_) (fun h2=> ?_)<;>(try simp only[vX]at h2)
 ·have hb:d0B aad cipher tag=false:=by
   simp only[d0B,Bool.and_eq_false_iff,decide_eq_false_iff_not]
   omega
  have e1:b0y key nonce aad cipher tag= []:=by simp[b0y,hb]
  have e2:b0M key nonce aad cipher tag=8:=by simp[b0M,h,hb]
  rw[e1,e2]
  refine zD (zr ?_)
  refine zc ?_
  refine zc (zI (zo (xc ?_)))
  refine wi (xr ?_)
  refine x8 yJ yq (⟨rfl,rfl⟩)
 have hb:d0B aad cipher tag=true:=by
  simp only[d0B,Bool.and_eq_true,cQ]
  omega
 refine zD (zr ?_)
 refine zb ?_
 refine zW ?_
 refine zb ?_
 refine zP ?_
 refine zc (zI (zo ?_))
 refine yk (fun h3=> ?_) (fun h3=> ?_)<;>(try simp only[vX]at h3)
 ·have e1:b0y key nonce aad cipher tag= []:=by simp[b0y,show ¬tag≤(cipher.length:Int) by omega]
  have e2:b0M key nonce aad cipher tag=2:=by simp[b0M,h,hb,show ¬tag≤(cipher.length:Int) by omega]
  rw[e1,e2]
  refine zD (zr ?_)
  refine zc ?_
  refine zc (zI (zo (xc ?_)))
  refine wi (xr ?_)
  refine x8 yJ yq (⟨rfl,rfl⟩)
 have h3':tag≤(cipher.length:Int):=by omega
 obtain⟨n,hn⟩: ∃n:Nat,n=cipher.length-tag.toNat:=⟨_,rfl⟩
 have hn':(cipher.length:Int)-tag=(n:Int):=by omega
 have hct:(cipher.take n).length=n:=by rw[List.length_take];omega
 have hopt:e0v key nonce cipher tag=fnB n (e0l (wK key) nonce (cipher.take n)):=by rw[e0v,←hn]
 have hst:=k0o key nonce (cipher.take n) hk hn13 (by omega)
 obtain⟨PT,hPT⟩: ∃PT,PT=e0v key nonce cipher tag:=⟨_,rfl⟩
 have hPl:PT.length=n:=by rw[hPT,hopt,a0G]
 have eP:arB (cipher.take n).length (e0l (wS (kf key)) nonce (cipher.take n))=a0a PT:=by rw[hPT,hopt,hct];rfl
 rw[eP,hct]at hst
 have hst:Sp Tryz.prog 170 [roB key,roB nonce,roB (cipher.take n),.val (.int .i64 1)] [] (b0h 5 1 PT.length (a0a PT)):=by rw[hPl];exact hst
 refine yX (xz (zo (zD (zr ?_))))
 refine zb ?_
 refine zb ?_
 refine zb ?_
 refine zb ?_
 refine zW ?_
 refine zb ?_
 refine yK ?_
 refine vT (O.sliceToB (k:=n) rfl rfl rfl (by omega) (by omega)) ?_
 refine vV (xH rfl Tryz.func170 rfl rfl rfl hst) ?_
 intro V1 hV1
 refine AO.g ?_
 refine yH 0 [45] ?_
 refine AO.u ?_
 dsimp only[List.map,List.eraseIdx,cA,cN]
 refine zc (zI (zo (zD (zr ?_))))
 refine zb ?_
 refine zb ?_
 refine zb ?_
 refine zb ?_
 refine zb ?_
 refine vT (xH rfl Tryz.func128 rfl rfl rfl (k0p key nonce aad PT tag (by omega) (by omega))) ?_
 refine zb ?_
 refine zO ?_
 refine zO ?_
 refine zc ?_
 refine zc (zI (zo (zD (zD (zr ?_)))))
 refine zb ?_
 refine vT (O.convS rfl rfl (by rfl)) ?_
 refine zb ?_
 refine vT (O.convS rfl rfl (by rfl)) ?_
 refine vT (O.neqS rfl rfl rfl (by rfl)) (zI (zo ?_))
 obtain⟨SL,hSL⟩: ∃L,L=e0n key nonce aad PT tag:=⟨_,rfl⟩
 rw[←hSL]
 refine yk (fun h4=> ?_) (fun h4=> ?_)<;>(try simp only[vX]at h4)
 ·have hB:g0s key nonce aad cipher tag=false:=by rw[g0s,←hPT,←hSL];simpa using h4
  have e1:b0y key nonce aad cipher tag= []:=by simp[b0y,hB]
  have e2:b0M key nonce aad cipher tag=11:=by simp[b0M,h,hb,h3',hB]
  rw[e1,e2]
  refine zD (zr ?_)
  refine zc ?_
  refine zc (zI (zo (xc (xr ?_))))
  refine x8 yJ yq (⟨rfl,rfl⟩)
 have hB:g0s key nonce aad cipher tag=true:=by rw[g0s,←hPT,←hSL];simpa using h4
 have e1:b0y key nonce aad cipher tag=PT:=by simp[b0y,h,hb,h3',hB,hPT]
 have e2:b0M key nonce aad cipher tag=0:=by simp[b0M,h,hb,h3',hB]
 rw[e1,e2]
 refine yX (zo (zD (zr ?_)))
 refine zb ?_
 refine zc ?_
 refine zc (zI (zo (xc ?_)))
 refine x8 yJ xe (⟨rfl,rfl⟩)
end Go.Proofs.YtojomcdjcpmnkaaGreat.By
namespace Go.Proofs.YtojomcdjcpmnkaaGreat.By
open Go.RowKit L A
attribute [local irreducible] AW AQ AO
def n0g (outer inner:Msg)(v:Cmp)(key nonce aad:List UInt8):Msg:=⟨outer.ty,outer.code,outer.id,outer.tok,e0m outer.opts 9 [(c0O v).1],e0n key nonce aad (b0n inner).1 8⟩
def h0m (outer inner:Msg)(v:Cmp)(key nonce aad:List UInt8):Msg×Int:=
 if(b0n inner).2≠0 then(Msg.none,(b0n inner).2)else
 if d0s key nonce aad (b0n inner).1 8≠0 then(Msg.none,d0s key nonce aad (b0n inner).1 8)else
 if(d0X (n0g outer inner v key nonce aad)).2≠0 then(Msg.none,8)else(n0g outer inner v key nonce aad,0)
theorem j0l {outer inner:Msg}{v:Cmp}{key nonce aad:List UInt8}(h:(b0n inner).2≠0):h0m outer inner v key nonce aad=(Msg.none,(b0n inner).2):=if_pos h
theorem j0k {outer inner:Msg}{v:Cmp}{key nonce aad:List UInt8}(h:(b0n inner).2=0)(h2:d0s key nonce aad (b0n inner).1 8≠0):h0m outer inner v key nonce aad=(Msg.none,d0s key nonce aad (b0n inner).1 8):=(if_neg (fun g=>g h)).trans (if_pos h2)
theorem j0j {outer inner:Msg}{v:Cmp}{key nonce aad:List UInt8}(h:(b0n inner).2=0)(h2:d0s key nonce aad (b0n inner).1 8=0)(h3:(d0X (n0g outer inner v key nonce aad)).2≠0):h0m outer inner v key nonce aad=(Msg.none,8):=(if_neg (fun g=>g h)).trans ((if_neg (fun g=>g h2)).trans (if_pos h3))
theorem h0l {outer inner:Msg}{v:Cmp}{key nonce aad:List UInt8}(h:(b0n inner).2=0)(h2:d0s key nonce aad (b0n inner).1 8=0)(h3:(d0X (n0g outer inner v key nonce aad)).2=0):h0m outer inner v key nonce aad=(n0g outer inner v key nonce aad,0):=(if_neg (fun g=>g h)).trans ((if_neg (fun g=>g h2)).trans (if_neg (fun g=>g h3)))
theorem i0o (m:Msg):(b0n m).1.length≤5000:=by
 unfold b0n
 split
 ·split
  ·rename_i h
   have:=f0W h
   simp only[cL,List.length_drop];omega
  simp
 simp
theorem p0H (c:Cmp):(c0O c).1.length≤100:=by
 unfold c0O
 split
 ·simp
 rename_i h
 have hv:=Decidable.not_not.1 h
 have hp:=c0B c.piv
 obtain⟨⟨-, -,h1,h2⟩, -⟩:=hv
 split
 ·simp
 unfold q0u
 cases c.hasCtx<;>simp<;>omega
abbrev SmS (m:Msg):Prop:=m.tok.length≤1000000∧m.pay.length≤1000000∧m.opts.length≤100000∧ ∀o∈m.opts,o.val.length≤1000000
theorem m0u:SmS Msg.none:=⟨by simp[Msg.none],by simp[Msg.none],by simp[Msg.none],fun o ho=>by cases ho⟩
theorem q0d {m:Msg}(h:ValM m):SmS m:=by
 obtain⟨h1,h2,h3,h4⟩:=ValM.sm h
 refine⟨by omega,by omega,by omega,fun o ho=> ?_⟩
 obtain⟨k,hk,rfl⟩:=List.getElem_of_mem ho
 have:=h4 k hk
 have e:oat m.opts k=m.opts[k]:=by simp[hk]
 rw[e]at this;omega
theorem k0g (m:Msg):SmS (a0u m).2.1:=by
 unfold a0u
 split
 ·rename_i h
  split
  ·exact m0u
  obtain⟨h1,h2,h3,h4⟩:=q0d h.1
  have hl:=h0t m.opts
  exact⟨h1,by show([]:List UInt8).length≤_;simp,by show(e0t m.opts).length≤_;omega,fun o ho=>h4 o (List.mem_filter.1 ho).1⟩
 exact m0u
theorem m0t {outer inner:Msg}{v:Cmp}{key nonce aad:List UInt8}(h:SmS outer):outer.tok.length≤140737488355328∧outer.pay.length≤140737488355328∧(∀o∈outer.opts,o.val.length≤140737488355328)∧(∀w∈ [(c0O v).1],w.length≤140737488355328):=by
 refine⟨by have:=h.1;omega,by have:=h.2.1;omega,fun o ho=>by have:=h.2.2.2 o ho;omega,fun w hw=> ?_⟩
 obtain rfl:=List.mem_singleton.1 hw
 have:=p0H v;omega
abbrev v0C (l:List UInt8):AV:= .ro false 1 [roB l]
theorem m0z (outer inner:Msg)(v:Cmp)(key nonce aad:List UInt8)(ho:SmS outer)(ha:aad.length≤1000000):
  Sp Tryz.prog 68 [a0U outer,a0U inner,o0l v,roB key,roB nonce,roB aad] [] (Is (g0r (h0m outer inner v key nonce aad))):=by
 have hpl:=i0o inner
 obtain⟨g1,g2,g3,g4⟩:=m0t (inner:=inner) (v:=v) (key:=key) (nonce:=nonce) (aad:=aad) ho
 have hset:Sp Tryz.prog 25 [a0U outer,.val (.int .i64 9),v0C (c0O v).1] [] (Is (a0U ⟨outer.ty,outer.code,outer.id,outer.tok,e0m outer.opts 9 [(c0O v).1],outer.pay⟩)):=m0x outer 9 [(c0O v).1] g1 g2 ho.2.2.1 (by simp) g3 g4
 refine yN Tryz.func68 _ Tryz.ntmps68 (fun w0 R0=> ?_)
 refine zD (zr ?_)
 refine ye ?_
 intro B1
 refine ye ?_
 intro B2
 refine ye ?_
 intro B3
 refine zd ?_
 intro B4
 refine zc (zI (zo (zD (zr ?_))))
 refine zC ?_
 refine vT (xH rfl Tryz.func127 rfl rfl rfl (o0K inner)) ?_
 refine zb ?_
 refine zO ?_
 refine zO ?_
 refine zc ?_
 refine zc (zI (zo (zD (zD (zr ?_)))))
 refine zb ?_
 refine y1 (zI (zo ?_))
 refine yk (fun h1=> ?_) (fun h1=> ?_)<;>(try simp only[vX]at h1)
 ·rw[j0l h1]
  refine zD (zr ?_)
  refine zN ?_
  refine zb ?_
  refine za 0 ?_
  refine zc (zI (zo (xc (xr ?_))))
  refine x8 zT zj (⟨rfl,rfl⟩)
 refine yX (zo (zD (zr ?_)))
 refine zb ?_
 refine zb ?_
 refine zb ?_
 refine zb ?_
 refine vT (xH rfl Tryz.func128 rfl rfl rfl (k0p key nonce aad (b0n inner).1 8 ha (by omega))) ?_
 refine zb ?_
 refine zO ?_
 refine zO ?_
 refine zc ?_
 refine zc (zI (zo (zD (zD (zr ?_)))))
 refine zb ?_
 refine y1 (zI (zo ?_))
 refine yk (fun h2=> ?_) (fun h2=> ?_)<;>(try simp only[vX]at h2)
 ·rw[j0k h1 h2]
  refine zD (zr ?_)
  refine zN ?_
  refine zb ?_
  refine za 0 ?_
  refine zc (zI (zo (xc (xr ?_))))
  refine x8 zT zj (⟨rfl,rfl⟩)
 refine yX (zo (zD (zr ?_)))
 refine zC ?_
 refine vT (xH rfl Tryz.func23 rfl rfl rfl (j0p v)) ?_
 refine zb ?_
 refine zO ?_
 refine zO ?_
 refine zc ?_
 refine zc (zI (zo (zD (zr ?_))))
 refine zC ?_
 refine zb ?_
 refine zQ ?_
 intro B5
 refine AO.g ?_
 refine yc 0 50 ?_
 refine wd 50 ?_
 refine AO.u ?_
 dsimp only[List.eraseIdx]
 refine vT (xH rfl Tryz.func25 rfl rfl rfl hset) ?_
 refine zd ?_
 intro B6
 refine za 0 (zI (zo (zD (zr ?_))))
 refine zb ?_
 refine zt ?_
 refine za 0 (zI (zo (zD (zD (zr ?_)))))
 refine zB ?_
 refine vT (xH rfl Tryz.func120 rfl rfl rfl (j0m (n0g outer inner v key nonce aad))) ?_
 refine zb ?_
 refine zO ?_
 refine zO ?_
 refine zc ?_
 refine zc (zI (zo (zD (zr ?_))))
 refine zb ?_
 refine y1 (zI (zo ?_))
 refine yk (fun h3=> ?_) (fun h3=> ?_)<;>(try simp only[vX]at h3)
 ·rw[j0j h1 h2 h3]
  refine zD (zr ?_)
  refine zN ?_
  refine za 1 ?_
  refine zc (zI (zo (xc (xr ?_))))
  refine x8 zm zj (⟨rfl,rfl⟩)
 rw[h0l h1 h2 h3]
 refine yX (zo (zD (zr ?_)))
 refine zB ?_
 refine za 1 ?_
 refine zc (zI (zo (xc ?_)))
 refine AQ.retCT rfl rfl rfl mM (by(dsimp only[List.set,cA,cN,List.take,List.drop];rfl)) rfl nS (⟨rfl,rfl⟩)
def l0r (m:Msg)(v:Cmp)(key nonce aad:List UInt8):Msg×Int:=if(a0u m).2.2≠0 then(Msg.none,(a0u m).2.2)else h0m (a0u m).2.1 (a0u m).1 v key nonce aad
theorem j0t {m:Msg}{v:Cmp}{key nonce aad:List UInt8}(h:(a0u m).2.2≠0):l0r m v key nonce aad=(Msg.none,(a0u m).2.2):=if_pos h
theorem h0p {m:Msg}{v:Cmp}{key nonce aad:List UInt8}(h:(a0u m).2.2=0):l0r m v key nonce aad=h0m (a0u m).2.1 (a0u m).1 v key nonce aad:=if_neg (fun g=>g h)
theorem g0I (c:Cx)(m:Msg)(v:Cmp)(nonce aad:List UInt8)(hv:(c0O v).2=0)(ha:aad.length≤1000000):
  Sp Tryz.prog 61 [g0p c,a0U m,o0l v,roB nonce,roB aad] [] (Is (g0r (l0r m v c.sk nonce aad))):=by
 have ho:=k0g m
 have hpl:=i0o (a0u m).1
 obtain⟨g1,g2,g3,g4⟩:=m0t (inner:=m) (v:=v) (key:=c.sk) (nonce:=nonce) (aad:=aad) ho
 have hset:Sp Tryz.prog 118 [a0U (a0u m).2.1,.val (.int .i64 9),v0C (c0O v).1] [] (Is (a0U ⟨(a0u m).2.1.ty,(a0u m).2.1.code,(a0u m).2.1.id,(a0u m).2.1.tok,e0m (a0u m).2.1.opts 9 [(c0O v).1],(a0u m).2.1.pay⟩)):=r0C (a0u m).2.1 9 [(c0O v).1] g1 g2 ho.2.2.1 (by simp) g3 g4
 refine yN Tryz.func61 _ Tryz.ntmps61 (fun w0 R0=> ?_)
 refine zD (zr ?_)
 refine ye ?_
 intro B1
 refine ye ?_
 intro B2
 refine ye ?_
 intro B3
 refine zd ?_
 intro B4
 refine zc (zI (zo (zD (zr ?_))))
 refine zC ?_
 refine vT (xH rfl Tryz.func114 rfl rfl rfl (o0y m)) ?_
 refine zb ?_
 refine zO ?_
 refine zO ?_
 refine zO ?_
 refine zd ?_
 intro B5
 refine zd ?_
 intro B6
 refine za 1 ?_
 refine za 0 ?_
 refine zc (zI (zo (zD (zD (zr ?_)))))
 refine zb ?_
 refine y1 (zI (zo ?_))
 refine yk (fun h0=> ?_) (fun h0=> ?_)<;>(try simp only[vX]at h0)
 ·rw[j0t h0]
  refine zD (zr ?_)
  refine zN ?_
  refine zb ?_
  refine za 2 ?_
  refine zc (zI (zo (xc (xr ?_))))
  refine x8 zm zj (⟨rfl,rfl⟩)
 rw[h0p h0]
 refine yX (zo (zD (zr ?_)))
 refine zC ?_
 refine vT (xH rfl Tryz.func115 rfl rfl rfl (r0A (a0u m).1)) ?_
 refine zb ?_
 refine zO ?_
 refine zO ?_
 refine zc ?_
 refine zc (zI (zo (zD (zD (zr ?_)))))
 refine zb ?_
 refine y1 (zI (zo ?_))
 refine yk (fun h1=> ?_) (fun h1=> ?_)<;>(try simp only[vX]at h1)
 ·rw[j0l h1]
  refine zD (zr ?_)
  refine zN ?_
  refine zb ?_
  refine za 2 ?_
  refine zc (zI (zo (xc (xr ?_))))
  refine x8 zm zj (⟨rfl,rfl⟩)
 refine yX (zo (zD (zr ?_)))
 refine zt ?_
 refine zn ?_
 refine zb ?_
 refine zb ?_
 refine zb ?_
 refine vT (xH rfl Tryz.func116 rfl rfl rfl (r0e c.sk nonce aad (b0n (a0u m).1).1 8 ha (by omega))) ?_
 refine zb ?_
 refine zO ?_
 refine zO ?_
 refine zc ?_
 refine zc (zI (zo (zD (zD (zr ?_)))))
 refine zb ?_
 refine y1 (zI (zo ?_))
 refine yk (fun h2=> ?_) (fun h2=> ?_)<;>(try simp only[vX]at h2)
 ·rw[j0k h1 h2]
  refine zD (zr ?_)
  refine zN ?_
  refine zb ?_
  refine za 2 ?_
  refine zc (zI (zo (xc (xr ?_))))
  refine x8 zm zj (⟨rfl,rfl⟩)
 refine yX (zo (zD (zr ?_)))
 refine zC ?_
 refine vT (xH rfl Tryz.func117 rfl rfl rfl (l0R v)) ?_
 refine zb ?_
 refine zO ?_
 refine zO ?_
 refine zc ?_
 refine zc (zI (zo (zD (zD (zr ?_)))))
 refine zb ?_
 refine vT (O.neq rfl rfl rfl (by exact bne_eq_false_iff_eq.2 (by omega))) (zI (zo ?_))
 refine yk (fun h3=> ?_) (fun h3=> ?_)<;>(try simp only[vX]at h3)
 ·exact absurd h3 (by simp)
 refine yX (zo (zD (zr ?_)))
 refine zB ?_
 refine zb ?_
 refine zQ ?_
 intro B7
 refine AO.g ?_
 refine yc 0 62 ?_
 refine wd 62 ?_
 refine AO.u ?_
 dsimp only[List.eraseIdx]
 refine vT (xH rfl Tryz.func118 rfl rfl rfl hset) ?_
 refine zd ?_
 intro B8
 refine za 0 (zI (zo (zD (zr ?_))))
 refine zb ?_
 refine zt ?_
 refine za 0 (zI (zo (zD (zD (zr ?_)))))
 refine zB ?_
 refine vT (xH rfl Tryz.func119 rfl rfl rfl (n0K (n0g (a0u m).2.1 (a0u m).1 v c.sk nonce aad))) ?_
 refine zb ?_
 refine zO ?_
 refine zO ?_
 refine zc (zI (zo (zD (zr ?_))))
 refine zb ?_
 refine y1 (zI (zo ?_))
 refine yk (fun h4=> ?_) (fun h4=> ?_)<;>(try simp only[vX]at h4)
 ·rw[j0j h1 h2 h4]
  refine zD (zr ?_)
  refine zN ?_
  refine za 3 ?_
  refine zc (zI (zo (xc (xr ?_))))
  refine x8 zm zj (⟨rfl,rfl⟩)
 rw[h0l h1 h2 h4]
 refine yX (zo (zD (zr ?_)))
 refine zB ?_
 refine za 3 ?_
 refine zc (zI (zo (xc ?_)))
 refine AQ.retCT rfl rfl rfl mM (by(dsimp only[List.set,cA,cN,List.take,List.drop];rfl)) rfl nS (⟨rfl,rfl⟩)
theorem n0M {c:Cmp}(h:i0Y c):(c0O c).2=0:=by
 unfold c0O
 rw[if_neg (fun g=>g h)]
 split<;>rfl
theorem e0e (kid:List UInt8)(piv:Int):(h0Q kid piv).1.length≤1000:=by
 unfold h0Q
 split
 ·simp
 rename_i h
 split
 ·simp
 have hpl:=c0B piv
 have hxl:=f0h (kid:=kid) (pb:=b0K piv) (by omega) hpl
 show(g0o [k0d h0S,c0o [],c0o (i0W kid (b0K piv))]).length≤1000
 have hsl:(c0o (i0W kid (b0K piv))).length=1+(i0W kid (b0K piv)).length:=by rw[c0o,b0g hxl,cH];rfl
 have h4:(k0d h0S).length=9:=rfl
 have h5:(c0o []).length=1:=rfl
 rw[g0o,b0g (by show 3<24;omega),cH]
 simp only[List.flatten_cons,List.flatten_nil,cP,cH,cL,cE]
 omega
abbrev s0S (c:Cx)(piv:Int):Cmp:=⟨piv,true,c.inp.snd,c.inp.has,c.inp.ctx,false⟩
abbrev s0R (piv:Int):Cmp:=⟨piv,false,[],false,[],false⟩
theorem q0O {c:Cx}{piv:Int}(h:d0D c)(h2:b0R piv):(c0O (s0S c piv)).2=0:=by
 obtain⟨⟨⟨h3,h4,h5,h6,h7⟩,h8,h9,h10⟩, -⟩:=h
 refine n0M ⟨⟨by show -1≤piv;omega,by show piv≤_;omega,by show(c.inp.snd.length:Int)≤7;omega,by show(c.inp.ctx.length:Int)≤16;omega⟩,.inl rfl,?_⟩
 rcases h7 with h7|h7
 ·exact .inl h7
 exact .inr (by show(c.inp.ctx.length:Int)=0;omega)
theorem q0N {piv:Int}(h:piv= -1∨b0R piv):(c0O (s0R piv)).2=0:=by
 refine n0M ⟨⟨by show -1≤piv;omega,by show piv≤_;omega,by show(([]:List UInt8).length:Int)≤7;simp,by show(([]:List UInt8).length:Int)≤16;simp⟩,.inr (by simp),.inr (by simp)⟩
def o0s (c:Cx)(m:Msg)(piv:Int):Msg×Int:=l0r m (s0S c piv) c.sk (b0z c.com c.inp.snd piv).1 (h0Q c.inp.snd piv).1
def s0C (c:Cx)(m:Msg)(piv:Int):Msg×Bd×Int:=
 if ¬(d0D c∧q0H m.code)then(Msg.none,Bd.none,1)else if ¬b0R piv then(Msg.none,Bd.none,8)else
 if(o0s c m piv).2≠0 then(Msg.none,Bd.none,(o0s c m piv).2)else((o0s c m piv).1,⟨c.inp.ctx,c.inp.snd,piv⟩,0)
abbrev w0b (r:Msg×Bd×Int):AV:= .tup [a0U r.1,g0j r.2.1,.val (.int .i64 r.2.2)]
theorem t0i {c:Cx}{m:Msg}{piv:Int}(h: ¬(d0D c∧q0H m.code)):s0C c m piv=(Msg.none,Bd.none,1):=if_pos h
theorem t0h {c:Cx}{m:Msg}{piv:Int}(h:d0D c∧q0H m.code)(h2: ¬b0R piv):s0C c m piv=(Msg.none,Bd.none,8):=(if_neg (fun g=>g h)).trans (if_pos h2)
theorem t0g {c:Cx}{m:Msg}{piv:Int}(h:d0D c∧q0H m.code)(h2:b0R piv)(h3:(o0s c m piv).2≠0):s0C c m piv=(Msg.none,Bd.none,(o0s c m piv).2):=(if_neg (fun g=>g h)).trans ((if_neg (fun g=>g h2)).trans (if_pos h3))
theorem q0f {c:Cx}{m:Msg}{piv:Int}(h:d0D c∧q0H m.code)(h2:b0R piv)(h3:(o0s c m piv).2=0):s0C c m piv=((o0s c m piv).1,⟨c.inp.ctx,c.inp.snd,piv⟩,0):=(if_neg (fun g=>g h)).trans ((if_neg (fun g=>g h2)).trans (if_neg (fun g=>g h3)))
theorem j0x (c:Cx)(m:Msg)(piv:Int):Sp Tryz.prog 16 [g0p c,a0U m,.val (.int .i64 piv)] [] (Is (w0b (s0C c m piv))):=by
 refine yN Tryz.func16 _ Tryz.ntmps16 (fun w0 R0=> ?_)
 refine zD (zr ?_)
 refine ye ?_
 intro B1
 refine ye ?_
 intro B2
 refine zd ?_
 intro B3
 refine zd ?_
 intro B4
 refine zc (zI (zo (zD (zD (zr ?_)))))
 refine zC ?_
 refine vT (xH rfl Tryz.func27 rfl rfl rfl (f0C c)) ?_
 refine xq ?_
 refine zb ?_
 refine zM ?_
 refine zX 20 ?_
 refine AO.opG rfl rfl rfl (fun hp=>wW 21 rfl (by exact hp) (xH rfl Tryz.func57 rfl rfl rfl (r0D _))) ?_
 refine yZ 22 ?_
 refine zE (zI (zo ?_))
 refine yk (fun h1=> ?_) (fun h1=> ?_)<;>(try simp only[vX]at h1)
 ·rw[t0i (fun g=>by rcases h1 with h|h;exact h g.1;exact h g.2)]
  refine zD (zr ?_)
  refine zN ?_
  refine zN ?_
  refine za 1 ?_
  refine za 0 ?_
  refine zc (zI (zo (xc (xr ?_))))
  refine x8 y7 zj (⟨rfl,rfl⟩)
 have h1':d0D c∧q0H m.code:=h1
 obtain⟨⟨⟨k1,k2,k3,k4,k5⟩,k6,k7,k8⟩,k9,k10,k11⟩:=h1'.1
 refine yX (zo (zD (zD (zr ?_))))
 refine zb ?_
 refine vT (xH rfl Tryz.func58 rfl rfl rfl (h0w _)) ?_
 refine xq (zI (zo ?_))
 refine yk (fun h2=> ?_) (fun h2=> ?_)<;>(try simp only[vX]at h2)
 ·rw[t0h h1' h2]
  refine zD (zr ?_)
  refine zN ?_
  refine zN ?_
  refine za 1 ?_
  refine za 0 ?_
  refine zc (zI (zo (xc (xr ?_))))
  refine x8 y7 zj (⟨rfl,rfl⟩)
 have h2':b0R piv:=h2
 have hal:=e0e c.inp.snd piv
 have hpr:Sp Tryz.prog 61 [g0p c,a0U m,o0l (s0S c piv),roB (b0z c.com c.inp.snd piv).1,roB (h0Q c.inp.snd piv).1] [] (Is (g0r (o0s c m piv))):=g0I c m _ _ _ (q0O h1'.1 h2') (by omega)
 refine yX (zo (zD (zr ?_)))
 refine zt ?_
 refine zn ?_
 refine zt ?_
 refine zt ?_
 refine zn ?_
 refine zb ?_
 refine vT (xH rfl Tryz.func59 rfl rfl rfl (h0z _ _ _ (by omega))) ?_
 refine zb ?_
 refine zO ?_
 refine zO ?_
 refine zc ?_
 refine zc (zI (zo (zD (zr ?_))))
 refine zt ?_
 refine zt ?_
 refine zn ?_
 refine zb ?_
 refine vT (xH rfl Tryz.func60 rfl rfl rfl (j0O _ _)) ?_
 refine zb ?_
 refine zO ?_
 refine zO ?_
 refine zc ?_
 refine zc (zI (zo (zD (zr ?_))))
 refine zb ?_
 refine zt ?_
 refine zt ?_
 refine zn ?_
 refine zt ?_
 refine zt ?_
 refine zn ?_
 refine zt ?_
 refine zt ?_
 refine zn ?_
 refine zN ?_
 refine zd ?_
 intro B5
 refine za 0 (zI (zo (zD (zr ?_))))
 refine zC ?_
 refine zC ?_
 refine zB ?_
 refine zb ?_
 refine zb ?_
 refine vT (xH rfl Tryz.func61 rfl rfl rfl hpr) ?_
 refine zb ?_
 refine zO ?_
 refine zO ?_
 refine zd ?_
 intro B6
 refine za 0 ?_
 refine zc (zI (zo (zD (zD (zr ?_)))))
 refine zb ?_
 refine y1 (zI (zo ?_))
 refine yk (fun h3=> ?_) (fun h3=> ?_)<;>(try simp only[vX]at h3)
 ·rw[t0g h1' h2' h3]
  refine zD (zr ?_)
  refine zN ?_
  refine zN ?_
  refine zb ?_
  refine za 3 ?_
  refine za 2 ?_
  refine zc (zI (zo (xc (xr ?_))))
  refine x8 xP zj (⟨rfl,rfl⟩)
 rw[q0f h1' h2' h3]
 refine yX (zo (zD ?_))
 refine AW.regionM [(0,false),(1,false),(2,false),(3,false),(4,false),(5,false),(6,false),(7,false),(8,false),(9,false),(10,false),(11,true),(12,true),(13,false)] (by kernel_rfl) (by kernel_rfl) (by exact(by exact a0C 6 3 rfl rfl (by exact a0C 7 2 rfl rfl a0h))) ?_
 dsimp only[List.eraseIdx]
 refine yO ?_
 refine xd ?_
 refine xd ?_
 refine yT ?_
 refine vU rfl (xH rfl Tryz.func62 rfl rfl rfl (g0M _ (by omega))) ?_
 refine xd ?_
 refine xd ?_
 refine yT ?_
 refine vU rfl (xH rfl Tryz.func62 rfl rfl rfl (g0M _ (by omega))) ?_
 refine yR ?_
 refine vU rfl z7 ?_
 refine xX _ (fun w0 R0=> ?_)
 refine za 0 (AM.okN ?_)
 dsimp only[a0z]
 refine xX _ (fun w0 R0=> ?_)
 refine za 1 (AM.okN ?_)
 dsimp only[a0z]
 refine wM ?_
 refine vg ?_
 dsimp only[cA,cN]
 refine zo (xc ?_)
 refine x8 yh xe (⟨rfl,rfl⟩)
end Go.Proofs.YtojomcdjcpmnkaaGreat.By
namespace Go.Proofs.YtojomcdjcpmnkaaGreat.By
open Go.RowKit L A
def oxK:List UInt8:= [240,145,14,215,41,94,106,212,181,79,199,147,21,67,2,255]
def oxN:List UInt8:= [70,34,212,221,109,148,65,104,238,251,84,152,104]
def oxA:List UInt8:= [131,104,69,110,99,114,121,112,116,48,64,72,133,1,129,10,64,65,20,64]
def oxP:List UInt8:= [1,179,116,118,49]
def oxW:List UInt8:= [240,145,14,215,41,94,106,212,181,79,199,147,21,67,2,255,235,230,24,142,194,184,114,90,119,247,181,201,98,180,183,54,100,79,29,36,166,247,111,126,209,0,218,183,179,180,109,129,237,115,17,73,75,132,126,55,154,132,164,128,41,48,201,1,225,174,109,236,170,42,19,219,48,174,183,91,25,158,126,90,250,93,211,56,80,119,192,227,96,217,119,184,121,71,9,226,122,92,75,142,42,43,139,109,74,242,252,213,51,181,245,55,239,186,209,77,197,145,90,32,143,99,166,245,188,214,83,194,153,87,244,40,92,198,174,8,211,165,8,253,111,115,91,63,13,110,129,128,81,168,47,136,130,13,39,117,237,126,124,74,200,126,87,213,153,214,120,93,27,219,95,40,246,165,35,98]
def oxA1:List (List UInt8):= [[241,215,44,3,244,51,254,149,221,161,60,199,141,43,2,254],[188,71,97,51,253,129,156,51,189,118,25,69,183,229,216,243],[99,88,208,73,228,179,159,70,121,58,226,146,177,81,113,195],[1,207,222,246,154,51,135,217,175,65,205,84,136,21,23,109],[198,175,247,110,237,198,21,255,1,119,242,254,56,76,126,208],[183,106,74,34,146,66,39,63,157,89,200,81,30,226,19,166],[139,170,105,226,28,253,91,55,230,147,18,147,204,93,110,214],[86,153,48,96,158,140,140,247,63,255,56,230,32,73,185,41],[238,130,219,210,246,203,116,238,24,194,246,141,217,33,67,112],[111,239,193,7,21,59,184,0,78,185,102,141,125,157,130,46],[96,156,100,228,192,128,107,152,52,133,39,75,9,122,79,63]]
def oxA0:List (List UInt8):= [[241,215,44,3,244,51,254,149,221,161,60,199,141,43,2,255],[17,234,141,114,253,129,156,51,189,118,25,69,183,229,216,243],[182,191,55,123,103,48,1,91,203,247,157,32,216,31,86,228],[74,190,92,19,114,56,137,56,92,140,31,137,56,114,154,163],[149,39,57,94,67,12,219,61,41,189,32,129,254,139,112,15],[118,36,232,227,227,50,234,86,67,23,162,45,238,163,3,89],[158,167,98,82,105,93,175,247,74,251,9,19,102,187,141,85],[208,214,139,254,96,145,22,98,223,247,109,4,58,171,73,72],[143,40,139,161,223,48,182,93,197,18,107,84,192,63,174,234],[31,19,154,123,224,186,253,120,59,74,90,84,176,94,14,165],[8,138,233,211,120,0,211,124,249,131,231,148,17,216,119,66]]
def oxB0:List (List UInt8):= [[169,215,44,3,244,51,254,149,221,161,60,199,141,43,2,250],[206,163,178,146,253,129,156,51,189,118,25,69,183,229,216,243],[164,182,62,96,104,63,16,69,161,73,73,74,84,30,219,105],[34,100,75,53,229,183,2,193,180,241,41,202,167,31,73,82],[153,128,6,78,86,113,188,6,161,14,15,84,103,169,19,98],[31,222,151,139,157,35,81,163,106,136,249,140,97,204,235,158],[25,107,153,124,21,251,159,216,17,239,160,4,100,108,18,25],[121,159,182,118,212,61,101,253,239,9,16,20,146,239,207,92],[7,160,52,144,125,49,160,43,22,89,104,190,48,188,64,151],[3,121,138,93,155,161,169,144,74,89,61,56,144,52,170,1],[179,76,112,169,141,29,212,17,205,195,33,72,150,19,240,101]]
def oxS2:List (List UInt8):= [[67,201,253,22,225,45,221,183,1,252,146,235,195,24,119,155],[247,146,120,31,80,120,2,130,158,159,44,253,106,138,253,145],[155,86,179,72,226,53,20,159,234,59,249,78,69,229,50,23],[13,16,177,129,44,244,180,225,73,198,86,11,232,29,136,166],[27,240,16,200,71,115,81,32,129,125,176,145,215,45,83,253],[134,145,218,18,20,246,125,193,118,140,238,203,186,163,170,180],[145,105,145,41,12,63,22,57,11,95,232,48,184,93,68,112],[163,54,251,153,214,98,169,188,158,90,238,97,55,158,68,192],[250,208,209,219,135,148,249,107,178,204,185,46,115,98,83,153],[137,19,11,68,246,188,98,126,72,72,71,70,208,144,249,75],[111,27,247,102,219,132,225,70,73,187,116,219,134,216,137,56]]
def oxS3:List (List UInt8):= [[30,128,185,240,230,154,139,146,252,244,179,72,147,155,139,199],[119,142,89,90,174,152,182,82,41,218,108,222,226,252,42,29],[171,98,249,101,215,55,212,156,128,152,66,56,224,209,87,95],[127,133,251,220,139,166,87,162,30,91,7,204,90,65,27,213],[244,99,15,102,178,9,195,29,127,234,22,53,204,179,60,217],[238,28,188,206,116,64,232,176,186,239,211,157,65,5,68,221],[150,13,254,0,255,186,118,9,134,152,155,9,84,253,37,18],[14,44,221,143,127,41,209,165,65,88,216,212,167,10,215,79],[197,138,175,25,32,161,159,231,160,182,127,201,50,199,210,4],[44,51,167,110,151,147,192,2,229,101,84,194,47,10,240,43],[185,162,119,36,17,155,244,194,194,188,3,95,227,102,153,71]]
def oxS4:List (List UInt8):= [[72,128,13,133,9,197,158,22,119,243,196,204,246,37,155,184],[206,171,96,26,84,8,244,117,87,89,3,171,234,33,243,160],[162,201,107,50,15,239,99,135,54,76,123,86,221,79,75,10],[165,232,31,55,76,77,57,113,111,4,226,90,134,247,240,6],[36,169,18,67,227,233,126,241,160,46,18,77,139,127,92,120],[193,171,173,214,113,192,90,159,190,103,52,193,125,42,36,88],[45,9,7,112,35,53,192,215,119,242,240,225,182,47,135,1],[21,166,24,220,79,214,40,118,138,230,197,61,97,183,96,64],[133,1,23,129,144,168,142,214,90,70,214,11,213,175,145,75],[32,212,237,107,242,232,24,235,104,188,26,210,93,133,76,124],[127,229,245,197,16,179,81,34,94,76,10,193,186,237,142,215]]
def t0t:List UInt8:= [97,47,16,146,241,119,111,28,22,104,179,130,94]
theorem w0e: ∀q,q<176→wK oxK q=oxW.getD q 0:=s0P (by decide +kernel) (by decide +kernel)
theorem n0e {f:Nat→UInt8}{ST:List (List UInt8)}(h0: ∀q,q<16→f q^^^oxW.getD q 0=kf (ST.getD 0 []) q)(h: ∀j,j<10→ ∀q,q<16→p0J oxW (ST.getD j []) j q=kf (ST.getD (j+1) []) q): ∀q,q<16→enc (wK oxK) f q=kf (ST.getD 10 []) q:=
 n0J w0e h0 h 10 (Nat.le_refl _)
theorem k0z {x:Nat→UInt8}{l X:List UInt8}{ST:List (List UInt8)}(hx: ∀q,q<16→x q=kf X q)(hl:l≠ [])(h0: ∀q,q<16→(kf X q^^^kf l q)^^^oxW.getD q 0=kf (ST.getD 0 []) q)(h: ∀j,j<10→ ∀q,q<16→p0J oxW (ST.getD j []) j q=kf (ST.getD (j+1) []) q):
  ∀q,q<16→absorb (wK oxK) x l q=absorb (wK oxK) (kf (ST.getD 10 [])) (l.drop 16) q:=fun q hq=>by
 rw[b0b hl]
 exact c0h _ _ _ _ (Nat.le_refl _) (n0e (f:=fun q=>x q^^^kf l q) (fun q hq=>by rw[hx q hq];exact h0 q hq) h) q hq
def oxB:List UInt8:=fnB 16 (c0a (j0D oxA oxN 8) oxN oxP.length)
theorem u0Y: ∀q,q<16→absorb (wK oxK) (fun _=>0) oxB q=kf (oxB0.getD 10 []) q:=fun q hq=>by
 rw[k0z (x:=fun _=>0) (X:= []) (ST:=oxB0) (fun q _=>rfl) (by decide +kernel) (by decide +kernel) (by decide +kernel) q hq,show oxB.drop 16= [] by decide +kernel,a0Q]
theorem u0X: ∀q,q<16→absorb (wK oxK) (absorb (wK oxK) (fun _=>0) oxB) (c0q oxA) q=kf (oxS3.getD 10 []) q:=fun q hq=>by
 rw[k0z (X:=oxB0.getD 10 []) (ST:=oxS2) u0Y (by decide +kernel) (by decide +kernel) (by decide +kernel) q hq]
 rw[k0z (X:=oxS2.getD 10 []) (l:=(c0q oxA).drop 16) (ST:=oxS3) (fun q _=>rfl) (by decide +kernel) (by decide +kernel) (by decide +kernel) q hq,show((c0q oxA).drop 16).drop 16= [] by decide +kernel,a0Q]
theorem u0W: ∀q,q<16→absorb (wK oxK) (absorb (wK oxK) (absorb (wK oxK) (fun _=>0) oxB) (c0q oxA)) oxP q=kf (oxS4.getD 10 []) q:=fun q hq=>by
 rw[k0z (X:=oxS3.getD 10 []) (ST:=oxS4) u0X (by decide +kernel) (by decide +kernel) (by decide +kernel) q hq,show oxP.drop 16= [] by decide +kernel,a0Q]
theorem t0r: ∀q,q<16→i0x (wK oxK) oxN oxA oxP 8 q=kf (oxS4.getD 10 []) q:=fun q hq=>by
 rw[i0x,if_neg (by decide)];exact u0W q hq
theorem t0p: ∀q,q<16→e0g (wK oxK) oxN (i0x (wK oxK) oxN oxA oxP 8) q=kf (oxS4.getD 10 []) q^^^kf (oxA0.getD 10 []) q:=fun q hq=>by
 rw[e0g,t0r q hq,n0e (ST:=oxA0) (by decide +kernel) (by decide +kernel) q hq]
theorem t0q: ∀q,q<5→e0l (wK oxK) oxN oxP q=kf oxP q^^^kf (oxA1.getD 10 []) q:=fun q hq=>by
 rw[e0l,show q/16=0 by omega,show q%16=q by omega,n0e (ST:=oxA1) (by decide +kernel) (by decide +kernel) q (by omega)]
theorem r0B:e0n oxK oxN oxA oxP 8=t0t:=by
 rw[(c0S (by decide +kernel) (by decide +kernel)).1]
 rw[show oxP.length=5 from rfl,b0W t0q,show(8:Int).toNat=8 from rfl,b0W fun q hq=>t0p q (by omega)]
 decide +kernel
theorem t0s:d0s oxK oxN oxA oxP 8=0:=(c0S (by decide +kernel) (by decide +kernel)).2
attribute [local irreducible] AW AQ AO
def oexI:Inp:=⟨k0Q,q0t,false,[],[],[1]⟩
def w0g:List UInt8:= [0xff,0xb1,0x4e,0x09,0x3c,0x94,0xc9,0xca,0xc9,0x47,0x16,0x48,0xb4,0xf9,0x87,0x10]
def w0f:List UInt8:= [0x46,0x22,0xd4,0xdd,0x6d,0x94,0x41,0x68,0xee,0xfb,0x54,0x98,0x7c]
def oexC:Cx:=⟨oexI,oxK,w0g,w0f⟩
theorem r0R:e0J oexI:=of_decide_eq_true rfl
theorem r0Q:s0H oexI=(oexC,0):=by
 rw[s0H,if_pos r0R]
 have e1:e0y oexI.snd oexI.ctx oexI.has n0w 16= [0x85,0x40,0xf6,0x0a,0x63,0x4b,0x65,0x79,0x10]:=by decide +kernel
 have e2:e0y oexI.rcp oexI.ctx oexI.has n0w 16= [0x85,0x41,0x01,0xf6,0x0a,0x63,0x4b,0x65,0x79,0x10]:=by decide +kernel
 have e3:e0y [] oexI.ctx oexI.has ivT 13= [0x85,0x40,0xf6,0x0a,0x62,0x49,0x56,0x0d]:=by decide +kernel
 have e0:i0X oexI.salt oexI.sec=n0H:=t0S
 unfold s0G
 rw[e0,e1,e2,e3,t0T,s0e,v0h]
 rfl
def s0F:Msg:=⟨0,1,23839,[0,0,57,116],[⟨3,[108,111,99,97,108,104,111,115,116]⟩,⟨11,[116,118,49]⟩],[]⟩
def oexO:Msg:=⟨0,2,23839,[0,0,57,116],[⟨3,[108,111,99,97,108,104,111,115,116]⟩,⟨9,[9,20]⟩],t0t⟩
theorem p0l:ValM s0F:=of_decide_eq_true (by decide +kernel)
theorem p0k:ValM oexO:=of_decide_eq_true (by decide +kernel)
theorem i0u:a0u s0F=(⟨0,1,0,[],[⟨11,[116,118,49]⟩],[]⟩,⟨0,2,23839,[0,0,57,116],[⟨3,[108,111,99,97,108,104,111,115,116]⟩],[]⟩,0):=by
 rw[a0u,if_pos ⟨p0l,.inl (by decide +kernel)⟩,if_neg (by decide +kernel)]
 decide +kernel
theorem h0x:b0n ⟨0,1,0,[],[⟨11,[116,118,49]⟩],[]⟩=(oxP,0):=by decide +kernel
theorem i0v:(b0z oexC.com oexC.inp.snd 20).1=oxN:=by decide +kernel
theorem n0o:(h0Q oexC.inp.snd 20).1=oxA:=by decide +kernel
theorem r0P:(c0O (s0S oexC 20)).1= [9,20]:=by decide +kernel
theorem k0C:o0s oexC s0F 20=(oexO,0):=by
 have e:n0g ⟨0,2,23839,[0,0,57,116],[⟨3,[108,111,99,97,108,104,111,115,116]⟩],[]⟩ ⟨0,1,0,[],[⟨11,[116,118,49]⟩],[]⟩ (s0S oexC 20) oexC.sk (b0z oexC.com oexC.inp.snd 20).1 (h0Q oexC.inp.snd 20).1=oexO:=by
  unfold n0g
  rw[h0x,i0v,n0o,r0P,show oexC.sk=oxK from rfl,r0B]
  decide +kernel
 unfold o0s
 rw[h0p (by rw[i0u]),i0u]
 rw[h0l (by rw[h0x]) (by rw[h0x,i0v,n0o];exact t0s) (by rw[e,d0X,if_pos p0k])]
 rw[e]
theorem r0O:s0C oexC s0F 20=(oexO,⟨[],[],20⟩,0):=by
 have hok:d0D oexC:=of_decide_eq_true (by decide +kernel)
 rw[q0f ⟨hok,by decide⟩ (by decide) (by rw[k0C]),k0C]
 rfl
theorem g0Z:Sp Tryz.prog 10 [] [] (Is (.val (.bool true))):=by
 have hder:=i0J oexI
 rw[r0Q]at hder
 have hreq:Sp Tryz.prog 16 [g0p oexC,a0U s0F,.val (.int .i64 20)] [] (Is (.tup [a0U oexO,g0j ⟨[],[],20⟩,.val (.int .i64 0)])):=by
  have h:=j0x oexC s0F 20
  rw[r0O]at h
  exact h
 have hpl:oexO.pay.length=13:=rfl
 have hcd:oexO.code=2:=rfl
 refine yN Tryz.func10 _ Tryz.ntmps10 (fun w0 R0=> ?_)
 refine zD (zr ?_)
 refine zc (zI (zo (zD (zr ?_))))
 refine y6 ?_
 intro B1
 refine AO.g ?_
 refine yc 0 7 ?_
 refine wd 7 ?_
 refine AO.u ?_
 dsimp only[List.eraseIdx]
 refine y6 ?_
 intro B2
 refine AO.g ?_
 refine yc 0 8 ?_
 refine wd 8 ?_
 refine AO.u ?_
 dsimp only[List.eraseIdx]
 refine zQ ?_
 intro B3
 refine AO.g ?_
 refine yc 0 9 ?_
 refine wd 9 ?_
 refine AO.u ?_
 dsimp only[List.eraseIdx]
 refine zN ?_
 refine vT (wg rfl Tryz.func54 rfl rfl rfl hder) ?_
 refine zb ?_
 refine zO ?_
 refine zO ?_
 refine zd ?_
 intro B4
 refine yQ 0 ?_
 refine zc (zI (zo (zD (zr ?_))))
 refine vT vM ?_
 refine y6 ?_
 intro B5
 refine AO.g ?_
 refine yc 0 16 ?_
 refine wd 16 ?_
 refine AO.u ?_
 dsimp only[List.eraseIdx]
 refine y6 ?_
 intro B6
 refine AO.constBytes (i:=0) (l:= [108,111,99,97,108,104,111,115,116]) rfl rfl rfl (lB rfl) rfl rfl (by rfl) (by rfl) ⟨Nat.le_refl _,by unfold maxLen;omega⟩ ?_
 dsimp only[List.eraseIdx]
 refine zN ?_
 refine y6 ?_
 intro B7
 refine AO.constBytes (i:=0) (l:= [116,118,49]) rfl rfl rfl (lB rfl) rfl rfl (by rfl) (by rfl) ⟨Nat.le_refl _,by unfold maxLen;omega⟩ ?_
 dsimp only[List.eraseIdx]
 refine zN ?_
 refine y6 ?_
 intro B8
 refine AO.g ?_
 refine yc 0 23 ?_
 refine wd 23 ?_
 refine AO.u ?_
 dsimp only[List.eraseIdx]
 refine zN ?_
 refine vT (wg rfl Tryz.func16 rfl rfl rfl hreq) ?_
 refine zb ?_
 refine zO ?_
 refine zO ?_
 refine zO ?_
 refine zd ?_
 intro B9
 refine zd ?_
 intro B10
 refine yQ 1 ?_
 refine yQ 0 ?_
 refine zc (zI (zo (zD (zr ?_))))
 refine zb ?_
 refine vT (O.eql rfl rfl rfl (by exact beq_iff_eq.2 (by omega))) ?_
 refine zb ?_
 refine zt ?_
 refine zy ?_
 refine vT (O.eql rfl rfl rfl (by exact beq_iff_eq.2 (by omega))) ?_
 refine vT (O.pickT rfl rfl rfl) ?_
 refine zb ?_
 refine zt ?_
 refine zn ?_
 refine zW ?_
 refine vT (O.eql rfl rfl rfl (by exact beq_iff_eq.2 (by omega))) ?_
 refine vT (O.pickT rfl rfl rfl) ?_
 refine zb ?_
 refine zt ?_
 refine zn ?_
 refine z8 ?_
 refine vG ?_
 refine z9 ?_
 refine vT (O.pickT rfl rfl rfl) ?_
 refine zb ?_
 refine zt ?_
 refine zn ?_
 refine z8 ?_
 refine vG ?_
 refine z9 ?_
 refine vT (O.pickT rfl rfl rfl) ?_
 refine zb ?_
 refine zt ?_
 refine zn ?_
 refine vT (O.eql rfl rfl rfl (by exact beq_iff_eq.2 (by omega))) ?_
 refine vT (O.pickT rfl rfl rfl) ?_
 refine zc (zI (zo (xc ?_)))
 refine yE
end Go.Proofs.YtojomcdjcpmnkaaGreat.By
namespace Go.Proofs.YtojomcdjcpmnkaaGreat.By
open Go.RowKit L A Dk
attribute [local irreducible] AW AQ AO
def w0Q (b:Nat)(l:List Int)(n:Nat):AV→List HE→Prop:=fun r H'=> ∃(V:Value) (x:List UInt8) (k':Nat),x.length≤n∧V.oneCell'=true∧k'≤l.length∧r= .val V∧H'= [.row V 5 1 x.length (a0a x),f0Z b l k']
theorem d0n (b:Nat)(l:List Int)(k:Nat)(n:Nat)(hl:l.length≤maxLen)(hk:k≤l.length)(hn:n≤1000000):
  Sp Tryz.prog 24 [ptr b,.val (.int .i64 (n:Int))] [f0Z b l k] (w0Q b l n):=by
 refine yN Tryz.func24 _ Tryz.ntmps24 (fun w0 R0=> ?_)
 refine zD (zr ?_)
 refine zc (zI (zo (zD (zr ?_))))
 refine zc (zI (zo (zD (zD (zr ?_)))))
 refine zb ?_
 refine zb ?_
 refine zA ?_
 refine AO.callMG 0 rfl rfl Tryz.func33 rfl rfl rfl rfl rfl rfl (b0i _ l _ _ hl (by assumption) (by omega) (by omega)) ?_
 rintro _ _ ⟨⟨z1,hz01,hz11,rfl⟩,kd1,hkd1,rfl⟩
 dsimp only[cA,cN,List.eraseIdx]
 refine zc (zI (zo (xj ?_)))
 obtain⟨c,rfl⟩: ∃c:Nat,z1=(c:Int):=⟨z1.toNat,by omega⟩
 refine AW.g ?_
 refine G.nilRow 5 1 ?_
 refine AW.u ?_
 refine AW.loopK [(0,_)] (fun nn E H=> ∃(c':Nat) (out:List UInt8) (V:Value) (kk:Nat),(out.length+c'≤n)∧(V.oneCell'=true)∧(kk≤l.length)∧c'=nn∧E= [(5,.val V),(6,.val (.int .i64 (c':Int)))]∧H= [.row V 5 1 out.length (a0a out),f0Z b l kk]) _ (⟨c,[],.slice none 0 0,_,by simp<;>omega,rfl,‹_›,rfl,rfl,rfl⟩) (by repeat(first|exact a0j|refine a0i rfl ?_)) (by repeat(first|exact a0j|refine a0i rfl ?_)) (by repeat(first|exact a0A|refine a0v 0 rfl ?_)) ?_
 rintro nn E H ⟨c',out,V,kk,h1,hV,h3,rfl,rfl,rfl⟩
 dsimp only[cA,cN]
 refine zD (zD (zr ?_))
 refine zb ?_
 refine yS (zI (zo ?_))
 refine yk (fun h=> ?_) (fun h=> ?_)<;>(try simp only[vX]at h)
 ·obtain⟨j,rfl⟩: ∃j,c'=j+1:=⟨c'-1,by omega⟩
  refine yX (zo (zD (xj (zr ?_))))
  refine zb ?_
  refine zb ?_
  refine AO.callMG 1 rfl rfl Tryz.func33 rfl rfl rfl rfl rfl rfl (b0i _ l _ _ hl (by assumption) (by omega) (by omega)) ?_
  rintro _ _ ⟨⟨z2,hz02,hz12,rfl⟩,kd2,hkd2,rfl⟩
  dsimp only[cA,cN,List.eraseIdx]
  refine xa ?_
  refine zQ ?_
  intro B3
  refine AO.g ?_
  refine yc 0 19 ?_
  refine wd 19 ?_
  refine AO.u ?_
  dsimp only[List.eraseIdx]
  refine zx 1 ?_
  intro V4 hV4
  refine zc (zI (xz (zo (zr ?_))))
  refine zb ?_
  refine yK ?_
  refine zc (zI ?_)
  rw[show((j+1:Nat):Int)-1=(j:Int) by omega]
  refine AQ.loopKN _ _ _ (by omega) (⟨j,out++[u8 z2],V4,kd2,by simp;omega,hV4,hkd2,rfl,rfl,by rw[a0O,cH]<;>rfl⟩) (by repeat(first|exact a0j|refine a0i rfl ?_)) (by repeat(first|exact a0j|refine a0i rfl ?_)) (by repeat(first|exact a0A|refine a0v 0 rfl ?_|refine a0v 1 rfl ?_))
 refine wb ?_
 refine xY ?_
 refine x3 ?_
 refine xx (zo (zD (zr ?_)))
 refine zb ?_
 refine zc (zI (zo (xc ?_)))
 refine vu rfl rfl ⟨_,by repeat(first|exact List.Sublist.slnil|refine List.Sublist.cons_cons _ ?_),List.Perm.refl _⟩ (⟨V,out,_,by omega,hV,h3,rfl,rfl⟩)
def pivL:List Int:= [0,1,5,255,256,65535,16777216,1099511627775,1099511627774,4294967296]
theorem t0n {z:Int}(h0:0≤z)(h1:z<10){j:Nat}(hj:j=z.toNat*1):([.val (.int .i64 0),.val (.int .i64 1),.val (.int .i64 5),.val (.int .i64 255),.val (.int .i64 256),.val (.int .i64 65535),.val (.int .i64 16777216),.val (.int .i64 1099511627775),.val (.int .i64 1099511627774),.val (.int .i64 4294967296)]:List AV)[j]? =some (.val (.int .i64 (pivL.getD z.toNat 0))):=by
 subst hj
 obtain⟨n,rfl⟩: ∃n:Nat,z=(n:Int):=⟨z.toNat,by omega⟩
 have hn:n<10:=by omega
 have hc:n=0∨n=1∨n=2∨n=3∨n=4∨n=5∨n=6∨n=7∨n=8∨n=9:=by omega
 rcases hc with rfl|rfl|rfl|rfl|rfl|rfl|rfl|rfl|rfl|rfl<;>rfl
theorem t0m {z:Int}(h0:0≤z)(h1:z<10):b0R (pivL.getD z.toNat 0):=by
 have key: ∀n,n<10→b0R (pivL.getD n 0):=by decide
 exact key _ (by omega)
def v0t (r:AV):Prop:= ∃n:Int,b0R n∧r= .val (.int .i64 n)
theorem j0v (b:Nat)(l:List Int)(k:Nat)(hl:l.length≤maxLen)(hk:k≤l.length):Sp Tryz.prog 14 [ptr b] [f0Z b l k] (Gen b l v0t):=by
 refine yN Tryz.func14 _ Tryz.ntmps14 (fun w0 R0=> ?_)
 refine zD (zr ?_)
 refine zc (zI (zo (zD (zr ?_))))
 refine y6 ?_
 intro B1
 refine AO.g ?_
 refine yc 0 3 ?_
 refine wd 3 ?_
 refine AO.u ?_
 dsimp only[List.eraseIdx]
 refine zb ?_
 refine AO.callMG 0 rfl rfl Tryz.func33 rfl rfl rfl rfl rfl rfl (b0i _ l _ _ hl (by assumption) (by omega) (by omega)) ?_
 rintro _ _ ⟨⟨z2,hz02,hz12,rfl⟩,kd2,hkd2,rfl⟩
 dsimp only[cA,cN,List.eraseIdx]
 refine z8 ?_
 refine vT (O.loadR rfl rfl (by exact t0n (by assumption) (by assumption) rfl)) ?_
 refine zc (zI (zo (xc ?_)))
 refine vu rfl rfl ⟨_,by repeat(first|exact List.Sublist.slnil|refine List.Sublist.cons_cons _ ?_),List.Perm.refl _⟩ (⟨⟨_,t0m hz02 hz12,rfl⟩,_,hkd2,rfl⟩)
def v0v (r:AV):Prop:= ∃x,e0J x∧r=u0i x
theorem n0z (b:Nat)(l:List Int)(k:Nat)(hl:l.length≤maxLen)(hk:k≤l.length):Sp Tryz.prog 55 [ptr b,.val (.bool true)] [f0Z b l k] (Gen b l v0v):=by
 refine yN Tryz.func55 _ Tryz.ntmps55 (fun w0 R0=> ?_)
 refine zD (zr ?_)
 refine yg ?_
 intro B1
 refine zI (zo (zD (zr ?_)))
 refine zb ?_
 refine AO.callMG 1 rfl rfl Tryz.func33 rfl rfl rfl rfl rfl rfl (b0i _ l _ _ hl (by assumption) (by omega) (by omega)) ?_
 rintro _ _ ⟨⟨z2,hz02,hz12,rfl⟩,kd2,hkd2,rfl⟩
 dsimp only[cA,cN,List.eraseIdx]
 refine zb ?_
 refine AO.callMG 0 rfl rfl Tryz.func33 rfl rfl rfl rfl rfl rfl (b0i _ l _ _ hl (by assumption) (by omega) (by omega)) ?_
 rintro _ _ ⟨⟨z3,hz03,hz13,rfl⟩,kd3,hkd3,rfl⟩
 dsimp only[cA,cN,List.eraseIdx]
 refine zA ?_
 refine vT (xH rfl Tryz.func107 rfl rfl rfl (q0Z _ _ ⟨by omega,by omega⟩)) ?_
 refine zb ?_
 refine AO.callMG 0 rfl rfl Tryz.func24 rfl rfl rfl rfl rfl rfl (d0n _ l _ 8 hl (by assumption) (by omega)) ?_
 rintro _ _ ⟨V4,x4,kd4,hx4,hV4,hkd4,rfl,rfl⟩
 dsimp only[cA,cN,List.eraseIdx]
 refine zb ?_
 refine AO.callMG 1 rfl rfl Tryz.func24 rfl rfl rfl rfl rfl rfl (d0n _ l _ 3 hl (by assumption) (by omega)) ?_
 rintro _ _ ⟨V5,x5,kd5,hx5,hV5,hkd5,rfl,rfl⟩
 dsimp only[cA,cN,List.eraseIdx]
 refine zb ?_
 refine AO.callMG 1 rfl rfl Tryz.func24 rfl rfl rfl rfl rfl rfl (d0n _ l _ 3 hl (by assumption) (by omega)) ?_
 rintro _ _ ⟨V6,x6,kd6,hx6,hV6,hkd6,rfl,rfl⟩
 dsimp only[cA,cN,List.eraseIdx]
 refine vT (O.build rfl rfl (by(show(V4.oneCell'&&(V5.oneCell'&&(V6.oneCell'&&true)))=true;rw[hV4,hV5,hV6];rfl)) (by rfl)) ?_
 refine yg ?_
 intro B7
 refine AO.store (i:=0) rfl rfl rfl rfl rfl rfl (by(show(true&&(V4.oneCell'&&(true&&(true&&(V5.oneCell'&&(V6.oneCell'&&true))))))=true;rw[hV4,hV5,hV6];rfl)) (by rfl) (by rfl) (by(dsimp only[List.set,List.append,cA,cN,a0r,a0q,a0w,a0d,a0n,AV.cells,List.map,List.map_cons,List.map_nil,List.take,List.drop,Nat.zero_add,Nat.add_zero,Nat.reduceAdd,Nat.reduceMul,Nat.zero_mul,Value.cells,List.toList_toArray,a0p,List.replicate,List.flatten,cP];done)) (by(dsimp only[List.set,List.append,cA,cN,a0r,a0q,a0w,a0d,a0n,AV.cells,List.map,List.map_cons,List.map_nil,List.take,List.drop,Nat.zero_add,Nat.add_zero,Nat.reduceAdd,Nat.reduceMul,Nat.zero_mul,Value.cells,List.toList_toArray,a0p,List.replicate,List.flatten,cP];done)) (zI (zo (zD (zD (zr ?_)))))
 refine zt ?_
 refine AO.g ?_
 refine G.freezeCell 3 0 4 rfl rfl rfl ?_
 dsimp only[List.eraseIdx,List.set]
 refine G.freezeCell 3 0 1 rfl rfl rfl ?_
 dsimp only[List.eraseIdx,List.set]
 refine G.coeCell 0 3 rfl rfl Coe.nil ?_
 dsimp only[List.set]
 refine AO.u ?_
 refine zy ?_
 refine zt ?_
 refine zy ?_
 refine vT (O.callL rfl Tryz.func31 rfl rfl rfl mM (b0S _ _) (by(repeat(first|exact LendL.nil|refine LendL.same ?_|refine LendL.lend ?_));done)) ?_
 refine zI (zo ?_)
 have hse:(m0q z2 (1+z3).toNat).length=(1+z3).toNat:=m0p _ _
 generalize m0q z2 (1+z3).toNat=sec at*
 refine xU [(0,_),(1,_),(4,_),(5,_)] (fun E H=> ∃(V:Value) (rc:List UInt8),(V.oneCell'=true)∧(rc.length≤4)∧(¬x5=rc)∧E= []∧H= [.blk B7 24 6 [roB sec,roB x4,.val (.bool false),roB [],roB x5,.val V],.row V 5 1 rc.length (a0a rc),f0Z b l kd6,.blk B1 24 6 [.val (.slice none 0 0),.val (.slice none 0 0),.val (.bool false),.val (.slice none 0 0),.val (.slice none 0 0),.val (.slice none 0 0)]]) (fun heq=> ?_) (fun heq=> ?_) ?_<;>try(try simp only[vX]at heq)
 ·have hgu:a0a (x6++[9])=a0a x6++[.val (.int .u8 9)]:=b0s x6 9
  refine zr ?_
  refine zt ?_
  refine zy ?_
  refine zQ ?_
  intro B8
  refine AO.g ?_
  refine yc 0 26 ?_
  refine wd 26 ?_
  refine AO.u ?_
  dsimp only[List.eraseIdx]
  refine y2 1 ?_
  intro V9 hV9
  refine zt ?_
  refine yv 0 (zI ?_)
  rw[←hgu,show x6.length+1=(x6++[9]).length by simp]
  refine xw _ _ (⟨_,x6++[9],‹_›,by simp;omega,(fun e=>by have:=congrArg List.length e;simp at this;rw[heq]at this;omega),rfl,rfl⟩)
 ·refine yX ?_
  refine xw _ _ (⟨V6,x6,hV6,by omega,heq,rfl,rfl⟩)
 rintro E1 H1 ⟨V,rc,hV,hrl,hne,rfl,rfl⟩
 dsimp only[cA,cN]
 refine zo ?_
 refine AW.g ?_
 refine G.freezeCell 1 0 5 rfl rfl rfl ?_
 refine AW.u ?_
 refine AW.g ?_
 dsimp only[List.eraseIdx,List.set]
 refine AW.u (zD (zD (zr ?_)))
 refine zb ?_
 refine zb ?_
 refine zb ?_
 refine AO.callMGw 1 rfl rfl Tryz.func33 rfl rfl rfl rfl rfl rfl (b0i _ l _ _ hl (by assumption) (by omega) (by omega)) ?_;rintro _ _ ⟨⟨z10,hz010,hz110,rfl⟩,kd10,hkd10,rfl⟩;dsimp only[cA,cN,List.eraseIdx]
 refine z9 ?_
 refine vT (O.pickT rfl rfl rfl) (zI (zo ?_))
 refine yk (fun hz=> ?_) (fun hz=> ?_)<;>(try simp only[vX]at hz)
 ·refine zr ?_
  refine zb ?_
  refine AO.callMG 0 rfl rfl Tryz.func24 rfl rfl rfl rfl rfl rfl (d0n _ l _ 5 hl (by assumption) (by omega)) ?_
  rintro _ _ ⟨V11,x11,kd11,hx11,hV11,hkd11,rfl,rfl⟩
  dsimp only[cA,cN,List.eraseIdx]
  refine zt ?_
  refine zp 2 ?_
  refine zt ?_
  refine AO.g ?_
  refine yf 0 [36] ?_
  dsimp only[List.map,List.eraseIdx,cA,cN]
  refine AO.u ?_
  refine zp 1 (zI (zo (zD (zr ?_))))
  refine wX ?_
  refine zp 2 (zI (zo (xc ?_)))
  refine AQ.retCell rfl rfl mM (by rfl) rfl ⟨_,by repeat(first|exact List.Sublist.slnil|refine List.Sublist.cons_cons _ ?_|refine List.Sublist.cons _ ?_),List.Perm.refl _⟩ (⟨⟨⟨sec,x4,true,x11,x5,rc⟩,⟨⟨by show 1≤sec.length;omega,by show sec.length≤64;omega,by show x4.length≤64;omega,by show x11.length≤16;omega,.inl rfl⟩,by show x5.length≤7;omega,by show rc.length≤7;omega,hne⟩,rfl⟩,_,hkd11,rfl⟩)
 refine yX (zo (zD (zr ?_)))
 refine wX ?_
 refine zp 2 (zI (zo (xc ?_)))
 refine AQ.retCell rfl rfl mM (by rfl) rfl ⟨_,by repeat(first|exact List.Sublist.slnil|refine List.Sublist.cons_cons _ ?_|refine List.Sublist.cons _ ?_),List.Perm.refl _⟩ (⟨⟨⟨sec,x4,false,[],x5,rc⟩,⟨⟨by show 1≤sec.length;omega,by show sec.length≤64;omega,by show x4.length≤64;omega,by show([]:List UInt8).length≤16;simp,.inr rfl⟩,by show x5.length≤7;omega,by show rc.length≤7;omega,hne⟩,rfl⟩,_,hkd10,rfl⟩)
def w0O (r:AV):Prop:= ∃c,d0D c∧r=g0p c
theorem j0N (b:Nat)(l:List Int)(k:Nat)(hl:l.length≤maxLen)(hk:k≤l.length):Sp Tryz.prog 12 [ptr b,.val (.bool true)] [f0Z b l k] (Gen b l w0O):=by
 have hder: ∀x,e0J x→Sp Tryz.prog 54 [u0i x] [] (Is (.tup [g0p (s0G x),.val (.int .i64 0)])):=fun x hx=>by
  have h:=i0J x
  rw[show s0H x=(s0G x,0)from if_pos hx]at h
  exact h
 refine yN Tryz.func12 _ Tryz.ntmps12 (fun w0 R0=> ?_)
 refine zD (zr ?_)
 refine zd ?_
 intro B1
 refine zI (zo (zD (zr ?_)))
 refine zb ?_
 refine zb ?_
 refine AO.callMG 1 rfl rfl Tryz.func55 rfl rfl rfl rfl rfl rfl (n0z _ l _ hl hk) ?_
 rintro _ _ ⟨⟨x2,hx2,rfl⟩,kd2,hkd2,rfl⟩
 dsimp only[cA,cN,List.eraseIdx]
 refine vT (xH rfl Tryz.func54 rfl rfl rfl (hder _ (by assumption))) ?_
 refine zb ?_
 refine zO ?_
 refine zO ?_
 refine zd ?_
 intro B3
 refine za 0 ?_
 refine zc (zI (zo (zD (zr ?_))))
 refine zB ?_
 refine za 2 (zI (zo (xc ?_)))
 refine AQ.retCell rfl rfl mM (by rfl) rfl ⟨_,by repeat(first|exact List.Sublist.slnil|refine List.Sublist.cons_cons _ ?_|refine List.Sublist.cons _ ?_),List.Perm.refl _⟩ (⟨⟨_,s0g hx2,rfl⟩,_,hkd2,rfl⟩)
def AllX (bs:List (List UInt8))(k:Nat):Prop:= ∀i,i<k→(bs.getD i []).length≤900
instance (bs:List (List UInt8))(k:Nat):Decidable (AllX bs k):=by unfold AllX;infer_instance
theorem AllX.succ {bs:List (List UInt8)}{k:Nat}(h:AllX bs k)(h2:(bs.getD k []).length≤900):AllX bs (k+1):=by
 intro i hi
 by_cases e:i=k
 ·subst e;exact h2
 exact h i (by omega)
def u0y (bs:List (List UInt8)):Bool:=decide (AllX bs bs.length∧bs.length≤20)
theorem s0q (bs:List (List UInt8)):Sp Tryz.prog 20 [r0j bs] [] (Is (.val (.bool (u0y bs)))):=by
 refine yN Tryz.func20 _ Tryz.ntmps20 (fun w0 R0=> ?_)
 refine AW.g ?_
 refine G.lenRo (t:=0) rfl (fun hm1=> ?_)
 refine AW.u ?_
 unfold maxLen at hm1
 refine zD (zr ?_)
 refine zc (zI (zo (zD (zD (zr ?_)))))
 refine zb ?_
 refine zW ?_
 refine zb (zI (zo (xj ?_)))
 refine vD [(0,_),(5,_),(6,_)] (fun nn E H=> ∃(k:Nat),(k≤bs.length)∧(AllX bs k)∧nn=bs.length-k∧E= [(7,.val (.int .i64 (k:Int)))]∧H= []) _ (⟨0,by omega,(fun i hi=>absurd hi (by omega)),rfl,rfl,rfl⟩) ?_
 rintro nn E H ⟨k,h1,hA,rfl,rfl,rfl⟩
 dsimp only[cA,cN]
 refine zD (zr ?_)
 refine zP (zI (zo (zD ?_)))
 refine yk (fun h=> ?_) (fun h=> ?_)<;>(try simp only[vX]at h)
 ·have hk:k<bs.length:=by omega
  refine yX (zo (zD (xj (zD (zr ?_)))))
  refine z8 ?_
  refine vT (O.loadR rfl rfl (by exact e0P (by assumption) (by omega))) ?_
  refine zc (zI (zo (zD (zr ?_))))
  refine zb ?_
  refine vT (xH rfl Tryz.func53 rfl rfl rfl (e0Y _)) ?_
  refine xq (zI (zo ?_))
  refine yk (fun h2=> ?_) (fun h2=> ?_)<;>(try simp only[vX]at h2)
  ·have e:u0y bs=false:=decide_eq_false (fun hh=>by have h4:(vat bs k).length≤900:=hh.1 k hk;omega)
   refine zD (zr ?_)
   refine zc (zI (zo (xc ?_)))
   refine wi (xr ?_)
   refine AQ.loopR ?_
   refine wi (xr ?_)
   refine vu rfl rfl nS (⟨by rw[e];rfl,rfl⟩)
  have hA2:=hA.succ (show(vat bs k).length≤900 by omega)
  refine yX (xz (zo (zr ?_)))
  refine zA ?_
  refine zb (zI ?_)
  refine vl _ _ _ (by omega) (⟨k+1,by omega,hA2,rfl,rfl,rfl⟩)
 obtain rfl:k=bs.length:=by omega
 refine wb ?_
 refine xY ?_
 refine x3 ?_
 refine xx (zo (zD (zr ?_)))
 refine zb ?_
 refine zW ?_
 refine vN ?_
 refine zc (zI (zo (xc ?_)))
 refine vu rfl rfl nS (⟨by rw[u0y];simp[hA];omega,rfl⟩)
def q0z (m:Msg):List AV:= [.val (.int .i64 m.ty),.val (.int .i64 m.code),.val (.int .i64 m.id),roB m.tok,roO m.opts,roB m.pay]
theorem l0T (m:Msg):(q0z m).length=6:=rfl
def ms6 (ms:List Msg):List AV:=ms.flatMap q0z
def v0B (ms:List Msg):AV:= .ro false ms.length (ms6 ms)
abbrev q0o (ms:List Msg)(k:Nat):Msg:=ms.getD k Msg.none
theorem t0N {ms:List Msg}{k:Nat}(h:k<ms.length){j:Nat}(hj:j=k):((ms6 ms).drop (j*6)).take 6= [.val (.int .i64 (q0o ms k).ty),.val (.int .i64 (q0o ms k).code),.val (.int .i64 (q0o ms k).id),roB (q0o ms k).tok,roO (q0o ms k).opts,roB (q0o ms k).pay]:=f0O l0T Msg.none h hj
end Go.Proofs.YtojomcdjcpmnkaaGreat.By
namespace Go.Proofs.YtojomcdjcpmnkaaGreat.By
open Go.RowKit L A
attribute [local irreducible] AW AQ AO
abbrev o0n (c:Cx)(b:Bd)(piv:Int):Prop:=d0D c∧(piv= -1∨b0R piv)∧b0R b.piv∧b.kid.length≤7
def q0R (c:Cx)(b:Bd)(piv:Int):List UInt8×List UInt8:=if o0n c b piv then(c.sk,b0r c b c.inp.snd piv)else([],[])
abbrev w0a (r:List UInt8×List UInt8):AV:= .tup [roB r.1,roB r.2]
theorem q0Q {c:Cx}{b:Bd}{piv:Int}(h: ¬o0n c b piv):q0R c b piv=([],[]):=if_neg h
theorem m0h {c:Cx}{b:Bd}{piv:Int}(h:o0n c b piv):q0R c b piv=(c.sk,b0r c b c.inp.snd piv):=if_pos h
theorem i0Q {c:Cx}{b:Bd}{id:List UInt8}{piv:Int}(h:piv= -1):b0r c b id piv=(b0z c.com b.kid b.piv).1:=if_pos h
theorem i0P {c:Cx}{b:Bd}{id:List UInt8}{piv:Int}(h:piv≠ -1):b0r c b id piv=(b0z c.com id piv).1:=if_neg h
theorem i0w {c id:List UInt8}{piv:Int}(h1:c.length=13)(h2:id.length≤7)(h3:b0R piv):(b0z c id piv).2=0:=by
 rw[h0A (by omega) (by omega)]
theorem o0E (c:Cx)(b:Bd)(piv:Int):Sp Tryz.prog 30 [g0p c,g0j b,.val (.int .i64 piv)] [] (Is (w0a (q0R c b piv))):=by
 refine yN Tryz.func30 _ Tryz.ntmps30 (fun w0 R0=> ?_)
 refine zD (zr ?_)
 refine ye ?_
 intro B1
 refine ye ?_
 intro B2
 refine zc ?_
 refine zc (zI (zo (zD (zD (zr ?_)))))
 refine zC ?_
 refine vT (xH rfl Tryz.func28 rfl rfl rfl (e0p c)) ?_
 refine xq ?_
 refine zb ?_
 refine zM ?_
 refine zv 14 ?_
 refine AO.opG rfl rfl rfl (fun hp=>wW 15 rfl (by exact hp) (xH rfl Tryz.func64 rfl rfl rfl (j0r _))) ?_
 refine zE ?_
 refine zb ?_
 refine yt ?_
 refine AO.opG rfl rfl rfl (fun hp=>wW 19 rfl (by exact hp) yu) ?_
 refine zE ?_
 refine zb ?_
 refine yt ?_
 refine yp 23 ?_
 refine zE ?_
 refine zb ?_
 refine zM ?_
 refine zv 27 ?_
 refine yb 28 ?_
 refine yp 29 ?_
 refine zE (zI (zo ?_))
 refine yk (fun h1=> ?_) (fun h1=> ?_)<;>(try simp only[vX]at h1)
 ·rw[q0Q (fun g=>by
   obtain⟨g1,g2,g3,g4⟩:=g
   rcases h1 with(((h|h)|h)|h)|h
   ·exact h g1
   ·exact h g3
   ·omega
   ·omega
   omega)]
  refine zD (zr ?_)
  refine zc ?_
  refine zc (zI (zo (xc (xr ?_))))
  refine x8 yJ (Coe.tup (by(repeat(first|exact CoeL.nil|refine CoeL.cons Coe.nil ?_));done)) (⟨rfl,rfl⟩)
 have hok:o0n c b piv:=by
  obtain⟨⟨⟨⟨g1,g2⟩,g3⟩,g4⟩,g5⟩:=h1
  exact⟨g1,by omega,(by exact g2),by omega⟩
 rw[m0h hok]
 obtain⟨⟨⟨-,k6,k7,k8⟩,k9,k10,k11⟩,m1,m2,m3⟩:=hok
 have n1:(b0z c.com b.kid b.piv).2=0:=i0w k11 m3 m2
 refine yX (zo (zD (zr ?_)))
 refine zt ?_
 refine zn ?_
 refine zt ?_
 refine zy ?_
 refine zt ?_
 refine zy ?_
 refine vT (xH rfl Tryz.func66 rfl rfl rfl (d0N _ _ _ (by omega))) ?_
 refine zb ?_
 refine zO ?_
 refine zO ?_
 refine zc ?_
 refine zc (zI (zo (zD (zD (zr ?_)))))
 refine zb ?_
 refine ww (zI (zo ?_))
 refine yk (fun h2=> ?_) (fun h2=> ?_)<;>(try simp only[vX]at h2)
 ·have n2:(b0z c.com c.inp.snd piv).2=0:=i0w k11 k6 (by omega)
  rw[i0P (by omega)]
  refine zr ?_
  refine zt ?_
  refine zn ?_
  refine zt ?_
  refine zt ?_
  refine zn ?_
  refine zb ?_
  refine vT (xH rfl Tryz.func66 rfl rfl rfl (d0N _ _ _ (by omega))) ?_
  refine zb ?_
  refine zO ?_
  refine zO ?_
  refine zc ?_
  refine zc (zI (zo (zD (zD (zr ?_)))))
  refine zb ?_
  refine vT (O.neq rfl rfl rfl (by exact bne_eq_false_iff_eq.2 (by omega))) (zI (zo ?_))
  refine yk (fun h3=> ?_) (fun h3=> ?_)<;>(try simp only[vX]at h3)
  ·exact absurd h3 (by simp)
  refine yX (zo (zD (zr ?_)))
  refine zt ?_
  refine zn ?_
  refine vT (xH rfl Tryz.func69 rfl rfl rfl (a0s _ (by omega))) ?_
  refine zb ?_
  refine zc ?_
  refine zc (zI (zo (xc ?_)))
  refine xJ
 rw[i0Q (by omega)]
 refine yX (zo (zD (zD (zr ?_))))
 refine zb ?_
 refine vT (O.neq rfl rfl rfl (by exact bne_eq_false_iff_eq.2 (by omega))) (zI (zo ?_))
 refine yk (fun h3=> ?_) (fun h3=> ?_)<;>(try simp only[vX]at h3)
 ·exact absurd h3 (by simp)
 refine yX (zo (zD (zr ?_)))
 refine zt ?_
 refine zn ?_
 refine vT (xH rfl Tryz.func69 rfl rfl rfl (a0s _ (by omega))) ?_
 refine zb ?_
 refine zc ?_
 refine zc (zI (zo (xc ?_)))
 refine xJ
abbrev h0c (c:Cx)(b:Bd):Prop:=b.kid=c.inp.rcp∧b.ctx=c.inp.ctx∧b0R b.piv
def l0m (c:Cx)(b:Bd)(m:Msg)(piv:Int):Msg×Int:=l0r m (s0R piv) c.sk (b0r c b c.inp.snd piv) (h0Q b.kid b.piv).1
def d0P (c:Cx)(b:Bd)(m:Msg)(piv:Int):Msg×Int:=
 if ¬(d0D c∧64≤m.code)then(Msg.none,1)else if ¬h0c c b then(Msg.none,36)else if ¬(piv= -1∨b0R piv)then(Msg.none,8)else l0m c b m piv
theorem m0L {c:Cx}{b:Bd}{m:Msg}{piv:Int}(h: ¬(d0D c∧64≤m.code)):d0P c b m piv=(Msg.none,1):=if_pos h
theorem m0K {c:Cx}{b:Bd}{m:Msg}{piv:Int}(h:d0D c∧64≤m.code)(h2: ¬h0c c b):d0P c b m piv=(Msg.none,36):=(if_neg (fun g=>g h)).trans (if_pos h2)
theorem m0J {c:Cx}{b:Bd}{m:Msg}{piv:Int}(h:d0D c∧64≤m.code)(h2:h0c c b)(h3: ¬(piv= -1∨b0R piv)):d0P c b m piv=(Msg.none,8):=(if_neg (fun g=>g h)).trans ((if_neg (fun g=>g h2)).trans (if_pos h3))
theorem m0I {c:Cx}{b:Bd}{m:Msg}{piv:Int}(h:d0D c∧64≤m.code)(h2:h0c c b)(h3:piv= -1∨b0R piv):d0P c b m piv=l0m c b m piv:=(if_neg (fun g=>g h)).trans ((if_neg (fun g=>g h2)).trans (if_neg (fun g=>g h3)))
theorem i0s (c:Cx)(b:Bd)(m:Msg)(piv:Int):Sp Tryz.prog 46 [g0p c,g0j b,a0U m,.val (.int .i64 piv)] [] (Is (g0r (d0P c b m piv))):=by
 refine yN Tryz.func46 _ Tryz.ntmps46 (fun w0 R0=> ?_)
 refine zD (zr ?_)
 refine ye ?_
 intro B1
 refine ye ?_
 intro B2
 refine ye ?_
 intro B3
 refine zd ?_
 intro B4
 refine zc (zI (zo (zD (zD (zr ?_)))))
 refine zC ?_
 refine vT (xH rfl Tryz.func27 rfl rfl rfl (f0C c)) ?_
 refine xq ?_
 refine zb ?_
 refine zM ?_
 refine zX 16 ?_
 refine AO.opG rfl rfl rfl (fun hp=>wW 17 rfl (by exact hp) (xH rfl Tryz.func91 rfl rfl rfl (k0A _))) ?_
 refine yZ 18 ?_
 refine zE (zI (zo ?_))
 refine yk (fun h1=> ?_) (fun h1=> ?_)<;>(try simp only[vX]at h1)
 ·rw[m0L (fun g=>by rcases h1 with h|h;exact h g.1;omega)]
  refine zD (zr ?_)
  refine zN ?_
  refine za 0 ?_
  refine zc (zI (zo (xc (xr ?_))))
  refine x8 zT zj (⟨rfl,rfl⟩)
 have h1':d0D c∧64≤m.code:=h1
 obtain⟨-,k9,k10,k11⟩:=h1'.1
 refine yX (zo (zD (zD (zr ?_))))
 refine zt ?_
 refine zn ?_
 refine zt ?_
 refine zt ?_
 refine zn ?_
 refine vT (xH rfl Tryz.func92 rfl rfl rfl (f0a _ _)) ?_
 refine xq ?_
 refine zb ?_
 refine zM ?_
 refine zX 30 ?_
 refine zM ?_
 refine AO.opG rfl rfl rfl (fun hp=>wW 32 rfl (by exact hp) zw) ?_
 refine zX 33 ?_
 refine AO.opG rfl rfl rfl (fun hp=>wW 31 rfl (by exact hp) (wW 34 rfl (by exact hp) (xH rfl Tryz.func92 rfl rfl rfl (f0a _ _)))) ?_
 refine yZ 35 ?_
 refine zE ?_
 refine zb ?_
 refine zM ?_
 refine zX 39 ?_
 refine AO.opG rfl rfl rfl (fun hp=>wW 40 rfl (by exact hp) (xH rfl Tryz.func58 rfl rfl rfl (h0w _))) ?_
 refine yZ 41 ?_
 refine zE (zI (zo ?_))
 refine yk (fun h2=> ?_) (fun h2=> ?_)<;>(try simp only[vX]at h2)
 ·rw[m0K h1' (fun g=>by
   obtain⟨g1,g2,g3⟩:=g
   rcases h2 with(h|h)|h
   ·exact h g1
   ·exact h g2
   exact h g3)]
  refine zD (zr ?_)
  refine zN ?_
  refine za 0 ?_
  refine zc (zI (zo (xc (xr ?_))))
  refine x8 zT zj (⟨rfl,rfl⟩)
 have h2':h0c c b:=⟨h2.1.1,h2.1.2,h2.2⟩
 refine yX (zo (zD (zD (zr ?_))))
 refine zb ?_
 refine y1 ?_
 refine zb ?_
 refine yt ?_
 refine AO.opG rfl rfl rfl (fun hp=>wW 48 rfl (by exact hp) (xH rfl Tryz.func58 rfl rfl rfl (h0w _))) ?_
 refine yZ 49 ?_
 refine zV (zI (zo ?_))
 refine yk (fun h3=> ?_) (fun h3=> ?_)<;>(try simp only[vX]at h3)
 ·rw[m0J h1' h2' (fun g=>g.elim (fun g=>h3.1 g) (fun g=>h3.2 g))]
  refine zD (zr ?_)
  refine zN ?_
  refine za 0 ?_
  refine zc (zI (zo (xc (xr ?_))))
  refine x8 zT zj (⟨rfl,rfl⟩)
 have h3':piv= -1∨b0R piv:=by
  by_cases e:piv= -1
  ·exact .inl e
  exact .inr (h3 e)
 rw[m0I h1' h2' h3']
 have hal:=e0e b.kid b.piv
 have hpr:Sp Tryz.prog 61 [g0p c,a0U m,o0l (s0R piv),roB (b0r c b c.inp.snd piv),roB (h0Q b.kid b.piv).1] [] (Is (g0r (l0m c b m piv))):=g0I c m _ _ _ (q0N h3') (by omega)
 refine yX (zo (zD (zr ?_)))
 refine zt ?_
 refine zn ?_
 refine zt ?_
 refine zn ?_
 refine vT (xH rfl Tryz.func60 rfl rfl rfl (j0O _ _)) ?_
 refine zb ?_
 refine zO ?_
 refine zO ?_
 refine zc ?_
 refine zc (zI (zo (zD ?_)))
 refine yw 16 ?_
 simp only[cT,cZ,cD,cO]
 refine wT ?_
 refine wT ?_
 refine zG ?_
 refine xQ ?_
 refine wT ?_
 refine wT ?_
 refine yr ?_
 refine yr ?_
 refine zL ?_
 refine vS (xH rfl Tryz.func78 rfl rfl rfl (i0O c b c.inp.snd)) ?_
 refine zG ?_
 refine vS (O.callV rfl rfl Tryz.func131 rfl rfl rfl (g0W c b c.inp.snd piv (by omega))) ?_
 refine zG ?_
 refine vS (wg rfl Tryz.func61 rfl rfl rfl hpr) ?_
 refine vS yy ?_
 refine vS yy ?_
 refine wZ ?_
 simp only[a0f,cN,cA,cP]
 refine za 0 ?_
 refine zc (zI (zo (xc ?_)))
 refine AQ.retCT rfl rfl rfl (by repeat(exact List.Mem.head _)) (by rfl) rfl nS (⟨rfl,rfl⟩)
theorem t0b (n:Int):rs n=decide (64≤n):=rfl
theorem i0b (c:Cx)(b:Bd)(m:Msg)(piv:Int)(hrs:Sp Tryz.prog 83 [.val (.int .i64 m.code)] [] (Is (.val (.bool (decide (64≤m.code)))))):Sp Tryz.prog 35 [g0p c,g0j b,a0U m,.val (.int .i64 piv)] [] (Is (g0r (d0P c b m piv))):=by
 refine yN Tryz.func35 _ Tryz.ntmps35 (fun w0 R0=> ?_)
 refine zD (zr ?_)
 refine ye ?_
 intro B1
 refine ye ?_
 intro B2
 refine ye ?_
 intro B3
 refine zd ?_
 intro B4
 refine zc (zI (zo (zD (xj (zD (zr ?_))))))
 refine zC ?_
 refine vT (xH rfl Tryz.func28 rfl rfl rfl (e0p c)) ?_
 refine xq ?_
 refine zb ?_
 refine zM ?_
 refine zX 22 ?_
 refine AO.opG rfl rfl rfl (fun hp=>wW 23 rfl (by exact hp) (xH rfl Tryz.func83 rfl rfl rfl hrs)) ?_
 refine yZ 24 ?_
 refine zE ?_
 refine zc (zI (zo ?_))
 refine yk (fun h1=> ?_) (fun h1=> ?_)<;>(try simp only[vX]at h1)
 ·rw[m0L (fun g=>by rcases h1 with h|h;exact h g.1;omega)]
  refine zD (zr ?_)
  refine zN ?_
  refine za 0 ?_
  refine zc (zI (zo (xc ?_)))
  refine wi (xr ?_)
  refine x8 zT zj (⟨rfl,rfl⟩)
 have h1':d0D c∧64≤m.code:=h1
 obtain⟨⟨⟨q1,q2,q3,q4,q5⟩,k6,k7,k8⟩,k9,k10,k11⟩:=h1'.1
 refine zD (zr ?_)
 refine zt ?_
 refine zn ?_
 refine zt ?_
 refine zt ?_
 refine zn ?_
 refine vT (xH rfl Tryz.func31 rfl rfl rfl (b0S _ _)) ?_
 refine xq ?_
 refine zb ?_
 refine zM ?_
 refine zX 37 ?_
 refine zM ?_
 refine AO.opG rfl rfl rfl (fun hp=>wW 39 rfl (by exact hp) zw) ?_
 refine zX 40 ?_
 refine AO.opG rfl rfl rfl (fun hp=>wW 38 rfl (by exact hp) (wW 41 rfl (by exact hp) (xH rfl Tryz.func31 rfl rfl rfl (b0S _ _)))) ?_
 refine yZ 42 ?_
 refine zE ?_
 refine zb ?_
 refine zM ?_
 refine zX 46 ?_
 refine AO.opG rfl rfl rfl (fun hp=>wW 47 rfl (by exact hp) (xH rfl Tryz.func64 rfl rfl rfl (j0r _))) ?_
 refine zE ?_
 refine zc (zI (zo ?_))
 refine yk (fun h2=> ?_) (fun h2=> ?_)<;>(try simp only[vX]at h2)
 ·rw[m0K h1' (fun g=>by
   obtain⟨g1,g2,g3⟩:=g
   rcases h2 with(h|h)|h
   ·exact h g1
   ·exact h g2
   exact h g3)]
  refine zD (zr ?_)
  refine zN ?_
  refine za 0 ?_
  refine zc (zI (zo (xc ?_)))
  refine wi (xr ?_)
  refine x8 zT zj (⟨rfl,rfl⟩)
 have h2':h0c c b:=⟨h2.1.1,h2.1.2,(by exact h2.2)⟩
 refine zD (zr ?_)
 refine zb ?_
 refine zP ?_
 refine zb ?_
 refine yt ?_
 refine yp 55 ?_
 refine zE ?_
 refine zc (zI (zo ?_))
 refine yk (fun h3=> ?_) (fun h3=> ?_)<;>(try simp only[vX]at h3)
 ·rw[m0J h1' h2' (fun g=>by omega)]
  refine zD (zr ?_)
  refine zN ?_
  refine za 0 ?_
  refine zc (zI (zo (xc ?_)))
  refine wi (xr ?_)
  refine x8 zT zj (⟨rfl,rfl⟩)
 have h3':piv= -1∨b0R piv:=by omega
 rw[m0I h1' h2' h3']
 have hal:=e0e b.kid b.piv
 have huo:o0n c b piv:=⟨h1'.1,h3',h2'.2.2,by rw[h2'.1];omega⟩
 have hus:Sp Tryz.prog 30 [g0p c,g0j b,.val (.int .i64 piv)] [] (Is (.tup [roB c.sk,roB (b0r c b c.inp.snd piv)])):=by
  have h:=o0E c b piv
  rw[m0h huo]at h
  exact h
 refine yX (xz (zo (zD (zr ?_))))
 refine zC ?_
 refine vT (xH rfl Tryz.func65 rfl rfl rfl (m0C m)) ?_
 refine zb ?_
 refine zO ?_
 refine zO ?_
 refine zO ?_
 refine zd ?_
 intro B5
 refine zd ?_
 intro B6
 refine za 1 ?_
 refine za 0 ?_
 refine zc (zI (zo (zD (zD (zr ?_)))))
 refine zb ?_
 refine y1 (zI (zo ?_))
 refine yk (fun h0=> ?_) (fun h0=> ?_)<;>(try simp only[vX]at h0)
 ·rw[show l0m c b m piv=(Msg.none,(a0u m).2.2)from j0t h0]
  refine zD (zr ?_)
  refine zN ?_
  refine zb ?_
  refine za 2 ?_
  refine zc (zI (zo (xc (xr ?_))))
  refine x8 zm zj (⟨rfl,rfl⟩)
 have hsl:Sp Tryz.prog 68 [a0U (a0u m).2.1,a0U (a0u m).1,o0l (s0R piv),roB c.sk,roB (b0r c b c.inp.snd piv),roB (h0Q b.kid b.piv).1] [] (Is (g0r (l0m c b m piv))):=by
  rw[show l0m c b m piv=h0m (a0u m).2.1 (a0u m).1 (s0R piv) c.sk (b0r c b c.inp.snd piv) (h0Q b.kid b.piv).1 from h0p h0]
  exact m0z _ _ _ _ _ _ (k0g m) (by omega)
 refine yX (zo (zD (zr ?_)))
 refine zC ?_
 refine zC ?_
 refine zb ?_
 refine vT (xH rfl Tryz.func30 rfl rfl rfl hus) ?_
 refine zb ?_
 refine zO ?_
 refine zO ?_
 refine zc ?_
 refine zc (zI (zo (zD (zr ?_))))
 refine zt ?_
 refine zn ?_
 refine zt ?_
 refine zn ?_
 refine vT (xH rfl Tryz.func67 rfl rfl rfl (j0s _ _)) ?_
 refine zb ?_
 refine zO ?_
 refine zO ?_
 refine zc ?_
 refine zc (zI (zo (zD (zr ?_))))
 refine zB ?_
 refine zC ?_
 refine zb ?_
 refine zN ?_
 refine zb ?_
 refine zb ?_
 refine zb ?_
 refine vT (wg rfl Tryz.func68 rfl rfl rfl hsl) ?_
 refine zO ?_
 refine zO ?_
 refine za 2 ?_
 refine zc (zI (zo (xc ?_)))
 refine AQ.retCT rfl rfl rfl mM (by rfl) rfl nS (⟨rfl,rfl⟩)
def h0q (os:List Opt)(n:Int):Nat→Nat
 |0=>0
 |i+1=>if n<(oat os i).num then h0q os n i else i+1
theorem n0a (os:List Opt)(n:Int): ∀i,h0q os n i≤i
 |0=>Nat.le_refl _
 |i+1=>by
  rw[h0q]
  split
  ·have:=n0a os n i;omega
  exact Nat.le_refl _
def c0N (os:List Opt)(o:Opt):List Opt:=os.take (h0q os o.num os.length)++([o]++os.drop (h0q os o.num os.length))
theorem b0a (os:List Opt)(o:Opt):(c0N os o).length=os.length+1:=by
 have:=n0a os o.num os.length
 simp only[c0N,cH,List.length_take,List.length_drop,cL,cE];omega
def b0N (l:List Opt):List Opt:=l.foldl c0N []
theorem f0J (l:List Opt)(o:Opt):b0N (l++[o])=c0N (b0N l) o:=by unfold b0N;rw[List.foldl_append];rfl
theorem e0x (l:List Opt):(b0N l).length=l.length:=by
 have: ∀(l:List Opt) (a:List Opt),(l.foldl c0N a).length=a.length+l.length:=by
  intro l
  induction l with
  |nil=>intro a;simp
  |cons o l ih=>intro a;rw[List.foldl_cons,ih,b0a,cL];omega
 have:=this l []
 rw[b0N,this];simp
def jo (o:Opt):Bool:=decide (cls o.num=2)&&decide (o.num≠9)
def g0n (os:List Opt):List Opt:=os.filter jo
theorem i0q (os:List Opt)(o:Opt):g0n (os++[o])=if cls o.num=2∧o.num≠9 then g0n os++[o]else g0n os:=by
 unfold g0n
 rw[List.filter_append]
 by_cases h:cls o.num=2∧o.num≠9
 ·rw[if_pos h];simp[jo,h.1,h.2]
 rw[if_neg h,List.filter_cons_of_neg (by unfold jo;simpa using h)];simp
theorem h0u (os:List Opt):(g0n os).length≤os.length:=List.length_filter_le _ _
def p0N (os:List Opt):Bool:=os.any fun o=>decide (cls o.num=2)
def c0l (outer inner:Msg):Msg×Int:=
 if rq inner.code=true∨rs inner.code=true then
  (if rq inner.code=rq outer.code∧rs inner.code=rs outer.code then
   (if p0N inner.opts=true then(Msg.none,4)else(⟨outer.ty,inner.code,outer.id,outer.tok,b0N (inner.opts++g0n outer.opts),inner.pay⟩,0))
  else(Msg.none,18))
 else(Msg.none,1)
abbrev u0R (r:Msg×Int):AV:= .tup [a0U r.1,.val (.int .i64 r.2)]
theorem i0d {r:Msg×Int}{a:Msg}{e:Int}(h:r=(a,e)):Is (u0R r) (.tup [a0U a,.val (.int .i64 e)]) []:=by rw[h];exact⟨rfl,rfl⟩
def l0Y (m:Msg):Prop:=m.tok.length≤140737488355328∧m.pay.length≤140737488355328∧m.opts.length≤100000∧ ∀k,k<m.opts.length→(oat m.opts k).val.length≤140737488355328
theorem l0v (os:List Opt)(n:Nat):(a0x os).take (n*2)=a0x (os.take n):=i0B b0T os n
theorem l0w (os:List Opt)(n:Nat):(a0x os).drop (n*2)=a0x (os.drop n):=f0N b0T os n
theorem c0C {xs:List AV}(h:xs.all AV.one=true)(a b:Nat):((xs.drop a).take b).all AV.one=true:=by
 rw[List.all_eq_true]at h⊢
 exact fun x hx=>h x (List.mem_of_mem_drop (List.mem_of_mem_take hx))
theorem CoeL.of_eq {xs ys:List AV}(h:xs=ys):CoeL xs ys:=h▸CoeL.refl
theorem c0X {os:List Opt}{o:Opt}{p a b c:Nat}(hp:p=h0q os o.num os.length)(ha:a=p*2)(hb:b=(os.length-p)*2)(hc:c=p*2):
  (a0x os).take a++(.val (.int .i64 o.num)::roB o.val::((a0x os).drop c).take b)=a0x (c0N os o):=by
 subst ha
 subst hb
 subst hc
 rw[c0N,←hp,f0D,f0D,←l0v,←l0w,List.take_of_length_le (l:=(a0x os).drop (p*2)) (by rw[List.length_drop,n0j];omega)]
 rfl
theorem g0Q {os:List Opt}{o:Opt}{p a:Nat}(hp:p=h0q os o.num os.length)(ha:a=p*2)(hb:p=os.length):
  (a0x os).take a++[.val (.int .i64 o.num),roB o.val]=a0x (c0N os o):=by
 have:=c0X (b:=0) (c:=p*2) hp ha (by omega) rfl
 simpa using this
set_option maxHeartbeats 8000000 in
theorem s0b (outer inner:Msg)(ho:l0Y outer)(hi:l0Y inner):Sp Tryz.prog 141 [a0U outer,a0U inner] [] (Is (u0R (c0l outer inner))):=by
 obtain⟨a1,a2,a3,a4⟩:=ho
 obtain⟨b1,b2,b3,b4⟩:=hi
 refine yN Tryz.func141 _ Tryz.ntmps141 (fun w0 R0=> ?_)
 refine zD (zr ?_)
 refine ye ?_
 intro B1
 refine ye ?_
 intro B2
 refine yg ?_
 intro B3
 refine zc (zI (zo (zD (zD (zr ?_)))))
 refine zt ?_
 refine zn ?_
 refine vT (xH rfl Tryz.func152 rfl rfl rfl (c0R inner.code)) ?_
 refine xq ?_
 refine zb ?_
 refine zM ?_
 refine zX 20 ?_
 refine AO.opG rfl rfl rfl (fun hp=>wW 21 rfl (by exact hp) (xH rfl Tryz.func153 rfl rfl rfl (c0w inner.code))) ?_
 refine yZ 22 ?_
 refine zV (zI (zo ?_))
 refine yk (fun h=> ?_) (fun h=> ?_)<;>(try simp only[vX]at h)
 ·have e:c0l outer inner=(Msg.none,1):=if_neg (by rw[h.1,h.2];simp)
  refine zD (zr ?_)
  refine zN ?_
  refine zp 0 ?_
  refine zc (zI (zo (xc (xr ?_))))
  refine x8 (AQ.retCT rfl rfl rfl (by repeat(exact List.Mem.head _)) (by(dsimp only[List.set,List.append,cA,cN,a0r,a0q,a0w,a0d,a0n,AV.cells,List.map,List.map_cons,List.map_nil,List.take,List.drop,Nat.zero_add,Nat.add_zero,Nat.reduceAdd,Nat.reduceMul,Nat.zero_mul,Value.cells,List.toList_toArray,a0p,List.replicate,List.flatten,cP];done)) (by rfl) nS ⟨rfl,rfl⟩) zj (i0d e)
 have hc:rq inner.code=true∨rs inner.code=true:=by cases hq:rq inner.code<;>simp_all
 refine yX (zo (zD (zD ?_)))
 refine yw 16 ?_
 simp only[cT,cZ,cD,cO]
 refine yr ?_
 refine zL ?_
 refine vS (xH rfl Tryz.func152 rfl rfl rfl (c0R inner.code)) ?_
 refine yr ?_
 refine zL ?_
 refine vS (xH rfl Tryz.func152 rfl rfl rfl (c0R outer.code)) ?_
 refine vS (O.neqB rfl rfl rfl (by rfl)) ?_
 refine zG ?_
 refine wq ?_
 refine FA.opG rfl rfl rfl rfl (fun hp=>xE 34 rfl (by exact hp)) ?_
 refine FA.opG rfl rfl rfl rfl (fun hp=>wW 35 rfl (by exact hp) (xH rfl Tryz.func153 rfl rfl rfl (c0w inner.code))) ?_
 refine wq ?_
 refine FA.opG rfl rfl rfl rfl (fun hp=>xE 37 rfl (by exact hp)) ?_
 refine FA.opG rfl rfl rfl rfl (fun hp=>wW 38 rfl (by exact hp) (xH rfl Tryz.func153 rfl rfl rfl (c0w outer.code))) ?_
 refine FA.opG rfl rfl rfl rfl (fun hp=>wW 36 rfl (by exact hp) (wW 39 rfl (by exact hp) (O.neqB rfl rfl rfl (by rfl)))) ?_
 refine vS zK ?_
 refine wZ ?_
 simp only[a0f,cN,cA,cP]
 refine zI (zo ?_)
 refine yk (fun hm=> ?_) (fun hm=> ?_)<;>(try simp only[vX]at hm)
 ·have e:c0l outer inner=(Msg.none,18):=by
   rw[c0l,if_pos hc,if_neg]
   rintro⟨k1,k2⟩
   rw[k1,k2]at hm
   simp at hm
  refine zD (zr ?_)
  refine zN ?_
  refine zp 0 ?_
  refine zc (zI (zo (xc (xr ?_))))
  refine x8 (AQ.retCT rfl rfl rfl (by repeat(exact List.Mem.head _)) (by(dsimp only[List.set,List.append,cA,cN,a0r,a0q,a0w,a0d,a0n,AV.cells,List.map,List.map_cons,List.map_nil,List.take,List.drop,Nat.zero_add,Nat.add_zero,Nat.reduceAdd,Nat.reduceMul,Nat.zero_mul,Value.cells,List.toList_toArray,a0p,List.replicate,List.flatten,cP];done)) (by rfl) nS ⟨rfl,rfl⟩) zj (i0d e)
 have hm2:rq inner.code=rq outer.code∧rs inner.code=rs outer.code:=by simpa using hm
 refine yX (zo (zD ?_))
 refine yw 14 ?_
 simp only[cT,cZ,cD,cO]
 refine yr ?_
 refine zL ?_
 refine yr ?_
 refine zL ?_
 refine yr ?_
 refine zL ?_
 refine xZ ?_
 refine yr ?_
 refine zL ?_
 refine yr ?_
 refine zL ?_
 refine xZ ?_
 refine xQ ?_
 refine FA.opN ya rfl rfl rfl rfl ?_
 refine wZ ?_
 simp only[a0f,cN,cA,cP]
 rintro _ _ ⟨B4,rfl,rfl⟩
 simp only[cA,cN]
 refine zp 0 (zI (zo (zD (zr ?_))))
 refine zc (zI (zo (zD (zD (zr ?_)))))
 refine zt ?_
 refine zn ?_
 refine zW ?_
 refine zb (zI (zo (xj ?_)))
 refine AW.g ?_
 refine G.nilRow 96 2 ?_
 refine AW.u ?_
 refine xK [(2,_),(4,_),(6,_),(57,_),(58,_)] (fun nn E H=> ∃(k:Nat) (V:Value),(k≤inner.opts.length)∧(V.oneCell'=true)∧(p0N (inner.opts.take k)=false)∧nn=inner.opts.length-k∧E= [(7,.val V),(59,.val (.int .i64 (k:Int)))]∧H= [.row V 96 2 (inner.opts.take k).length (a0x (inner.opts.take k)),.blk B4 29 6 [.val (.int .i64 outer.ty),.val (.int .i64 inner.code),.val (.int .i64 outer.id),roB outer.tok,.val (.slice none 0 0),roB inner.pay],.blk B3 29 6 [.val (.int .i64 0),.val (.int .i64 0),.val (.int .i64 0),.val (.slice none 0 0),.val (.slice none 0 0),.val (.slice none 0 0)],.blk B1 29 6 [.val (.int .i64 outer.ty),.val (.int .i64 outer.code),.val (.int .i64 outer.id),roB outer.tok,roO outer.opts,roB outer.pay]]) _ (⟨0,_,by omega,rfl,rfl,rfl,rfl,rfl⟩) ?_
 rintro nn E H ⟨k,V,hk,hV,hb,rfl,rfl,rfl⟩
 dsimp only[cA,cN]
 have hlk:(inner.opts.take k).length=k:=by rw[List.length_take];omega
 refine zD (zr ?_)
 refine zP (zI (zo (zD ?_)))
 refine yk (fun h2=> ?_) (fun h2=> ?_)<;>(try simp only[vX]at h2)
 ·have hkk:k<inner.opts.length:=by omega
  have hv4:=b4 k hkk
  have hts:inner.opts.take (k+1)=inner.opts.take k++[oat inner.opts k]:=a0g Opt.none hkk
  refine yX (zo (zD (xj (zD (zr ?_)))))
  refine z8 ?_
  refine yU ?_
  refine yg ?_
  intro B5
  refine zp 0 (zI (zo (zD (zD (zr ?_)))))
  refine zt ?_
  refine zy ?_
  refine vT (xH rfl Tryz.func154 rfl rfl rfl (h0K _)) ?_
  refine z9 (zI (zo ?_))
  refine yk (fun h3=> ?_) (fun h3=> ?_)<;>(try simp only[vX]at h3)
  ·have e:c0l outer inner=(Msg.none,4):=by
    rw[c0l,if_pos hc,if_pos hm2,if_pos]
    exact List.any_eq_true.2 ⟨oat inner.opts k,b0f _ hkk,by simpa using h3⟩
   refine zD (zr ?_)
   refine zN ?_
   refine zp 3 ?_
   refine zc (zI (zo (xc (xr ?_))))
   refine wi (xr ?_)
   refine AQ.loopR ?_
   refine wi (xr ?_)
   refine x8 vQ zj (i0d e)
  have hb':p0N (inner.opts.take (k+1))=false:=by
   rw[hts];unfold p0N at hb⊢;rw[List.any_append,hb];simp only[List.any_cons,List.any_nil,Bool.false_or,Bool.or_false];exact decide_eq_false h3
  refine yX (zo (zr ?_))
  refine zb ?_
  refine y3 ?_
  refine vT (xH rfl Tryz.func155 rfl rfl rfl (d0Y (oat inner.opts k) hv4)) ?_
  refine zQ ?_
  intro B6
  refine AO.g ?_
  refine yc 0 71 ?_
  refine wd 71 ?_
  refine AO.u ?_
  dsimp only[List.eraseIdx]
  refine y2 1 ?_
  intro V7 hV7
  refine zc (zI (xz (zo (zr ?_))))
  refine zA ?_
  refine zb (zI ?_)
  refine zJ _ _ _ (by omega) (⟨k+1,_,by omega,‹_›,hb',rfl,rfl,by rw[hts,a0y,cH]⟩)
 obtain rfl:k=inner.opts.length:=by omega
 rw[List.take_length]at hb⊢
 have hnc: ¬p0N inner.opts=true:=by rw[hb];simp
 have e:c0l outer inner=(⟨outer.ty,inner.code,outer.id,outer.tok,b0N (inner.opts++g0n outer.opts),inner.pay⟩,0):=by rw[c0l,if_pos hc,if_pos hm2,if_neg hnc]
 refine wb ?_
 refine xY ?_
 refine x3 ?_
 refine xx (zo (zD (zD (zr ?_))))
 refine zt ?_
 refine zn ?_
 refine zW ?_
 refine zb (zI (zo (xj ?_)))
 refine zh [(4,_),(6,_),(75,_),(76,_)] (fun nn E H=> ∃(k:Nat) (V:Value),(k≤outer.opts.length)∧(V.oneCell'=true)∧nn=outer.opts.length-k∧E= [(7,.val V),(77,.val (.int .i64 (k:Int)))]∧H= [.row V 96 2 (inner.opts++g0n (outer.opts.take k)).length (a0x (inner.opts++g0n (outer.opts.take k))),.blk B4 29 6 [.val (.int .i64 outer.ty),.val (.int .i64 inner.code),.val (.int .i64 outer.id),roB outer.tok,.val (.slice none 0 0),roB inner.pay],.blk B3 29 6 [.val (.int .i64 0),.val (.int .i64 0),.val (.int .i64 0),.val (.slice none 0 0),.val (.slice none 0 0),.val (.slice none 0 0)]]) _ (⟨0,V,by omega,hV,rfl,rfl,by rw[show inner.opts++g0n (outer.opts.take 0)=inner.opts by simp[g0n]]⟩) ?_
 rintro nn E H ⟨k,V,hk,hV,rfl,rfl,rfl⟩
 dsimp only[cA,cN]
 have hl2:=h0u (outer.opts.take k)
 rw[List.length_take]at hl2
 have hl3:(inner.opts++g0n (outer.opts.take k)).length=inner.opts.length+(g0n (outer.opts.take k)).length:=List.length_append
 refine zD (zr ?_)
 refine zP (zI (zo (zD ?_)))
 refine yk (fun h4=> ?_) (fun h4=> ?_)<;>(try simp only[vX]at h4)
 ·have hkk:k<outer.opts.length:=by omega
  have hv4:=a4 k hkk
  have hsc:=i0q (outer.opts.take k) (oat outer.opts k)
  rw[←a0g Opt.none hkk]at hsc
  refine yX (zo (zD (xj (zD (zr ?_)))))
  refine z8 ?_
  refine yU ?_
  refine yg ?_
  intro B8
  refine zp 0 (zI (zo (zD (zr ?_))))
  refine zt ?_
  refine zy ?_
  refine vT (xH rfl Tryz.func154 rfl rfl rfl (h0K _)) ?_
  refine z9 ?_
  refine zb ?_
  refine zM ?_
  refine zv 86 ?_
  refine xS 87 ?_
  refine zV (zI (zo ?_))
  refine yk (fun h5=> ?_) (fun h5=> ?_)<;>(try simp only[vX]at h5)
  ·rw[if_pos h5,]at hsc
   refine zr ?_
   refine zb ?_
   refine y3 ?_
   refine vT (xH rfl Tryz.func155 rfl rfl rfl (d0Y (oat outer.opts k) hv4)) ?_
   refine zQ ?_
   intro B9
   refine AO.g ?_
   refine yc 0 93 ?_
   refine wd 93 ?_
   refine AO.u ?_
   dsimp only[List.eraseIdx]
   refine y2 1 ?_
   intro V10 hV10
   refine zc (zI (xz (zo (zr ?_))))
   refine zA ?_
   refine zb (zI ?_)
   refine zJ _ _ _ (by omega) (⟨k+1,_,by omega,‹_›,rfl,rfl,by rw[hsc,←List.append_assoc,a0y,List.length_append (bs:= [_])]⟩)
  rw[if_neg (fun hh=>hh.2 (h5 hh.1))]at hsc
  refine yX (xz (zo (zr ?_)))
  refine zA ?_
  refine zb (zI ?_)
  refine zJ _ _ _ (by omega) (⟨k+1,V,by omega,hV,rfl,rfl,by rw[hsc]⟩)
 obtain rfl:k=outer.opts.length:=by omega
 rw[List.take_length]at hl2 hl3⊢
 refine AW.g ?_
 refine yf 0 [7] ?_
 refine AW.u ?_
 try dsimp only[List.map,List.eraseIdx,cA,cN]
 refine wb ?_
 refine xY ?_
 refine x3 ?_
 refine xx (zo (zD (zD (zr ?_))))
 refine zb ?_
 refine zW ?_
 refine zb (zI (zo (xj ?_)))
 obtain⟨L,hL⟩: ∃L,L=inner.opts++g0n outer.opts:=⟨_,rfl⟩
 rw[←hL]at hl3 e⊢
 refine AW.g ?_
 refine G.nilRow 96 2 ?_
 refine AW.u ?_
 refine zh [(4,_),(6,_),(96,_),(97,_)] (fun nn E H=> ∃(k:Nat) (os:List Opt) (V:Value),(k≤L.length)∧(os=b0N (L.take k))∧(V.oneCell'=true)∧(os= []→V= .slice none 0 0)∧nn=L.length-k∧E= [(98,.val (.int .i64 (k:Int)))]∧H= [.row V 96 2 (os).length (a0x (os)),.blk B4 29 6 [.val (.int .i64 outer.ty),.val (.int .i64 inner.code),.val (.int .i64 outer.id),roB outer.tok,.val V,roB inner.pay],.blk B3 29 6 [.val (.int .i64 0),.val (.int .i64 0),.val (.int .i64 0),.val (.slice none 0 0),.val (.slice none 0 0),.val (.slice none 0 0)]]) _ (⟨0,[],_,by omega,rfl,rfl,fun _=>rfl,rfl,rfl,rfl⟩) ?_
 rintro nn E H ⟨k,os,V,hk,hos,hV,h0,rfl,rfl,rfl⟩
 dsimp only[cA,cN]
 have hosl:os.length=k:=by rw[hos,e0x,List.length_take];omega
 refine zD (zr ?_)
 refine zP (zI (zo (zD ?_)))
 refine yk (fun h6=> ?_) (fun h6=> ?_)<;>(try simp only[vX]at h6)
 ·have hkk:k<L.length:=by omega
  have hsc:b0N (L.take (k+1))=c0N os (oat L k):=by rw[a0g Opt.none hkk,f0J,hos]
  rcases Nat.eq_zero_or_pos os.length with hz|hz
  ·obtain rfl:os= []:=List.eq_nil_of_length_eq_zero hz
   obtain rfl:=h0 rfl
   refine yX (zo (zD (xj (zD (zr ?_)))))
   refine z8 ?_
   refine yU ?_
   refine yg ?_
   intro B11
   refine zp 0 (zI (zo (zD (zr ?_))))
   refine zt ?_
   refine zn ?_
   refine vT (O.lenV rfl rfl) ?_
   refine zc (zI (zo (zD (xj ?_))))
   refine zh [(4,_),(6,_),(13,_),(96,_),(97,_),(98,_)] (fun nn E H=> ∃(i:Nat),(i=0)∧i=nn∧E= [(14,.val (.int .i64 (i:Int)))]∧H= [.blk B11 96 2 [.val (.int .i64 (oat L k).num),roB (oat L k).val],.row (.slice none 0 0) 96 2 0 [],.blk B4 29 6 [.val (.int .i64 outer.ty),.val (.int .i64 inner.code),.val (.int .i64 outer.id),roB outer.tok,.val (.slice none 0 0),roB inner.pay],.blk B3 29 6 [.val (.int .i64 0),.val (.int .i64 0),.val (.int .i64 0),.val (.slice none 0 0),.val (.slice none 0 0),.val (.slice none 0 0)]]) _ (⟨0,rfl,rfl,rfl,rfl⟩) ?_
   rintro nn E H ⟨i,hi,rfl,rfl,rfl⟩
   dsimp only[cA,cN]
   subst hi
   refine zD (zD ?_)
   refine yw 14 ?_
   simp only[cT,cZ,cD,cO]
   refine zG ?_
   refine vS (O.gtr rfl rfl rfl (by exact e0d (by omega))) ?_
   refine zG ?_
   refine wq ?_
   refine FA.opG rfl rfl rfl rfl (fun hp=>xE 108 rfl (by exact hp)) ?_
   refine FA.opG rfl rfl rfl rfl (fun hp=>zg) ?_
   refine FA.opG rfl rfl rfl rfl (fun hp=>vK 110 rfl (by exact hp)) ?_
   refine FA.no rfl rfl rfl rfl ?_
   refine FA.no rfl rfl rfl rfl ?_
   refine FA.no rfl rfl rfl rfl ?_
   refine wq ?_
   refine FA.opG rfl rfl rfl rfl (fun hp=>wW 115 rfl (by exact hp) zk) ?_
   refine FA.no rfl rfl rfl rfl ?_
   refine vS (O.pickF rfl rfl rfl) ?_
   refine wZ ?_
   simp only[a0f,cN,cA,cP]
   refine zI (zo ?_)
   refine yk (fun hq=> ?_) (fun hq=> ?_)
   ·simp at hq
   refine wb ?_
   refine xY ?_
   refine x3 ?_
   refine xx (zo ?_)
   refine vm [[(0,false),(1,false),(2,false),(3,false),(4,false),(6,false),(7,false),(8,false),(9,false),(5,true),(10,true)],[(11,true)],[(12,false)],[(13,true)]] ?_
   refine AMS.go (by exact(a0Y 1 rfl a0h)) ?_
   try dsimp only[List.eraseIdx]
   refine xd ?_
   refine yT ?_
   refine yR ?_
   refine vU rfl (O.sliceN rfl rfl rfl rfl ⟨by omega,by omega,by omega⟩) ?_
   refine xD ?_
   refine xd ?_
   refine yT ?_
   refine yR ?_
   refine vU rfl (O.sliceN rfl rfl rfl rfl ⟨by omega,by omega,by omega⟩) ?_
   refine xX _ (fun w0 R0=> ?_)
   refine zQ ?_
   intro B12
   refine AO.g ?_
   refine xN B12 1 1 0 rfl rfl rfl (Nat.le_refl _) ?_
   refine AO.u ?_
   dsimp only[List.set]
   refine AM.ok ?_
   dsimp only[a0z]
   refine xX _ (fun w0 R0=> ?_)
   refine AO.append' (i:=0) rfl rfl rfl rfl (by rfl) (by rfl) rfl rfl rfl (by exact SrcA.nil TyD.ax) (by rfl) (by(unfold maxLen;omega)) (by omega) (by(dsimp only[List.set,List.append,cA,cN,a0r,a0q,a0w,a0d,a0n,AV.cells,List.map,List.map_cons,List.map_nil,List.take,List.drop,Nat.zero_add,Nat.add_zero,Nat.reduceAdd,Nat.reduceMul,Nat.zero_mul,Value.cells,List.toList_toArray,a0p,List.replicate,List.flatten,cP];done)) (fun _=>by(dsimp only[List.set];done)) ?_
   intro V13 hV13
   refine AM.ok ?_
   dsimp only[a0z]
   refine vg ?_
   try dsimp only[cA,cN]
   refine vc ?_
   try dsimp only[List.eraseIdx]
   refine xX _ (fun w0 R0=> ?_)
   refine AO.append' (i:=1) rfl rfl rfl rfl (by rfl) (by rfl) rfl rfl rfl (by exact SrcA.row TyD.ax (by repeat(exact List.Mem.head _)) (by rfl)) (by rfl) (by(unfold maxLen;omega)) (by omega) (by(dsimp only[List.set,List.append,cA,cN,a0r,a0q,a0w,a0d,a0n,AV.cells,List.map,List.map_cons,List.map_nil,List.take,List.drop,Nat.zero_add,Nat.add_zero,Nat.reduceAdd,Nat.reduceMul,Nat.zero_mul,Value.cells,List.toList_toArray,a0p,List.replicate,List.flatten,cP];done)) (fun _=>by(dsimp only[List.set];done)) ?_
   intro V14 hV14
   refine AM.ok ?_
   dsimp only[a0z]
   refine vg ?_
   try dsimp only[cA,cN]
   refine vO ?_
   try dsimp only[List.eraseIdx]
   refine xd ?_
   refine vg ?_
   try dsimp only[cA,cN]
   refine AMS.go (by exact(by exact a0C 133 3 rfl rfl a0h)) ?_
   try dsimp only[List.eraseIdx]
   refine xX _ (fun w0 R0=> ?_)
   refine yv 0 (AM.okN ?_)
   dsimp only[a0z]
   refine vg ?_
   try dsimp only[cA,cN]
   refine AMS.nil (xz (zo (zr ?_)))
   refine zA ?_
   refine zb (zI ?_)
   refine AQ.g ?_
   refine G.coeRow 2 (c0N [] (oat L k)).length (a0x (c0N [] (oat L k))) rfl rfl (CoeL.of_eq rfl) ?_
   refine AQ.u ?_
   refine wA _ _ _ (by omega) (⟨k+1,c0N [] (oat L k),_,by omega,hsc.symm,‹_›,fun hh=>absurd (congrArg List.length hh) (by rw[b0a];simp),rfl,rfl,rfl⟩)
  refine AW.g ?_
  refine G.openRow 0 rfl hz (fun b' cap hc1 hc2 hxs hVe=> ?_)
  refine AW.u ?_
  subst hVe
  have hc3:=hc2
  unfold maxLen at hc3
  refine yX (zo (zD (xj (zD (zr ?_)))))
  refine z8 ?_
  refine yU ?_
  refine yg ?_
  intro B11
  refine zp 0 (zI (zo (zD (zr ?_))))
  refine zt ?_
  refine zn ?_
  refine vT (O.lenV rfl rfl) ?_
  refine zc (zI (zo (zD (xj ?_))))
  refine zh [(4,_),(6,_),(13,_),(96,_),(97,_),(98,_)] (fun nn E H=> ∃(i:Nat),(i≤os.length)∧(h0q os (oat L k).num i=h0q os (oat L k).num os.length)∧i=nn∧E= [(14,.val (.int .i64 (i:Int)))]∧H= [.blk B11 96 2 [.val (.int .i64 (oat L k).num),roB (oat L k).val],.blk b' 96 (cap*2) (a0x os),.blk B4 29 6 [.val (.int .i64 outer.ty),.val (.int .i64 inner.code),.val (.int .i64 outer.id),roB outer.tok,.val (.slice (some ⟨b',0,none⟩) os.length cap),roB inner.pay],.blk B3 29 6 [.val (.int .i64 0),.val (.int .i64 0),.val (.int .i64 0),.val (.slice none 0 0),.val (.slice none 0 0),.val (.slice none 0 0)]]) _ (⟨os.length,Nat.le_refl _,rfl,rfl,rfl,rfl⟩) ?_
  rintro nn E H ⟨i,hi,hp,rfl,rfl,rfl⟩
  dsimp only[cA,cN]
  rcases i with _|i
  ·refine zD (zD ?_)
   refine yw 14 ?_
   simp only[cT,cZ,cD,cO]
   refine zG ?_
   refine vS (O.gtr rfl rfl rfl (by exact e0d (by omega))) ?_
   refine zG ?_
   refine wq ?_
   refine FA.opG rfl rfl rfl rfl (fun hp=>xE 108 rfl (by exact hp)) ?_
   refine FA.opG rfl rfl rfl rfl (fun hp=>zg) ?_
   refine FA.opG rfl rfl rfl rfl (fun hp=>vK 110 rfl (by exact hp)) ?_
   refine FA.no rfl rfl rfl rfl ?_
   refine FA.no rfl rfl rfl rfl ?_
   refine FA.no rfl rfl rfl rfl ?_
   refine wq ?_
   refine FA.opG rfl rfl rfl rfl (fun hp=>wW 115 rfl (by exact hp) zk) ?_
   refine FA.no rfl rfl rfl rfl ?_
   refine vS (O.pickF rfl rfl rfl) ?_
   refine wZ ?_
   simp only[a0f,cN,cA,cP]
   refine zI (zo ?_)
   refine yk (fun hq=> ?_) (fun hq=> ?_)
   ·simp at hq
   obtain⟨p,hp0⟩: ∃p:Nat,p=0:=⟨_,rfl⟩
   refine AW.g ?_
   refine G.re 14 (.val (.int .i64 (p:Int))) (by rw[hp0];rfl) ?_
   refine AW.u ?_
   have hpp:p=h0q os (oat L k).num os.length:=by rw[hp0,←hp];rfl
   have hpl:p<os.length:=by omega
   clear hp0 hp
   refine wb ?_
   refine xY ?_
   refine x3 ?_
   refine xx (zo ?_)
   refine vm [[(0,false),(1,false),(2,false),(3,false),(4,false),(6,false),(7,false),(8,false),(9,false),(5,true),(10,true)],[(11,true)],[(12,false)],[(13,true)]] ?_
   refine AMS.go (by exact(a0Y 1 rfl a0h)) ?_
   try dsimp only[List.eraseIdx]
   refine xd ?_
   refine yT ?_
   refine yR ?_
   refine wN ?_
   refine xD ?_
   refine xd ?_
   refine yT ?_
   refine yR ?_
   refine wN ?_
   refine xX _ (fun w0 R0=> ?_)
   refine zQ ?_
   intro B12
   refine AO.g ?_
   refine xN B12 1 1 0 rfl rfl rfl (Nat.le_refl _) ?_
   refine AO.u ?_
   dsimp only[List.set]
   refine AM.ok ?_
   dsimp only[a0z]
   refine xX _ (fun w0 R0=> ?_)
   refine wU 0 ?_
   intro V13 hV13
   refine AM.ok ?_
   dsimp only[a0z]
   refine vg ?_
   try dsimp only[cA,cN]
   refine vc ?_
   try dsimp only[List.eraseIdx]
   refine xX _ (fun w0 R0=> ?_)
   refine AO.appendCut (i:=1) rfl rfl rfl rfl (by rfl) (by rfl) rfl rfl rfl (by omega) (by exact SrcA.row TyD.ax (by repeat(exact List.Mem.head _)) (by(simp;omega))) (by exact c0C (b0J _) _ _) (by(unfold maxLen;omega)) (by omega) ⟨by omega,by assumption⟩ (by(dsimp only[List.set,List.append,cA,cN,a0r,a0q,a0w,a0d,a0n,AV.cells,List.map,List.map_cons,List.map_nil,List.take,List.drop,Nat.zero_add,Nat.add_zero,Nat.reduceAdd,Nat.reduceMul,Nat.zero_mul,Value.cells,List.toList_toArray,a0p,List.replicate,List.flatten,cP];done)) (fun _=>by(dsimp only[List.set];done)) ?_
   intro V14 hV14
   refine AM.ok ?_
   dsimp only[a0z]
   refine vg ?_
   try dsimp only[cA,cN]
   refine vO ?_
   try dsimp only[List.eraseIdx]
   refine xd ?_
   refine vg ?_
   try dsimp only[cA,cN]
   refine AMS.go (by exact(by exact a0C 133 3 rfl rfl a0h)) ?_
   try dsimp only[List.eraseIdx]
   refine xX _ (fun w0 R0=> ?_)
   refine yv 0 (AM.okN ?_)
   dsimp only[a0z]
   refine vg ?_
   try dsimp only[cA,cN]
   refine AMS.nil (xz (zo (zr ?_)))
   refine zA ?_
   refine zb (zI ?_)
   refine AQ.g ?_
   refine G.coeRow 2 (c0N os (oat L k)).length (a0x (c0N os (oat L k))) rfl (by rw[b0a];omega) (CoeL.of_eq (c0X hpp (by omega) (by omega) (by omega))) ?_
   refine AQ.u ?_
   refine wA _ _ _ (by omega) (⟨k+1,c0N os (oat L k),_,by omega,hsc.symm,‹_›,fun hh=>absurd (congrArg List.length hh) (by rw[b0a];simp),rfl,rfl,rfl⟩)
  refine zD (zD ?_)
  refine yw 14 ?_
  simp only[cT,cZ,cD,cO]
  refine zG ?_
  refine vS (O.gtr rfl rfl rfl (by exact o0d (by omega))) ?_
  refine zG ?_
  refine wq ?_
  refine FA.opG rfl rfl rfl rfl (fun hp=>xE 108 rfl (by exact hp)) ?_
  refine FA.opG rfl rfl rfl rfl (fun hp=>zg) ?_
  refine FA.opG rfl rfl rfl rfl (fun hp=>vK 110 rfl (by exact hp)) ?_
  refine FA.opG rfl rfl rfl rfl (fun hp=>wW 109 rfl (by exact hp) (wW 111 rfl (by exact hp) wh)) ?_
  refine FA.opG rfl rfl rfl rfl (fun hp=>wW 112 rfl (by exact hp) zw) ?_
  refine FA.opG rfl rfl rfl rfl (fun hp=>wW 113 rfl (by exact hp) (O.load rfl rfl mM (by exact s0d (k:=i) (by omega) (by omega)))) ?_
  refine wq ?_
  refine FA.opG rfl rfl rfl rfl (fun hp=>wW 115 rfl (by exact hp) zk) ?_
  refine FA.opG rfl rfl rfl rfl (fun hp=>wW 114 rfl (by exact hp) (wW 116 rfl (by exact hp) yI)) ?_
  refine vS yo ?_
  refine wZ ?_
  simp only[a0f,cN,cA,cP]
  refine zI (zo ?_)
  refine yk (fun hq=> ?_) (fun hq=> ?_)<;>(try simp only[vX]at hq)
  ·refine yX (zo (xj (zr ?_)))
   refine zb ?_
   refine yK ?_
   refine zc (zI (xz ?_))
   rw[show((i+1:Nat):Int)-1=(i:Int) by omega]
   refine zq _ _ _ (by omega) (⟨i,by omega,by rw[←hp,h0q,if_pos hq.2],rfl,rfl,rfl⟩)
  have hpp:i+1=h0q os (oat L k).num os.length:=by rw[←hp,h0q,if_neg (by have:=hq trivial;omega)]
  clear hp
  rcases Nat.lt_or_ge (i+1) os.length with hlt|hge
  ·refine wb ?_
   refine xY ?_
   refine x3 ?_
   refine xx (zo ?_)
   refine vm [[(0,false),(1,false),(2,false),(3,false),(4,false),(6,false),(7,false),(8,false),(9,false),(5,true),(10,true)],[(11,true)],[(12,false)],[(13,true)]] ?_
   refine AMS.go (by exact(a0Y 1 rfl a0h)) ?_
   try dsimp only[List.eraseIdx]
   refine xd ?_
   refine yT ?_
   refine yR ?_
   refine wN ?_
   refine xD ?_
   refine xd ?_
   refine yT ?_
   refine yR ?_
   refine wN ?_
   refine xX _ (fun w0 R0=> ?_)
   refine zQ ?_
   intro B12
   refine AO.g ?_
   refine xN B12 1 1 0 rfl rfl rfl (Nat.le_refl _) ?_
   refine AO.u ?_
   dsimp only[List.set]
   refine AM.ok ?_
   dsimp only[a0z]
   refine xX _ (fun w0 R0=> ?_)
   refine wU 0 ?_
   intro V13 hV13
   refine AM.ok ?_
   dsimp only[a0z]
   refine vg ?_
   try dsimp only[cA,cN]
   refine vc ?_
   try dsimp only[List.eraseIdx]
   refine xX _ (fun w0 R0=> ?_)
   refine AO.appendCut (i:=1) rfl rfl rfl rfl (by rfl) (by rfl) rfl rfl rfl (by omega) (by exact SrcA.row TyD.ax (by repeat(exact List.Mem.head _)) (by(simp;omega))) (by exact c0C (b0J _) _ _) (by(unfold maxLen;omega)) (by omega) ⟨by omega,by assumption⟩ (by(dsimp only[List.set,List.append,cA,cN,a0r,a0q,a0w,a0d,a0n,AV.cells,List.map,List.map_cons,List.map_nil,List.take,List.drop,Nat.zero_add,Nat.add_zero,Nat.reduceAdd,Nat.reduceMul,Nat.zero_mul,Value.cells,List.toList_toArray,a0p,List.replicate,List.flatten,cP];done)) (fun _=>by(dsimp only[List.set];done)) ?_
   intro V14 hV14
   refine AM.ok ?_
   dsimp only[a0z]
   refine vg ?_
   try dsimp only[cA,cN]
   refine vO ?_
   try dsimp only[List.eraseIdx]
   refine xd ?_
   refine vg ?_
   try dsimp only[cA,cN]
   refine AMS.go (by exact(by exact a0C 133 3 rfl rfl a0h)) ?_
   try dsimp only[List.eraseIdx]
   refine xX _ (fun w0 R0=> ?_)
   refine yv 0 (AM.okN ?_)
   dsimp only[a0z]
   refine vg ?_
   try dsimp only[cA,cN]
   refine AMS.nil (xz (zo (zr ?_)))
   refine zA ?_
   refine zb (zI ?_)
   refine AQ.g ?_
   refine G.coeRow 2 (c0N os (oat L k)).length (a0x (c0N os (oat L k))) rfl (by rw[b0a];omega) (CoeL.of_eq (c0X hpp (by omega) (by omega) (by omega))) ?_
   refine AQ.u ?_
   refine wA _ _ _ (by omega) (⟨k+1,c0N os (oat L k),_,by omega,hsc.symm,‹_›,fun hh=>absurd (congrArg List.length hh) (by rw[b0a];simp),rfl,rfl,rfl⟩)
  refine wb ?_
  refine xY ?_
  refine x3 ?_
  refine xx (zo ?_)
  refine vm [[(0,false),(1,false),(2,false),(3,false),(4,false),(6,false),(7,false),(8,false),(9,false),(5,true),(10,true)],[(11,true)],[(12,false)],[(13,true)]] ?_
  refine AMS.go (by exact(a0Y 1 rfl a0h)) ?_
  try dsimp only[List.eraseIdx]
  refine xd ?_
  refine yT ?_
  refine yR ?_
  refine wN ?_
  refine xD ?_
  refine xd ?_
  refine yT ?_
  refine yR ?_
  refine vU rfl (O.sliceV0 rfl rfl rfl rfl ⟨by omega,by omega,by omega⟩ (by omega) (by assumption)) ?_
  refine xX _ (fun w0 R0=> ?_)
  refine zQ ?_
  intro B12
  refine AO.g ?_
  refine xN B12 1 1 0 rfl rfl rfl (Nat.le_refl _) ?_
  refine AO.u ?_
  dsimp only[List.set]
  refine AM.ok ?_
  dsimp only[a0z]
  refine xX _ (fun w0 R0=> ?_)
  refine y2 0 ?_
  intro V13 hV13
  refine AM.ok ?_
  dsimp only[a0z]
  refine vg ?_
  try dsimp only[cA,cN]
  refine vc ?_
  try dsimp only[List.eraseIdx]
  refine xX _ (fun w0 R0=> ?_)
  refine AO.appendCut (i:=1) rfl rfl rfl rfl (by rfl) (by rfl) rfl rfl rfl (by omega) (by exact SrcA.row TyD.ax (by repeat(exact List.Mem.head _)) (by rfl)) (by rfl) (by(unfold maxLen;omega)) (by omega) ⟨by omega,by assumption⟩ (by(dsimp only[List.set,List.append,cA,cN,a0r,a0q,a0w,a0d,a0n,AV.cells,List.map,List.map_cons,List.map_nil,List.take,List.drop,Nat.zero_add,Nat.add_zero,Nat.reduceAdd,Nat.reduceMul,Nat.zero_mul,Value.cells,List.toList_toArray,a0p,List.replicate,List.flatten,cP];done)) (fun _=>by(dsimp only[List.set];done)) ?_
  intro V14 hV14
  refine AM.ok ?_
  dsimp only[a0z]
  refine vg ?_
  try dsimp only[cA,cN]
  refine vO ?_
  try dsimp only[List.eraseIdx]
  refine xd ?_
  refine vg ?_
  try dsimp only[cA,cN]
  refine AMS.go (by exact(by exact a0C 133 3 rfl rfl a0h)) ?_
  try dsimp only[List.eraseIdx]
  refine xX _ (fun w0 R0=> ?_)
  refine yv 0 (AM.okN ?_)
  dsimp only[a0z]
  refine vg ?_
  try dsimp only[cA,cN]
  refine AMS.nil (xz (zo (zr ?_)))
  refine zA ?_
  refine zb (zI ?_)
  refine AQ.g ?_
  refine G.coeRow 2 (c0N os (oat L k)).length (a0x (c0N os (oat L k))) rfl (by rw[b0a];omega) (CoeL.of_eq (g0Q hpp (by omega) (by omega))) ?_
  refine AQ.u ?_
  refine wA _ _ _ (by omega) (⟨k+1,c0N os (oat L k),_,by omega,hsc.symm,‹_›,fun hh=>absurd (congrArg List.length hh) (by rw[b0a];simp),rfl,rfl,rfl⟩)
  skip
 have hoe:os=b0N L:=by rw[hos,List.take_of_length_le (by omega)]
 subst hoe
 refine AW.g ?_
 refine G.freezeCell 0 0 4 rfl rfl rfl ?_
 refine AW.u ?_
 refine wb ?_
 refine xY ?_
 refine x3 ?_
 refine xx (zo (zD (zr ?_)))
 refine y3 ?_
 refine zp 1 ?_
 refine zc (zI (zo (xc ?_)))
 refine x8 vQ xe (i0d e)
theorem o0J {c:Int}(h:rq c=true):rs c=false:=by
 unfold rq at h
 unfold rs
 simp only[Bool.and_eq_true,cQ]at h
 exact decide_eq_false (by omega)
set_option maxHeartbeats 8000000 in
theorem o0P (outer inner:Msg)(ho:l0Y outer)(hi:l0Y inner):Sp Tryz.prog 175 [a0U outer,a0U inner] [] (Is (u0R (c0l outer inner))):=by
 obtain⟨a1,a2,a3,a4⟩:=ho
 obtain⟨b1,b2,b3,b4⟩:=hi
 refine yN Tryz.func175 _ Tryz.ntmps175 (fun w0 R0=> ?_)
 refine zD (zr ?_)
 refine ye ?_
 intro B1
 refine ye ?_
 intro B2
 refine zd ?_
 intro B3
 refine zc (zI (zo (zD (zD (zr ?_)))))
 refine zt ?_
 refine zn ?_
 refine vT (xH rfl Tryz.func63 rfl rfl rfl (b0O inner.code)) ?_
 refine xq ?_
 refine zb ?_
 refine zM ?_
 refine zX 22 ?_
 refine AO.opG rfl rfl rfl (fun hp=>wW 23 rfl (by exact hp) (xH rfl Tryz.func83 rfl rfl rfl (b0H inner.code))) ?_
 refine yZ 24 ?_
 refine zV (zI (zo ?_))
 refine yk (fun h=> ?_) (fun h=> ?_)<;>(try simp only[vX]at h)
 ·have e:c0l outer inner=(Msg.none,1):=if_neg (by rw[h.1,h.2];simp)
  refine zD (zr ?_)
  refine zN ?_
  refine za 0 ?_
  refine zc (zI (zo (xc (xr ?_))))
  refine x8 zT zj (i0d e)
 have hc:rq inner.code=true∨rs inner.code=true:=by cases hq:rq inner.code<;>simp_all
 refine yX (zo (zD (zD (zr ?_))))
 refine zt ?_
 refine zn ?_
 refine vT (xH rfl Tryz.func63 rfl rfl rfl (b0O inner.code)) ?_
 refine zb ?_
 refine zM ?_
 refine zX 32 ?_
 refine AO.opG rfl rfl rfl (fun hp=>wW 33 rfl (by exact hp) (xH rfl Tryz.func63 rfl rfl rfl (b0O outer.code))) ?_
 refine yZ 34 ?_
 refine zV ?_
 refine zb ?_
 refine zM ?_
 refine zX 38 ?_
 refine AO.opG rfl rfl rfl (fun hp=>wW 39 rfl (by exact hp) (xH rfl Tryz.func83 rfl rfl rfl (b0H inner.code))) ?_
 refine wP 40 ?_
 refine zM ?_
 refine zX 42 ?_
 refine AO.opG rfl rfl rfl (fun hp=>wW 43 rfl (by exact hp) (xH rfl Tryz.func83 rfl rfl rfl (b0H outer.code))) ?_
 refine yZ 44 ?_
 refine va 41 ?_
 refine zE (zI (zo ?_))
 refine yk (fun hm=> ?_) (fun hm=> ?_)<;>(try simp only[vX]at hm)
 ·have e:c0l outer inner=(Msg.none,18):=by
   rw[c0l,if_pos hc,if_neg]
   rintro⟨k1,k2⟩
   rw[k1,k2]at hm
   simp at hm
  refine zD (zr ?_)
  refine zN ?_
  refine za 0 ?_
  refine zc (zI (zo (xc (xr ?_))))
  refine x8 zT zj (i0d e)
 have hm2:rq inner.code=rq outer.code∧rs inner.code=rs outer.code:=by
  rcases hc with hc|hc
  ·have h1:=hm.1 hc
   rw[hc,h1,o0J hc,o0J h1];exact⟨rfl,rfl⟩
  have h1:=hm.2 hc
  have h2:rq inner.code=false:=by cases hq:rq inner.code;rfl;rw[o0J hq]at hc;cases hc
  have h3:rq outer.code=false:=by cases hq:rq outer.code;rfl;rw[o0J hq]at h1;cases h1
  rw[hc,h1,h2,h3];exact⟨rfl,rfl⟩
 refine yX (zo (zD ?_))
 refine yw 14 ?_
 simp only[cT,cZ,cD,cO]
 refine yr ?_
 refine zL ?_
 refine yr ?_
 refine zL ?_
 refine yr ?_
 refine zL ?_
 refine vS (xH rfl Tryz.func69 rfl rfl rfl (a0s _ (by assumption))) ?_
 refine yr ?_
 refine zL ?_
 refine yr ?_
 refine zL ?_
 refine vS (xH rfl Tryz.func69 rfl rfl rfl (a0s _ (by assumption))) ?_
 refine xQ ?_
 refine yV ?_
 refine wZ ?_
 simp only[a0f,cN,cA,cP]
 rintro _ _ ⟨B4,rfl,rfl⟩
 simp only[cA,cN]
 refine za 0 (zI (zo (zD (zr ?_))))
 refine zc (zI (zo (zD (zD (zr ?_)))))
 refine zt ?_
 refine zn ?_
 refine zW ?_
 refine zb (zI (zo (xj ?_)))
 refine AW.g ?_
 refine G.nilRow 96 2 ?_
 refine AW.u ?_
 refine xK [(2,_),(4,_),(6,_),(63,_),(64,_)] (fun nn E H=> ∃(k:Nat) (V:Value),(k≤inner.opts.length)∧(V.oneCell'=true)∧(p0N (inner.opts.take k)=false)∧nn=inner.opts.length-k∧E= [(7,.val V),(65,.val (.int .i64 (k:Int)))]∧H= [.row V 96 2 (inner.opts.take k).length (a0x (inner.opts.take k)),.blk B4 29 6 [.val (.int .i64 outer.ty),.val (.int .i64 inner.code),.val (.int .i64 outer.id),roB outer.tok,.val (.slice none 0 0),roB inner.pay],.blk B3 29 6 [.val (.int .i64 0),.val (.int .i64 0),.val (.int .i64 0),.val (.slice none 0 0),.val (.slice none 0 0),.val (.slice none 0 0)],.blk B1 29 6 [.val (.int .i64 outer.ty),.val (.int .i64 outer.code),.val (.int .i64 outer.id),roB outer.tok,roO outer.opts,roB outer.pay]]) _ (⟨0,_,by omega,rfl,rfl,rfl,rfl,rfl⟩) ?_
 rintro nn E H ⟨k,V,hk,hV,hb,rfl,rfl,rfl⟩
 dsimp only[cA,cN]
 have hlk:(inner.opts.take k).length=k:=by rw[List.length_take];omega
 refine zD (zr ?_)
 refine zP (zI (zo (zD ?_)))
 refine yk (fun h2=> ?_) (fun h2=> ?_)<;>(try simp only[vX]at h2)
 ·have hkk:k<inner.opts.length:=by omega
  have hv4:=b4 k hkk
  have hts:inner.opts.take (k+1)=inner.opts.take k++[oat inner.opts k]:=a0g Opt.none hkk
  refine yX (zo (zD (xj (zD (zr ?_)))))
  refine z8 ?_
  refine yU ?_
  refine zd ?_
  intro B5
  refine za 0 (zI (zo (zD (zD (zr ?_)))))
  refine zt ?_
  refine zy ?_
  refine vT (xH rfl Tryz.func121 rfl rfl rfl (f0z _)) ?_
  refine z9 (zI (zo ?_))
  refine yk (fun h3=> ?_) (fun h3=> ?_)<;>(try simp only[vX]at h3)
  ·have e:c0l outer inner=(Msg.none,4):=by
    rw[c0l,if_pos hc,if_pos hm2,if_pos]
    exact List.any_eq_true.2 ⟨oat inner.opts k,b0f _ hkk,by simpa using h3⟩
   refine zD (zr ?_)
   refine zN ?_
   refine za 3 ?_
   refine zc (zI (zo (xc (xr ?_))))
   refine wi (xr ?_)
   refine AQ.loopR ?_
   refine wi (xr ?_)
   refine x8 zm zj (i0d e)
  have hb':p0N (inner.opts.take (k+1))=false:=by
   rw[hts];unfold p0N at hb⊢;rw[List.any_append,hb];simp only[List.any_cons,List.any_nil,Bool.false_or,Bool.or_false];exact decide_eq_false h3
  refine yX (zo (zr ?_))
  refine zb ?_
  refine zB ?_
  refine zQ ?_
  intro B6
  refine AO.g ?_
  refine yc 0 76 ?_
  refine wd 76 ?_
  refine AO.u ?_
  dsimp only[List.eraseIdx]
  refine zx 1 ?_
  intro V7 hV7
  refine zc (zI (xz (zo (zr ?_))))
  refine zA ?_
  refine zb (zI ?_)
  refine zJ _ _ _ (by omega) (⟨k+1,_,by omega,‹_›,hb',rfl,rfl,by rw[hts,a0y,cH]⟩)
 obtain rfl:k=inner.opts.length:=by omega
 rw[List.take_length]at hb⊢
 have hnc: ¬p0N inner.opts=true:=by rw[hb];simp
 have e:c0l outer inner=(⟨outer.ty,inner.code,outer.id,outer.tok,b0N (inner.opts++g0n outer.opts),inner.pay⟩,0):=by rw[c0l,if_pos hc,if_pos hm2,if_neg hnc]
 refine wb ?_
 refine xY ?_
 refine x3 ?_
 refine xx (zo (zD (zD (zr ?_))))
 refine zt ?_
 refine zn ?_
 refine zW ?_
 refine zb (zI (zo (xj ?_)))
 refine zh [(4,_),(6,_),(80,_),(81,_)] (fun nn E H=> ∃(k:Nat) (V:Value),(k≤outer.opts.length)∧(V.oneCell'=true)∧nn=outer.opts.length-k∧E= [(7,.val V),(82,.val (.int .i64 (k:Int)))]∧H= [.row V 96 2 (inner.opts++g0n (outer.opts.take k)).length (a0x (inner.opts++g0n (outer.opts.take k))),.blk B4 29 6 [.val (.int .i64 outer.ty),.val (.int .i64 inner.code),.val (.int .i64 outer.id),roB outer.tok,.val (.slice none 0 0),roB inner.pay],.blk B3 29 6 [.val (.int .i64 0),.val (.int .i64 0),.val (.int .i64 0),.val (.slice none 0 0),.val (.slice none 0 0),.val (.slice none 0 0)]]) _ (⟨0,V,by omega,hV,rfl,rfl,by rw[show inner.opts++g0n (outer.opts.take 0)=inner.opts by simp[g0n]]⟩) ?_
 rintro nn E H ⟨k,V,hk,hV,rfl,rfl,rfl⟩
 dsimp only[cA,cN]
 have hl2:=h0u (outer.opts.take k)
 rw[List.length_take]at hl2
 have hl3:(inner.opts++g0n (outer.opts.take k)).length=inner.opts.length+(g0n (outer.opts.take k)).length:=List.length_append
 refine zD (zr ?_)
 refine zP (zI (zo (zD ?_)))
 refine yk (fun h4=> ?_) (fun h4=> ?_)<;>(try simp only[vX]at h4)
 ·have hkk:k<outer.opts.length:=by omega
  have hv4:=a4 k hkk
  have hsc:=i0q (outer.opts.take k) (oat outer.opts k)
  rw[←a0g Opt.none hkk]at hsc
  refine yX (zo (zD (xj (zD (zr ?_)))))
  refine z8 ?_
  refine yU ?_
  refine zd ?_
  intro B8
  refine za 0 (zI (zo (zD (zr ?_))))
  refine zt ?_
  refine zy ?_
  refine vT (xH rfl Tryz.func121 rfl rfl rfl (f0z _)) ?_
  refine z9 ?_
  refine zb ?_
  refine zM ?_
  refine zv 91 ?_
  refine xS 92 ?_
  refine zV (zI (zo ?_))
  refine yk (fun h5=> ?_) (fun h5=> ?_)<;>(try simp only[vX]at h5)
  ·rw[if_pos h5,]at hsc
   refine zr ?_
   refine zb ?_
   refine zB ?_
   refine zQ ?_
   intro B9
   refine AO.g ?_
   refine yc 0 97 ?_
   refine wd 97 ?_
   refine AO.u ?_
   dsimp only[List.eraseIdx]
   refine zx 1 ?_
   intro V10 hV10
   refine zc (zI (xz (zo (zr ?_))))
   refine zA ?_
   refine zb (zI ?_)
   refine zJ _ _ _ (by omega) (⟨k+1,_,by omega,‹_›,rfl,rfl,by rw[hsc,←List.append_assoc,a0y,List.length_append (bs:= [_])]⟩)
  rw[if_neg (fun hh=>hh.2 (h5 hh.1))]at hsc
  refine yX (xz (zo (zr ?_)))
  refine zA ?_
  refine zb (zI ?_)
  refine zJ _ _ _ (by omega) (⟨k+1,V,by omega,hV,rfl,rfl,by rw[hsc]⟩)
 obtain rfl:k=outer.opts.length:=by omega
 rw[List.take_length]at hl2 hl3⊢
 refine AW.g ?_
 refine yf 0 [7] ?_
 refine AW.u ?_
 try dsimp only[List.map,List.eraseIdx,cA,cN]
 refine wb ?_
 refine xY ?_
 refine x3 ?_
 refine xx (zo (zD (zD (zr ?_))))
 refine zb ?_
 refine zW ?_
 refine zb (zI (zo (xj ?_)))
 obtain⟨L,hL⟩: ∃L,L=inner.opts++g0n outer.opts:=⟨_,rfl⟩
 have hLv: ∀o∈L,o.val.length≤140737488355328:=fun o hoL=>by
  rw[hL]at hoL
  rcases List.mem_append.1 hoL with hoL|hoL
  ·obtain⟨j,hj,rfl⟩:=List.getElem_of_mem hoL
   have:=b4 j hj
   simpa[hj]using this
  obtain⟨j,hj,rfl⟩:=List.getElem_of_mem (List.mem_filter.1 hoL).1
  have:=a4 j hj
  simpa[hj]using this
 rw[←hL]at hl3 e⊢
 refine AW.g ?_
 refine G.nilRow 96 2 ?_
 refine AW.u ?_
 refine zh [(4,_),(6,_),(100,_),(101,_)] (fun nn E H=> ∃(k:Nat) (os:List Opt) (V:Value),(k≤L.length)∧(os=b0N (L.take k))∧(V.oneCell'=true)∧(os= []→V= .slice none 0 0)∧nn=L.length-k∧E= [(102,.val (.int .i64 (k:Int)))]∧H= [.row V 96 2 (os).length (a0x (os)),.blk B4 29 6 [.val (.int .i64 outer.ty),.val (.int .i64 inner.code),.val (.int .i64 outer.id),roB outer.tok,.val V,roB inner.pay],.blk B3 29 6 [.val (.int .i64 0),.val (.int .i64 0),.val (.int .i64 0),.val (.slice none 0 0),.val (.slice none 0 0),.val (.slice none 0 0)]]) _ (⟨0,[],_,by omega,rfl,rfl,fun _=>rfl,rfl,rfl,rfl⟩) ?_
 rintro nn E H ⟨k,os,V,hk,hos,hV,h0,rfl,rfl,rfl⟩
 dsimp only[cA,cN]
 have hosl:os.length=k:=by rw[hos,e0x,List.length_take];omega
 refine zD (zr ?_)
 refine zP (zI (zo (zD ?_)))
 refine yk (fun h6=> ?_) (fun h6=> ?_)<;>(try simp only[vX]at h6)
 ·have hkk:k<L.length:=by omega
  have hvL:(oat L k).val.length≤140737488355328:=hLv _ (b0f _ hkk)
  have hsc:b0N (L.take (k+1))=c0N os (oat L k):=by rw[a0g Opt.none hkk,f0J,hos]
  rcases Nat.eq_zero_or_pos os.length with hz|hz
  ·obtain rfl:os= []:=List.eq_nil_of_length_eq_zero hz
   obtain rfl:=h0 rfl
   refine yX (zo (zD (xj (zD (zr ?_)))))
   refine z8 ?_
   refine yU ?_
   refine zd ?_
   intro B11
   refine za 0 (zI (zo (zD ?_)))
   refine yw 7 ?_
   simp only[cT,cZ,cD,cO]
   refine yr ?_
   refine yL ?_
   refine yr ?_
   refine yL ?_
   refine vS (xH rfl Tryz.func69 rfl rfl rfl (a0s _ (by assumption))) ?_
   refine xQ ?_
   refine yV ?_
   refine wZ ?_
   simp only[a0f,cN,cA,cP]
   rintro _ _ ⟨B12,rfl,rfl⟩
   simp only[cA,cN]
   refine za 0 (zI (zo (zD (zr ?_))))
   refine zt ?_
   refine zn ?_
   refine vT (O.lenV rfl rfl) ?_
   refine zc (zI (zo (zD (xj ?_))))
   refine zh [(4,_),(6,_),(13,_),(14,_),(100,_),(101,_),(102,_)] (fun nn E H=> ∃(i:Nat),(i=0)∧i=nn∧E= [(15,.val (.int .i64 (i:Int)))]∧H= [.blk B12 96 2 [.val (.int .i64 (oat L k).num),roB (oat L k).val],.blk B11 96 2 [.val (.int .i64 (oat L k).num),roB (oat L k).val],.row (.slice none 0 0) 96 2 0 [],.blk B4 29 6 [.val (.int .i64 outer.ty),.val (.int .i64 inner.code),.val (.int .i64 outer.id),roB outer.tok,.val (.slice none 0 0),roB inner.pay],.blk B3 29 6 [.val (.int .i64 0),.val (.int .i64 0),.val (.int .i64 0),.val (.slice none 0 0),.val (.slice none 0 0),.val (.slice none 0 0)]]) _ (⟨0,rfl,rfl,rfl,rfl⟩) ?_
   rintro nn E H ⟨i,hi,rfl,rfl,rfl⟩
   dsimp only[cA,cN]
   subst hi
   refine zD (zD ?_)
   refine yw 14 ?_
   simp only[cT,cZ,cD,cO]
   refine zG ?_
   refine vS (O.gtr rfl rfl rfl (by exact e0d (by omega))) ?_
   refine zG ?_
   refine wq ?_
   refine FA.opG rfl rfl rfl rfl (fun hp=>xE 118 rfl (by exact hp)) ?_
   refine FA.opG rfl rfl rfl rfl (fun hp=>zg) ?_
   refine FA.opG rfl rfl rfl rfl (fun hp=>vK 120 rfl (by exact hp)) ?_
   refine FA.no rfl rfl rfl rfl ?_
   refine FA.no rfl rfl rfl rfl ?_
   refine FA.no rfl rfl rfl rfl ?_
   refine wq ?_
   refine FA.opG rfl rfl rfl rfl (fun hp=>xE 125 rfl (by exact hp)) ?_
   refine FA.no rfl rfl rfl rfl ?_
   refine vS (O.pickF rfl rfl rfl) ?_
   refine wZ ?_
   simp only[a0f,cN,cA,cP]
   refine zI (zo ?_)
   refine yk (fun hq=> ?_) (fun hq=> ?_)
   ·simp at hq
   refine wb ?_
   refine xY ?_
   refine x3 ?_
   refine xx (zo (zD (zr ?_)))
   refine zt ?_
   refine zn ?_
   refine zb ?_
   refine vT (O.sliceN rfl rfl rfl rfl ⟨by omega,by omega,by omega⟩) ?_
   refine vV (O.appendNil rfl (by rfl) (by rfl) rfl rfl (by exact SrcA.nil TyD.ax) (by rfl) (by(unfold maxLen;omega)) (by omega)) ?_
   intro V13 hV13
   refine zc (zI (zo ?_))
   refine vm [[(0,false),(1,false),(2,false),(3,false),(4,false),(5,false),(7,false),(6,true)],[(8,true)],[(9,false)],[(10,true)]] ?_
   refine AMS.go (by exact(a0Y 3 rfl a0h)) ?_
   try dsimp only[List.eraseIdx]
   refine xd ?_
   refine yT ?_
   refine yR ?_
   refine vU rfl (O.sliceN rfl rfl rfl rfl ⟨by omega,by omega,by omega⟩) ?_
   refine zZ ?_
   refine xh ?_
   refine yR ?_
   refine xX _ (fun w0 R0=> ?_)
   refine zx 0 ?_
   intro V14 hV14
   refine AM.ok ?_
   dsimp only[a0z]
   refine vg ?_
   try dsimp only[cA,cN]
   refine vc ?_
   try dsimp only[List.eraseIdx]
   refine xX _ (fun w0 R0=> ?_)
   refine AO.append' (i:=0) rfl rfl rfl rfl (by rfl) (by rfl) rfl rfl rfl (by exact SrcA.row TyD.ax mM (by rfl)) (by rfl) (by(unfold maxLen;omega)) (by omega) (by(dsimp only[List.set,cA,cN,List.take,List.drop];done)) (fun _=>by(dsimp only[List.set];done)) ?_
   intro V15 hV15
   refine AM.ok ?_
   dsimp only[a0z]
   refine vg ?_
   try dsimp only[cA,cN]
   refine vO ?_
   try dsimp only[List.eraseIdx]
   refine xd ?_
   refine vg ?_
   try dsimp only[cA,cN]
   refine AMS.go (by exact(by exact a0C 145 4 rfl rfl a0h)) ?_
   try dsimp only[List.eraseIdx]
   refine xX _ (fun w0 R0=> ?_)
   refine yA 0 (AM.okN ?_)
   dsimp only[a0z]
   refine vg ?_
   try dsimp only[cA,cN]
   refine AMS.nil (xz (zo (zr ?_)))
   refine zA ?_
   refine zb (zI ?_)
   refine AQ.g ?_
   refine G.coeRow 1 (c0N [] (oat L k)).length (a0x (c0N [] (oat L k))) rfl rfl (CoeL.of_eq rfl) ?_
   refine AQ.u ?_
   refine wj _ _ _ (by omega) (⟨k+1,c0N [] (oat L k),_,by omega,hsc.symm,‹_›,fun hh=>absurd (congrArg List.length hh) (by rw[b0a];simp),rfl,rfl,rfl⟩)
  refine AW.g ?_
  refine G.openRow 0 rfl hz (fun b' cap hc1 hc2 hxs hVe=> ?_)
  refine AW.u ?_
  subst hVe
  have hc3:=hc2
  unfold maxLen at hc3
  refine yX (zo (zD (xj (zD (zr ?_)))))
  refine z8 ?_
  refine yU ?_
  refine zd ?_
  intro B11
  refine za 0 (zI (zo (zD ?_)))
  refine yw 7 ?_
  simp only[cT,cZ,cD,cO]
  refine yr ?_
  refine yL ?_
  refine yr ?_
  refine yL ?_
  refine vS (xH rfl Tryz.func69 rfl rfl rfl (a0s _ (by assumption))) ?_
  refine xQ ?_
  refine yV ?_
  refine wZ ?_
  simp only[a0f,cN,cA,cP]
  rintro _ _ ⟨B12,rfl,rfl⟩
  simp only[cA,cN]
  refine za 0 (zI (zo (zD (zr ?_))))
  refine zt ?_
  refine zn ?_
  refine vT (O.lenV rfl rfl) ?_
  refine zc (zI (zo (zD (xj ?_))))
  refine zh [(4,_),(6,_),(13,_),(14,_),(100,_),(101,_),(102,_)] (fun nn E H=> ∃(i:Nat),(i≤os.length)∧(h0q os (oat L k).num i=h0q os (oat L k).num os.length)∧i=nn∧E= [(15,.val (.int .i64 (i:Int)))]∧H= [.blk B12 96 2 [.val (.int .i64 (oat L k).num),roB (oat L k).val],.blk B11 96 2 [.val (.int .i64 (oat L k).num),roB (oat L k).val],.blk b' 96 (cap*2) (a0x os),.blk B4 29 6 [.val (.int .i64 outer.ty),.val (.int .i64 inner.code),.val (.int .i64 outer.id),roB outer.tok,.val (.slice (some ⟨b',0,none⟩) os.length cap),roB inner.pay],.blk B3 29 6 [.val (.int .i64 0),.val (.int .i64 0),.val (.int .i64 0),.val (.slice none 0 0),.val (.slice none 0 0),.val (.slice none 0 0)]]) _ (⟨os.length,Nat.le_refl _,rfl,rfl,rfl,rfl⟩) ?_
  rintro nn E H ⟨i,hi,hp,rfl,rfl,rfl⟩
  dsimp only[cA,cN]
  rcases i with _|i
  ·refine zD (zD ?_)
   refine yw 14 ?_
   simp only[cT,cZ,cD,cO]
   refine zG ?_
   refine vS (O.gtr rfl rfl rfl (by exact e0d (by omega))) ?_
   refine zG ?_
   refine wq ?_
   refine FA.opG rfl rfl rfl rfl (fun hp=>xE 118 rfl (by exact hp)) ?_
   refine FA.opG rfl rfl rfl rfl (fun hp=>zg) ?_
   refine FA.opG rfl rfl rfl rfl (fun hp=>vK 120 rfl (by exact hp)) ?_
   refine FA.no rfl rfl rfl rfl ?_
   refine FA.no rfl rfl rfl rfl ?_
   refine FA.no rfl rfl rfl rfl ?_
   refine wq ?_
   refine FA.opG rfl rfl rfl rfl (fun hp=>xE 125 rfl (by exact hp)) ?_
   refine FA.no rfl rfl rfl rfl ?_
   refine vS (O.pickF rfl rfl rfl) ?_
   refine wZ ?_
   simp only[a0f,cN,cA,cP]
   refine zI (zo ?_)
   refine yk (fun hq=> ?_) (fun hq=> ?_)
   ·simp at hq
   obtain⟨p,hp0⟩: ∃p:Nat,p=0:=⟨_,rfl⟩
   refine AW.g ?_
   refine G.re 15 (.val (.int .i64 (p:Int))) (by rw[hp0];rfl) ?_
   refine AW.u ?_
   have hpp:p=h0q os (oat L k).num os.length:=by rw[hp0,←hp];rfl
   have hpl:p<os.length:=by omega
   clear hp0 hp
   refine wb ?_
   refine xY ?_
   refine x3 ?_
   refine xx (zo (zD (zr ?_)))
   refine zt ?_
   refine zn ?_
   refine zb ?_
   refine vT wx ?_
   refine vV (O.appendNil rfl (by rfl) (by rfl) rfl rfl (by exact SrcA.blk TyD.ax mM (by(dsimp only[List.set,cA,cN,List.take,List.drop];done)) (by(simp;omega))) (by exact c0C (b0J _) _ _) (by(unfold maxLen;omega)) (by omega)) ?_
   intro V13 hV13
   refine zc (zI (zo ?_))
   refine vm [[(0,false),(1,false),(2,false),(3,false),(4,false),(5,false),(7,false),(6,true)],[(8,true)],[(9,false)],[(10,true)]] ?_
   refine AMS.go (by exact(a0Y 3 rfl a0h)) ?_
   try dsimp only[List.eraseIdx]
   refine xd ?_
   refine yT ?_
   refine yR ?_
   refine wN ?_
   refine zZ ?_
   refine xh ?_
   refine yR ?_
   refine xX _ (fun w0 R0=> ?_)
   refine AO.appendCut (i:=0) rfl rfl rfl rfl (by rfl) (by rfl) rfl rfl rfl (by omega) (by exact SrcA.ro TyD.ax (by rfl) (lB rfl)) (by rfl) (by(unfold maxLen;omega)) (by omega) ⟨by omega,by assumption⟩ (by(dsimp only[List.set,cA,cN,List.take,List.drop];done)) (fun _=>by(dsimp only[List.set];done)) ?_
   intro V14 hV14
   refine AM.ok ?_
   dsimp only[a0z]
   refine vg ?_
   try dsimp only[cA,cN]
   refine vc ?_
   try dsimp only[List.eraseIdx]
   refine xX _ (fun w0 R0=> ?_)
   refine AO.append' (i:=0) rfl rfl rfl rfl (by rfl) (by rfl) rfl rfl rfl (by exact SrcA.row TyD.ax mM (by(simp;omega))) (by exact c0C (b0J _) _ _) (by(unfold maxLen;omega)) (by omega) (by(dsimp only[List.set,cA,cN,List.take,List.drop];done)) (fun _=>by(dsimp only[List.set];done)) ?_
   intro V15 hV15
   refine AM.ok ?_
   dsimp only[a0z]
   refine vg ?_
   try dsimp only[cA,cN]
   refine vO ?_
   try dsimp only[List.eraseIdx]
   refine xd ?_
   refine vg ?_
   try dsimp only[cA,cN]
   refine AMS.go (by exact(by exact a0C 145 4 rfl rfl a0h)) ?_
   try dsimp only[List.eraseIdx]
   refine xX _ (fun w0 R0=> ?_)
   refine yA 0 (AM.okN ?_)
   dsimp only[a0z]
   refine vg ?_
   try dsimp only[cA,cN]
   refine AMS.nil (xz (zo (zr ?_)))
   refine zA ?_
   refine zb (zI ?_)
   refine AQ.g ?_
   refine G.coeRow 1 (c0N os (oat L k)).length (a0x (c0N os (oat L k))) rfl (by rw[b0a];omega) (CoeL.of_eq ((List.append_assoc _ _ _).trans (c0X hpp (by omega) (by omega) (by omega)))) ?_
   refine AQ.u ?_
   refine wj _ _ _ (by omega) (⟨k+1,c0N os (oat L k),_,by omega,hsc.symm,‹_›,fun hh=>absurd (congrArg List.length hh) (by rw[b0a];simp),rfl,rfl,rfl⟩)
  refine zD (zD ?_)
  refine yw 14 ?_
  simp only[cT,cZ,cD,cO]
  refine zG ?_
  refine vS (O.gtr rfl rfl rfl (by exact o0d (by omega))) ?_
  refine zG ?_
  refine wq ?_
  refine FA.opG rfl rfl rfl rfl (fun hp=>xE 118 rfl (by exact hp)) ?_
  refine FA.opG rfl rfl rfl rfl (fun hp=>zg) ?_
  refine FA.opG rfl rfl rfl rfl (fun hp=>vK 120 rfl (by exact hp)) ?_
  refine FA.opG rfl rfl rfl rfl (fun hp=>wW 119 rfl (by exact hp) (wW 121 rfl (by exact hp) wh)) ?_
  refine FA.opG rfl rfl rfl rfl (fun hp=>wW 122 rfl (by exact hp) zw) ?_
  refine FA.opG rfl rfl rfl rfl (fun hp=>wW 123 rfl (by exact hp) (O.load rfl rfl mM (by exact s0d (k:=i) (by omega) (by omega)))) ?_
  refine wq ?_
  refine FA.opG rfl rfl rfl rfl (fun hp=>xE 125 rfl (by exact hp)) ?_
  refine FA.opG rfl rfl rfl rfl (fun hp=>wW 124 rfl (by exact hp) (wW 126 rfl (by exact hp) yI)) ?_
  refine vS yo ?_
  refine wZ ?_
  simp only[a0f,cN,cA,cP]
  refine zI (zo ?_)
  refine yk (fun hq=> ?_) (fun hq=> ?_)<;>(try simp only[vX]at hq)
  ·refine yX (zo (xj (zr ?_)))
   refine zb ?_
   refine yK ?_
   refine zc (zI (xz ?_))
   rw[show((i+1:Nat):Int)-1=(i:Int) by omega]
   refine zq _ _ _ (by omega) (⟨i,by omega,by rw[←hp,h0q,if_pos hq.2],rfl,rfl,rfl⟩)
  have hpp:i+1=h0q os (oat L k).num os.length:=by rw[←hp,h0q,if_neg (by have:=hq trivial;omega)]
  clear hp
  rcases Nat.lt_or_ge (i+1) os.length with hlt|hge
  ·refine wb ?_
   refine xY ?_
   refine x3 ?_
   refine xx (zo (zD (zr ?_)))
   refine zt ?_
   refine zn ?_
   refine zb ?_
   refine vT wx ?_
   refine vV (O.appendNil rfl (by rfl) (by rfl) rfl rfl (by exact SrcA.blk TyD.ax mM (by(dsimp only[List.set,cA,cN,List.take,List.drop];done)) (by(simp;omega))) (by exact c0C (b0J _) _ _) (by(unfold maxLen;omega)) (by omega)) ?_
   intro V13 hV13
   refine zc (zI (zo ?_))
   refine vm [[(0,false),(1,false),(2,false),(3,false),(4,false),(5,false),(7,false),(6,true)],[(8,true)],[(9,false)],[(10,true)]] ?_
   refine AMS.go (by exact(a0Y 3 rfl a0h)) ?_
   try dsimp only[List.eraseIdx]
   refine xd ?_
   refine yT ?_
   refine yR ?_
   refine wN ?_
   refine zZ ?_
   refine xh ?_
   refine yR ?_
   refine xX _ (fun w0 R0=> ?_)
   refine AO.appendCut (i:=0) rfl rfl rfl rfl (by rfl) (by rfl) rfl rfl rfl (by omega) (by exact SrcA.ro TyD.ax (by rfl) (lB rfl)) (by rfl) (by(unfold maxLen;omega)) (by omega) ⟨by omega,by assumption⟩ (by(dsimp only[List.set,cA,cN,List.take,List.drop];done)) (fun _=>by(dsimp only[List.set];done)) ?_
   intro V14 hV14
   refine AM.ok ?_
   dsimp only[a0z]
   refine vg ?_
   try dsimp only[cA,cN]
   refine vc ?_
   try dsimp only[List.eraseIdx]
   refine xX _ (fun w0 R0=> ?_)
   refine AO.append' (i:=0) rfl rfl rfl rfl (by rfl) (by rfl) rfl rfl rfl (by exact SrcA.row TyD.ax mM (by(simp;omega))) (by exact c0C (b0J _) _ _) (by(unfold maxLen;omega)) (by omega) (by(dsimp only[List.set,cA,cN,List.take,List.drop];done)) (fun _=>by(dsimp only[List.set];done)) ?_
   intro V15 hV15
   refine AM.ok ?_
   dsimp only[a0z]
   refine vg ?_
   try dsimp only[cA,cN]
   refine vO ?_
   try dsimp only[List.eraseIdx]
   refine xd ?_
   refine vg ?_
   try dsimp only[cA,cN]
   refine AMS.go (by exact(by exact a0C 145 4 rfl rfl a0h)) ?_
   try dsimp only[List.eraseIdx]
   refine xX _ (fun w0 R0=> ?_)
   refine yA 0 (AM.okN ?_)
   dsimp only[a0z]
   refine vg ?_
   try dsimp only[cA,cN]
   refine AMS.nil (xz (zo (zr ?_)))
   refine zA ?_
   refine zb (zI ?_)
   refine AQ.g ?_
   refine G.coeRow 1 (c0N os (oat L k)).length (a0x (c0N os (oat L k))) rfl (by rw[b0a];omega) (CoeL.of_eq ((List.append_assoc _ _ _).trans (c0X hpp (by omega) (by omega) (by omega)))) ?_
   refine AQ.u ?_
   refine wj _ _ _ (by omega) (⟨k+1,c0N os (oat L k),_,by omega,hsc.symm,‹_›,fun hh=>absurd (congrArg List.length hh) (by rw[b0a];simp),rfl,rfl,rfl⟩)
  refine wb ?_
  refine xY ?_
  refine x3 ?_
  refine xx (zo (zD (zr ?_)))
  refine zt ?_
  refine zn ?_
  refine zb ?_
  refine vT (O.sliceV0 rfl rfl rfl rfl ⟨by omega,by omega,by omega⟩ (by omega) (by assumption)) ?_
  refine vV (O.appendNil rfl (by rfl) (by rfl) rfl rfl (by exact SrcA.ro TyD.ax (by rfl) (lB rfl)) (by rfl) (by(unfold maxLen;omega)) (by omega)) ?_
  intro V13 hV13
  refine zc (zI (zo ?_))
  refine vm [[(0,false),(1,false),(2,false),(3,false),(4,false),(5,false),(7,false),(6,true)],[(8,true)],[(9,false)],[(10,true)]] ?_
  refine AMS.go (by exact(a0Y 3 rfl a0h)) ?_
  try dsimp only[List.eraseIdx]
  refine xd ?_
  refine yT ?_
  refine yR ?_
  refine wN ?_
  refine zZ ?_
  refine xh ?_
  refine yR ?_
  refine xX _ (fun w0 R0=> ?_)
  refine AO.appendCut (i:=0) rfl rfl rfl rfl (by rfl) (by rfl) rfl rfl rfl (by omega) (by exact SrcA.ro TyD.ax (by rfl) (lB rfl)) (by rfl) (by(unfold maxLen;omega)) (by omega) ⟨by omega,by assumption⟩ (by(dsimp only[List.set,cA,cN,List.take,List.drop];done)) (fun _=>by(dsimp only[List.set];done)) ?_
  intro V14 hV14
  refine AM.ok ?_
  dsimp only[a0z]
  refine vg ?_
  try dsimp only[cA,cN]
  refine vc ?_
  try dsimp only[List.eraseIdx]
  refine xX _ (fun w0 R0=> ?_)
  refine AO.append' (i:=0) rfl rfl rfl rfl (by rfl) (by rfl) rfl rfl rfl (by exact SrcA.row TyD.ax mM (by rfl)) (by rfl) (by(unfold maxLen;omega)) (by omega) (by(dsimp only[List.set,cA,cN,List.take,List.drop];done)) (fun _=>by(dsimp only[List.set];done)) ?_
  intro V15 hV15
  refine AM.ok ?_
  dsimp only[a0z]
  refine vg ?_
  try dsimp only[cA,cN]
  refine vO ?_
  try dsimp only[List.eraseIdx]
  refine xd ?_
  refine vg ?_
  try dsimp only[cA,cN]
  refine AMS.go (by exact(by exact a0C 145 4 rfl rfl a0h)) ?_
  try dsimp only[List.eraseIdx]
  refine xX _ (fun w0 R0=> ?_)
  refine yA 0 (AM.okN ?_)
  dsimp only[a0z]
  refine vg ?_
  try dsimp only[cA,cN]
  refine AMS.nil (xz (zo (zr ?_)))
  refine zA ?_
  refine zb (zI ?_)
  refine AQ.g ?_
  refine G.coeRow 1 (c0N os (oat L k)).length (a0x (c0N os (oat L k))) rfl (by rw[b0a];omega) (CoeL.of_eq ((List.append_nil _).trans (g0Q hpp (by omega) (by omega)))) ?_
  refine AQ.u ?_
  refine wj _ _ _ (by omega) (⟨k+1,c0N os (oat L k),_,by omega,hsc.symm,‹_›,fun hh=>absurd (congrArg List.length hh) (by rw[b0a];simp),rfl,rfl,rfl⟩)
  skip
 have hoe:os=b0N L:=by rw[hos,List.take_of_length_le (by omega)]
 subst hoe
 refine AW.g ?_
 refine G.freezeCell 0 0 4 rfl rfl rfl ?_
 refine AW.u ?_
 refine wb ?_
 refine xY ?_
 refine x3 ?_
 refine xx (zo (zD (zr ?_)))
 refine zB ?_
 refine za 1 ?_
 refine zc (zI (zo (xc ?_)))
 refine x8 zm xe (i0d e)
end Go.Proofs.YtojomcdjcpmnkaaGreat.By
namespace Go.Proofs.YtojomcdjcpmnkaaGreat.By
open Go.RowKit L A
theorem i0Z (a b:UInt8):a^^^b^^^b=a:=by rw[UInt8.xor_assoc,UInt8.xor_self,UInt8.xor_zero]
theorem m0n (w:Nat→UInt8)(nonce t:List UInt8)(i:Nat)(h:i<t.length):e0l w nonce (fnB t.length (e0l w nonce t)) i=kf t i:=by
 rw[e0l,i0A h,e0l,i0Z]
theorem o0x (w:Nat→UInt8)(nonce t:List UInt8):fnB t.length (e0l w nonce (fnB t.length (e0l w nonce t)))=t:=by
 rw[b0W (fun i hi=>m0n w nonce t i hi),n0F rfl]
theorem n0G {n:Nat}{f g:Nat→UInt8}(h:fnB n f=fnB n g): ∀q,q<n→f q=g q:=fun q hq=>by
 have:=congrArg (fun l=>kf l q) h
 simpa only[i0A hq]using this
def p0B (cipher:List UInt8)(n T:Nat)(q:Nat):UInt8:=if q<T then kf cipher (n+q)else 0
theorem r0M {key nonce aad cipher:List UInt8}{tag:Int}{n T:Nat}(hcv:cvB key nonce tag=true)(hT:tag=(T:Int))(hl:cipher.length=n+T)(ha:aad.length≤4096)(hn:n≤4096):
  g0s key nonce aad cipher tag=decide (fnB T (e0g (wK key) nonce (p0B cipher n T))=fnB T (i0x (wK key) nonce aad (e0v key nonce cipher tag) tag)):=by
 have hct:(cipher.take n).length=n:=by rw[List.length_take];omega
 have hPT:e0v key nonce cipher tag=fnB n (e0l (wK key) nonce (cipher.take n)):=by rw[e0v,hT,show cipher.length-(T:Int).toNat=n by omega]
 obtain⟨PT,hP⟩: ∃PT,PT=e0v key nonce cipher tag:=⟨_,rfl⟩
 have hPl:PT.length=n:=by rw[hP,hPT,a0G]
 have hso:c0e aad PT=true:=by
  simp only[c0e,Bool.and_eq_true,cQ];omega
 have hb:fnB n (e0l (wK key) nonce PT)=cipher.take n:=by
  have:=o0x (wK key) nonce (cipher.take n)
  rw[hct]at this
  rw[hP,hPT];exact this
 obtain⟨M,hM⟩: ∃M,M=i0x (wK key) nonce aad PT tag:=⟨_,rfl⟩
 have hs:e0n key nonce aad PT tag=cipher.take n++fnB T (e0g (wK key) nonce M):=by
  rw[(c0S hcv hso).1,hPl,hb,←hM,hT];rfl
 rw[g0s,←hP,hs,←hM]
 have hd:cipher.drop n=fnB T (fun q=>kf cipher (n+q)):=by
  apply List.ext_getElem
  ·rw[List.length_drop,a0G];omega
  intro q h1 h2
  rw[a0G]at h2
  have g: ∀(N:Nat) (f:Nat→UInt8) (q:Nat) (h:q<(fnB N f).length),(fnB N f)[q]=f q:=fun N f q h=>by simp[fnB]
  rw[g,List.getElem_drop,kf,List.getD_eq_getElem?_getD,List.getElem?_eq_getElem (by omega)];rfl
 rw[Bool.eq_iff_iff,beq_iff_eq,cQ]
 have h3:(cipher.take n++fnB T (e0g (wK key) nonce M)=cipher)↔fnB T (e0g (wK key) nonce M)=cipher.drop n:=by
  constructor
  ·intro h
   have:=congrArg (List.drop n) h
   rw[List.drop_left' hct]at this;exact this
  intro h;rw[h,List.take_append_drop]
 rw[h3,hd]
 constructor
 ·intro h
  have h4:=n0G h
  exact b0W fun q hq=>by
   rw[e0g,p0B,if_pos hq,←h4 q hq,e0g,i0Z]
 intro h
 have h4:=n0G h
 exact b0W fun q hq=>by
  have:=h4 q hq
  rw[e0g,p0B,if_pos hq]at this
  rw[e0g,←this,i0Z]
attribute [local irreducible] AW AQ AO
attribute [local simp] a0b
theorem s0k {cipher:List UInt8}{n T:Nat}(hl:cipher.length=n+T)(hT:T≤16):a0d (arB 16 fun _=>0) (0+0*1) ((a0a (cipher.drop n)).take (min (cipher.drop n).length (16-0)))=arB 16 (p0B cipher n T):=by
 have hd:(cipher.drop n).length=T:=by rw[List.length_drop];omega
 have e:a0a (cipher.drop n)=arB T (p0B cipher n T):=by
  rw[e0Q,hd]
  exact a0c fun q hq=>by
   rw[p0B,if_pos hq];simp[kf,List.getElem?_drop]
 rw[e,List.take_of_length_le (by rw[a0b];omega)]
 rw[d0p (by omega)]
 exact a0c fun q hq=>by
  by_cases h:q<T
  ·rw[if_pos (by omega),show q-(0+0*1)=q by omega]
  rw[if_neg (by omega),p0B,if_neg h]
theorem n0I (x y:List UInt8):Sp Tryz.prog 172 [roB x,roB y] [] (Is (.val (.bool (decide (x=y))))):=by
 refine yN Tryz.func172 _ Tryz.ntmps172 (fun w0 R0=> ?_)
 refine zD (zr ?_)
 refine zc (zI (zo (zD (zr ?_))))
 refine zb ?_
 refine vT (O.convS rfl rfl (by rfl)) ?_
 refine zb ?_
 refine vT (O.convS rfl rfl (by rfl)) ?_
 refine vT (O.eqlS rfl rfl rfl (by rfl)) ?_
 refine zc (zI (zo (xc ?_)))
 have e:decide (x=y)=(x==y):=g0a (by simp)
 refine vu rfl rfl nS (⟨by rw[a0R,a0R,e],rfl⟩)
theorem p0V (n:Nat)(f:Nat→UInt8):o0o (Is (.agg (arB n f))):=by
 rintro r Hn ⟨rfl,rfl⟩
 refine⟨fun R R' W u h=> ?_,fun e he=>by cases he⟩
 cases h with
 |agg _ cs hs hc=>exact .agg _ cs hs fun j hj=>(hc j hj).plain (k0b n f _ (List.getElem_mem hj))
theorem r0L (key nonce aad cipher:List UInt8)(tag:Int)(ha:aad.length≤1000000)(hp:cipher.length≤1000000):Sp Tryz.prog 139 [roB key,roB nonce,roB aad,roB cipher,.val (.int .i64 tag)] [] (Is (.tup [roB (b0y key nonce aad cipher tag),.val (.int .i64 (b0M key nonce aad cipher tag))])):=by
 refine yN Tryz.func139 _ Tryz.ntmps139 (fun w0 R0=> ?_)
 refine zD (zr ?_)
 refine zc ?_
 refine zc (zI (zo (zD (xj (zD (zr ?_))))))
 refine zb ?_
 refine zb ?_
 refine zb ?_
 refine vT (xH rfl Tryz.func156 rfl rfl rfl (k0V key nonce _)) ?_
 refine xq ?_
 refine zc (zI (zo ?_))
 refine yk (fun h=> ?_) (fun h=> ?_)<;>(try simp only[vX]at h)
 ·have hb:cvB key nonce tag=false:=by simpa using h
  have e1:b0y key nonce aad cipher tag= []:=by simp[b0y,hb]
  have e2:b0M key nonce aad cipher tag=1:=by simp[b0M,hb]
  rw[e1,e2]
  refine zD (zr ?_)
  refine zc ?_
  refine zc (zI (zo (xc ?_)))
  refine wi (xr ?_)
  refine x8 yJ yq (⟨rfl,rfl⟩)
 obtain⟨hk,hn7,hn13,ht4,ht16,ht2⟩:=k0T h
 refine zD (zr ?_)
 refine zb ?_
 refine zW ?_
 refine yS ?_
 refine zb ?_
 refine yt ?_
 refine yb 29 ?_
 refine yt ?_
 refine AO.opG rfl rfl rfl (fun hp=>wW 31 rfl (by exact hp) zF) ?_
 refine AO.opG rfl rfl rfl (fun hp=>wW 30 rfl (by exact hp) (wW 32 rfl (by exact hp) yI)) ?_
 refine zE ?_
 refine zc (zI (zo ?_))
 refine yk (fun h2=> ?_) (fun h2=> ?_)<;>(try simp only[vX]at h2)
 ·have hb:d0B aad cipher tag=false:=by
   simp only[d0B,Bool.and_eq_false_iff,decide_eq_false_iff_not]
   omega
  have e1:b0y key nonce aad cipher tag= []:=by simp[b0y,hb]
  have e2:b0M key nonce aad cipher tag=8:=by simp[b0M,h,hb]
  rw[e1,e2]
  refine zD (zr ?_)
  refine zc ?_
  refine zc (zI (zo (xc ?_)))
  refine wi (xr ?_)
  refine x8 yJ yq (⟨rfl,rfl⟩)
 have hb:d0B aad cipher tag=true:=by
  simp only[d0B,Bool.and_eq_true,cQ]
  omega
 refine zD (zr ?_)
 refine zb ?_
 refine zW ?_
 refine zb ?_
 refine zP ?_
 refine zc (zI (zo ?_))
 refine yk (fun h3=> ?_) (fun h3=> ?_)<;>(try simp only[vX]at h3)
 ·have e1:b0y key nonce aad cipher tag= []:=by simp[b0y,show ¬tag≤(cipher.length:Int) by omega]
  have e2:b0M key nonce aad cipher tag=2:=by simp[b0M,h,hb,show ¬tag≤(cipher.length:Int) by omega]
  rw[e1,e2]
  refine zD (zr ?_)
  refine zc ?_
  refine zc (zI (zo (xc ?_)))
  refine wi (xr ?_)
  refine x8 yJ yq (⟨rfl,rfl⟩)
 have h3':tag≤(cipher.length:Int):=by omega
 obtain⟨T,hT⟩: ∃T:Nat,tag=(T:Int):=⟨tag.toNat,by omega⟩
 obtain⟨n,hn⟩: ∃n:Nat,n=cipher.length-T:=⟨_,rfl⟩
 have hl:cipher.length=n+T:=by omega
 have hT16:T≤16:=by omega
 have hn':(cipher.length:Int)-tag=(n:Int):=by omega
 have hct:(cipher.take n).length=n:=by rw[List.length_take];omega
 have hopt:e0v key nonce cipher tag=fnB n (e0l (wK key) nonce (cipher.take n)):=by rw[e0v,hT,show cipher.length-(T:Int).toNat=n by omega]
 have heq:=r0M (aad:=aad) h hT hl (by omega) (by omega)
 obtain⟨PT,hPT⟩: ∃PT,PT=e0v key nonce cipher tag:=⟨_,rfl⟩
 have hPl:PT.length=n:=by rw[hPT,hopt,a0G]
 have eP:arB (cipher.take n).length (e0l (wS (kf key)) nonce (cipher.take n))=a0a PT:=by rw[hPT,hopt,hct];rfl
 refine AW.g ?_
 refine G.re 0 (.ro false 16 (arB 16 (kf key))) (congrArg some (i0c hk)) ?_
 refine AW.u ?_
 have hst:=h0W (wS (kf key)) nonce (cipher.take n) (p0B cipher n T) hn13 (by omega)
 have eL:(cipher.take n).length=PT.length:=by rw[hct,hPl]
 rw[eP,eL]at hst
 have hq:=n0I (fnB T (e0g (wS (kf key)) nonce (p0B cipher n T))) (fnB T (i0x (wS (kf key)) nonce aad PT tag))
 rw[b0E,b0E]at hq
 refine yX (xz (zo (zD (zr ?_))))
 refine zb ?_
 refine zW ?_
 refine zb ?_
 refine yK ?_
 refine zc (zI (zo (zD (zr ?_))))
 refine zb ?_
 refine AO.opB (xH rfl Tryz.func157 rfl rfl rfl (i0V _)) rfl rfl rfl ?_
 intro B1
 refine zc ?_
 refine AO.g ?_
 refine G.freezePtr 0 13 rfl rfl ?_
 refine AO.u ?_
 dsimp only[List.eraseIdx]
 refine zI (zo (zD (zr ?_)))
 refine zd ?_
 intro B2
 refine zI (zo (zD ?_))
 refine yw 4 ?_
 simp only[cT,cZ,cD,cO]
 refine vS (O.sliceArrK (p:=0) rfl rfl rfl rfl (by rfl) (by rfl) ⟨by omega,by omega⟩ (by omega)) ?_
 refine zG ?_
 refine zG ?_
 refine vS (O.sliceFromB (k:=n) rfl rfl rfl (by omega) (by omega)) ?_
 refine wZ ?_
 simp only[a0f,cN,cA,cP]
 refine AO.copyIn (i:=0) rfl rfl rfl rfl (by exact c0F _) (by exact g0Y _) rfl (by show 0+0*1+min (cipher.drop n).length (16-0)≤16;omega) (by exact s0k hl hT16) rfl rfl (fun q h=>by cases h;exact lB rfl) ?_
 rintro _ rfl
 dsimp only[List.set]
 refine zI (zo (zD ?_))
 refine AW.regionA _ (Al.mk' (i:=10) (d:=16) (T:=171) _ rfl rfl rfl rfl rfl (by(dsimp only[List.set,cA,cN,List.take,List.drop];done)) (by rfl)) [(0,false),(1,false),(2,false),(3,false),(4,false),(5,false),(6,true),(7,false),(8,false),(9,false),(10,true),(11,false),(12,true)] (by kernel_rfl) (by kernel_rfl) (by exact a0h) ?_
 dsimp only[List.eraseIdx]
 refine vy ?_
 refine vy ?_
 refine vy ?_
 refine vy ?_
 refine AN.op rfl (O.sliceToB (k:=n) rfl rfl rfl (by omega) (by omega)) rfl rfl rfl ?_
 refine AN.op rfl (O.loadK rfl rfl (by repeat(exact List.Mem.head _)) (by exact o0g _) (by exact a0b _ _)) rfl rfl rfl ?_
 refine AN.main _ rfl rfl (fun w0 R0=> ?_)
 refine AO.opN (xH rfl Tryz.func158 rfl rfl rfl hst) rfl rfl rfl ?_
 rintro _ _ ⟨V443,hV443,rfl,rfl⟩
 simp only[cA,cN]
 refine AM.ok ?_
 dsimp only[a0z]
 refine vy ?_
 refine AN.op rfl yy rfl rfl rfl ?_
 refine AN.op rfl yy rfl rfl rfl ?_
 refine AN.box rfl ?_
 intro B4
 dsimp only[Al.he]
 refine AN.op rfl zi rfl rfl rfl ?_
 refine AN.main _ rfl rfl (fun w0 R0=> ?_)
 refine xf 0 (AM.okN ?_)
 dsimp only[a0z]
 refine AN.nil ?_
 dsimp only[cA,cN]
 refine zo (zD (zr ?_))
 refine zb ?_
 refine AO.g ?_
 refine G.freezePtr 0 16 rfl rfl ?_
 refine AO.u ?_
 dsimp only[List.eraseIdx]
 refine zb ?_
 refine zb ?_
 refine zb ?_
 refine zb ?_
 refine AO.opN (O.callLP rfl Tryz.func159 rfl rfl rfl (by repeat(exact List.Mem.head _)) (o0e (wS (kf key)) nonce aad PT tag hn13 ⟨ht4,ht16⟩ (by omega) (by omega)) (p0V _ _) (by(repeat(first|exact LendL.nil|refine LendL.same ?_|refine LendL.lend ?_));done)) rfl rfl rfl ?_
 rintro _ _ ⟨rfl,rfl⟩
 simp only[cA,cN]
 refine zd ?_
 intro B6
 refine xf 0 ?_
 refine AO.g ?_
 refine G.freezePtr 0 17 rfl rfl ?_
 refine AO.u ?_
 dsimp only[List.eraseIdx]
 refine zI (zo (zD (zD ?_)))
 refine yw 6 ?_
 simp only[cT,cZ,cD,cO]
 refine zG ?_
 refine vS (O.sliceArrRK (p:=0) (q:=T) rfl rfl rfl rfl (by rfl) (by omega) ⟨by omega,by omega⟩ (by omega) (by(unfold maxLen;omega)) (by exact p0S (by omega) _)) ?_
 refine zG ?_
 refine vS (O.sliceArrRK (p:=0) (q:=T) rfl rfl rfl rfl (by rfl) (by omega) ⟨by omega,by omega⟩ (by omega) (by(unfold maxLen;omega)) (by exact p0S (by omega) _)) ?_
 refine vS (xH rfl Tryz.func172 rfl rfl rfl hq) ?_
 refine vS xv ?_
 refine wZ ?_
 simp only[a0f,cN,cA,cP]
 refine zI (zo ?_)
 rw[←hPT]at heq
 refine yk (fun h72=> ?_) (fun h72=> ?_)<;>(try simp only[vX]at h72)
 ·have hB:g0s key nonce aad cipher tag=false:=by rw[heq];simpa using h72
  have e1:b0y key nonce aad cipher tag= []:=by simp[b0y,hB]
  have e2:b0M key nonce aad cipher tag=11:=by simp[b0M,h,hb,h3',hB]
  rw[e1,e2]
  refine zD (zr ?_)
  refine zc ?_
  refine zc (zI (zo (xc (xr ?_))))
  refine x8 yJ yq (⟨rfl,rfl⟩)
 have hB:g0s key nonce aad cipher tag=true:=by rw[heq];simpa using h72
 have e1:b0y key nonce aad cipher tag=PT:=by simp[b0y,h,hb,h3',hB,hPT]
 have e2:b0M key nonce aad cipher tag=0:=by simp[b0M,h,hb,h3',hB]
 rw[e1,e2]
 refine yX (zo (zD (zr ?_)))
 refine zb ?_
 refine zc ?_
 refine zc (zI (zo (xc ?_)))
 refine AQ.g ?_
 refine yf 0 [10] ?_
 refine AQ.u ?_
 try dsimp only[List.map,List.eraseIdx,cA,cN]
 refine x8 yJ xe (⟨rfl,rfl⟩)
end Go.Proofs.YtojomcdjcpmnkaaGreat.By
namespace Go.Proofs.YtojomcdjcpmnkaaGreat.By
open Go.RowKit L A Dk
theorem l0V: ∀(k:Nat) (s out:List UInt8),s.length=k→s≠ []→bt s 0≠0→l0W (beVal s) out=s++out:=by
 intro k
 induction k with
 |zero=>intro s out h hne;exact absurd (List.eq_nil_of_length_eq_zero h) hne
 | succ k ih=>
  intro s out h hne h0
  obtain⟨t,x,rfl⟩: ∃r x,s=r++[x]:=⟨s.dropLast,s.getLast hne,(List.dropLast_concat_getLast hne).symm⟩
  have hx:=x.toNat_lt
  have hd:(beVal t*256+x.toNat)/256=beVal t:=by omega
  have hu:u8 ((beVal t*256+x.toNat:Nat):Int)=x:=by
   have h9:=h0f x
   rw[s0T _ (x.toNat:Int) (by omega)];exact h9
  by_cases ht:t= []
  ·subst ht
   have hx0:x.toNat≠0:=fun e=>h0 (by show x=0;exact UInt8.toNat_inj.1 e)
   have:beVal ([]++[x])=x.toNat:=by simp[beVal]
   rw[this,a0T hx0,show x.toNat/256=0 by omega,a0V,h0f];rfl
  have ht0:bt t 0≠0:=by
   cases t with
   |nil=>exact absurd rfl ht
   |cons y t=>exact h0
  have hpos:beVal t≠0:=fun e=>by
   have h9:=ih t [] (by simp at h;exact h) ht ht0
   rw[e,a0V]at h9
   exact ht (by simpa using h9.symm)
  rw[d0o,a0T (by omega),hd,hu,ih t _ (by simp at h;exact h) ht ht0];simp
theorem n0c {s:List UInt8}(h:(d0j s).2=0):b0K (d0j s).1=s∧0≤(d0j s).1∧(d0j s).1≤1099511627775:=by
 unfold d0j at h⊢
 split at h
 ·simp at h
 rename_i h0
 rw[if_neg h0]
 split at h
 ·simp at h
 rename_i h1
 rw[if_neg h1]
 split at h
 ·simp at h
 rename_i h2
 rw[if_neg h2]
 have hlt:=p0R s.length s rfl
 have hlt5:beVal s<1099511627776:=Nat.lt_of_lt_of_le hlt (Nat.le_trans (Nat.pow_le_pow_right (by decide) (show s.length≤5 by omega)) (by decide))
 refine⟨?_,by simp only;omega,by simp only;omega⟩
 simp only
 have hne:s≠ []:=fun e=>h0 (by rw[e];rfl)
 unfold b0K
 rw[if_neg (by omega),Int.toNat_natCast]
 by_cases hb:bt s 0=0
 ·have h9:s.length=1:=by
   rcases Nat.lt_or_ge 1 s.length with h3|h3
   ·exact absurd ⟨h3,hb⟩ h2
   omega
  match s,h9 with
  | [x],_=>
   have:x=0:=hb
   subst this
   have:beVal [0]=0:=rfl
   rw[this,a0V];rfl
 have h9:=l0V s.length s [] rfl hne hb
 by_cases hz:beVal s=0
 ·rw[hz,a0V]at h9;exact absurd (by simpa using h9.symm) hne
 rw[a0T hz]at h9
 simpa using h9
theorem l0H: ∀f:Nat,f<64→f%8+(if f&&&8=0 then 0 else 8)+(if f&&&16=0 then 0 else 16)+(if(((f&&&32:Nat):Int) !=0)=true then 32 else 0)=f:=by decide
theorem p0I {r:List UInt8}{y:Cmp}(h:n0S r=(y,0)):c0O y=(r,0):=by
 unfold n0S at h
 split at h
 ·rename_i h0
  have:r= []:=List.eq_nil_of_length_eq_zero h0
  subst this
  simp only[Prod.mk.injEq,and_true]at h
  subst h
  unfold c0O
  rw[if_neg (by decide)]
  have e:flg ⟨-1,false,[],false,[],false⟩=0:=by
   unfold flg
   have:b0K (-1)= []:=by unfold b0K;rw[if_pos (by omega)]
   rw[this];rfl
  rw[if_pos e]
 rename_i h0
 split at h
 ·simp at h
 rename_i h1
 split at h
 ·simp at h
 rename_i h2
 obtain⟨x,t,rfl⟩: ∃x t,r=x::t:=by
  cases r with
  |nil=>simp at h0
  |cons x t=>exact⟨x,t,rfl⟩
 have hb0:bt (x::t) 0=x:=rfl
 rw[hb0]at h2 h
 simp only[cD,cO]at h
 obtain⟨f,hf⟩: ∃f,f=x.toNat:=⟨_,rfl⟩
 rw[←hf]at h2 h
 have hfb:=l0H f (by omega)
 have fin: ∀(p:Int) (pb:List UInt8),b0K p=pb→pb.length=f%8→ -1≤p→p≤1099511627775→ ∀(hc:Bool) (cx s:List UInt8),cx.length≤16→(hc=true∨cx= [])→(f&&&16=0↔hc=false)→q0v f p hc cx s=(y,0)→
   c0O y=(x::pb++(if hc then u8 cx.length::cx else [])++s,0):=by
  intro p pb hp hpl hp1 hp2 hc cx s hcl hcx h16 hd
  have hff: ∀hk:Bool,(f&&&8=0↔hk=false)→flg ⟨p,hk,s,hc,cx,(((f&&&32:Nat):Int) !=0)⟩=(f:Int):=fun hk h8=>by
   unfold flg
   rw[hp,hpl]
   have e8:(if hk=true then(8:Int)else 0)=((if f&&&8=0 then 0 else 8:Nat):Int):=by
    cases hk with
    |false=>rw[if_pos (h8.2 rfl)];rfl
    |true=>rw[if_pos rfl,if_neg (fun e=>by have:=h8.1 e;cases this)];rfl
   have e16:(if hc=true then(16:Int)else 0)=((if f&&&16=0 then 0 else 16:Nat):Int):=by
    cases hc with
    |false=>rw[if_pos (h16.2 rfl)];rfl
    |true=>rw[if_pos rfl,if_neg (fun e=>by have:=h16.1 e;cases this)];rfl
   have e32:(if(((f&&&32:Nat):Int) !=0)=true then(32:Int)else 0)=((if(((f&&&32:Nat):Int) !=0)=true then 32 else 0:Nat):Int):=by split<;>rfl
   simp only[e8,e16,e32]
   omega
  have hfu:u8 (f:Int)=x:=by rw[hf];exact h0f x
  have build: ∀hk:Bool,(f&&&8=0↔hk=false)→(hk=true∨s= [])→s.length≤7→c0O ⟨p,hk,s,hc,cx,(((f&&&32:Nat):Int) !=0)⟩=(x::pb++(if hc then u8 cx.length::cx else [])++s,0):=fun hk h8 hs hs7=>by
   have hv:i0Y ⟨p,hk,s,hc,cx,(((f&&&32:Nat):Int) !=0)⟩:=by
    refine⟨⟨hp1,hp2,by simp only;omega,by simp only;omega⟩,?_,?_⟩
    ·rcases hs with hs|hs
     ·exact .inl hs
     exact .inr (by rw[hs];rfl)
    rcases hcx with hs|hs
    ·exact .inl hs
    exact .inr (by rw[hs];rfl)
   unfold c0O
   rw[if_neg (by simpa using hv),hff hk h8,if_neg (by omega)]
   unfold q0u
   rw[hff hk h8,hfu,hp]
  unfold q0v at hd
  split at hd
  ·rename_i h8
   split at hd
   ·simp at hd
   rename_i hs
   have:s= []:=List.eq_nil_of_length_eq_zero (by omega)
   subst this
   simp only[Prod.mk.injEq,and_true]at hd
   subst hd
   exact build false ⟨fun _=>rfl,fun _=>h8⟩ (.inr rfl) (by simp)
  rename_i h8
  split at hd
  ·simp at hd
  rename_i hs
  simp only[Prod.mk.injEq,and_true]at hd
  subst hd
  exact build true ⟨fun e=>absurd e h8,fun e=>by cases e⟩ (.inl rfl) (by omega)
 have mid: ∀(p:Int) (pb:List UInt8),b0K p=pb→pb.length=f%8→ -1≤p→p≤1099511627775→ ∀s,i0S f p s=(y,0)→c0O y=(x::pb++s,0):=by
  intro p pb hp hpl hp1 hp2 s hd
  unfold i0S at hd
  split at hd
  ·rename_i h16
   have:=fin p pb hp hpl hp1 hp2 false [] s (by simp) (.inr rfl) ⟨fun _=>rfl,fun _=>h16⟩ hd
   simpa using this
  rename_i h16
  split at hd
  ·simp at hd
  rename_i hs0
  obtain⟨m,q,rfl⟩: ∃m q,s=m::q:=by
   cases s with
   |nil=>simp at hs0
   |cons x t=>exact⟨x,t,rfl⟩
  have hbm:bt (m::q) 0=m:=rfl
  rw[hbm]at hd
  split at hd
  ·simp at hd
  rename_i hm
  split at hd
  ·simp at hd
  rename_i hq
  simp only[cD,cO]at hd
  have hql:m.toNat≤q.length:=by simp at hq;omega
  have ht:(q.take m.toNat).length=m.toNat:=by simp;omega
  have:=fin p pb hp hpl hp1 hp2 true (q.take m.toNat) _ (by omega) (.inl rfl) ⟨fun e=>absurd e h16,fun e=>by cases e⟩ hd
  rw[this,ht]
  have e1:u8 ((m.toNat:Nat):Int)=m:=h0f m
  have e2:(m::q).drop (1+m.toNat)=q.drop m.toNat:=by rw[Nat.add_comm];rfl
  rw[e2,if_pos rfl,e1]
  simp[List.take_append_drop]
 unfold u0w at h
 split at h
 ·simp at h
 rename_i hl
 split at h
 ·rename_i hpos
  split at h
  ·rename_i he
   simp only[Prod.mk.injEq]at h
   exact absurd h.2 he
  rename_i he
  obtain⟨g1,g2,g3⟩:=n0c (s:=t.take (f%8)) (by simpa using he)
  have:=mid _ _ g1 (by simp;omega) (by omega) g3 _ h
  rw[this]
  simp[List.take_append_drop]
 rename_i hpos
 have h8:f%8=0:=by omega
 have:=mid (-1) [] (by unfold b0K;rw[if_pos (by omega)]) (by simp[h8]) (by omega) (by omega) _ h
 rw[this,h8];rfl
end Go.Proofs.YtojomcdjcpmnkaaGreat.By
namespace Go.Proofs.YtojomcdjcpmnkaaGreat.By
open Go.RowKit L A
attribute [local irreducible] AW AQ AO
noncomputable def q0S (m:Msg)(p:List UInt8)(q:Bool):Msg×Int:=
 if(a0E p).2≠0 then(Msg.none,(a0E p).2)else if q≠rq (a0E p).1.code then(Msg.none,4)else c0l m (a0E p).1
theorem q0b {m:Msg}{p:List UInt8}{q:Bool}(h:(a0E p).2≠0):q0S m p q=(Msg.none,(a0E p).2):=if_pos h
theorem q0a {m:Msg}{p:List UInt8}{q:Bool}(h:(a0E p).2=0)(h2:q≠rq (a0E p).1.code):q0S m p q=(Msg.none,4):=(if_neg (fun g=>g h)).trans (if_pos h2)
theorem p0Z {m:Msg}{p:List UInt8}{q:Bool}(h:(a0E p).2=0)(h2:q=rq (a0E p).1.code):q0S m p q=c0l m (a0E p).1:=(if_neg (fun g=>g h)).trans (if_neg (fun g=>g h2))
noncomputable def h0v (key:List UInt8)(m:Msg)(nonce aad:List UInt8)(q:Bool):Msg×Int:=
 if b0M key nonce aad m.pay 8≠0 then(Msg.none,11)else q0S m (b0y key nonce aad m.pay 8) q
theorem n0m {key:List UInt8}{m:Msg}{nonce aad:List UInt8}{q:Bool}(h:b0M key nonce aad m.pay 8≠0):h0v key m nonce aad q=(Msg.none,11):=if_pos h
theorem n0l {key:List UInt8}{m:Msg}{nonce aad:List UInt8}{q:Bool}(h:b0M key nonce aad m.pay 8=0):h0v key m nonce aad q=q0S m (b0y key nonce aad m.pay 8) q:=if_neg (fun g=>g h)
theorem i0t (key nonce aad cipher:List UInt8)(tag:Int):(b0y key nonce aad cipher tag).length≤cipher.length:=by
 unfold b0y
 split
 ·unfold e0v;rw[a0G];omega
 simp
theorem k0c {m:Msg}(h:ValM m):l0Y m:=by
 obtain⟨h1,h2,h3,h4⟩:=ValM.sm h
 exact⟨by omega,by omega,by omega,fun k hk=>by have:=h4 k hk;omega⟩
theorem e0j {b:List UInt8}(h:(a0E b).2=0):ValM (a0E b).1∧(rq (a0E b).1.code=true∨rs (a0E b).1.code=true):=by
 unfold a0E at h⊢
 by_cases h1:b= []
 ·rw[if_pos h1]at h;cases h
 rw[if_neg h1]at h⊢
 by_cases h2:rq ((bt b 0).toNat:Int)=true∨rs ((bt b 0).toNat:Int)=true
 ·rw[if_pos h2]at h⊢
  have hd:=n0Q h
  refine⟨hd.1,?_⟩
  obtain⟨⟨⟨-, -,c0,c1, -⟩, -⟩, -⟩:=hd.1
  have e:bt (raw (b0Y (unB b)).1) 1=u8 (b0Y (unB b)).1.code:=rfl
  rw[hd.2]at e
  have e2:bt (unB b) 1=bt b 0:=rfl
  have e3:=a0F (x:=(b0Y (unB b)).1.code) (by omega)
  rw[←e,e2]at e3
  rw[←e3];exact h2
 rw[if_neg h2]at h;cases h
theorem k0i {m:Msg}(h:SmS m):l0Y m:=by
 obtain⟨h1,h2,h3,h4⟩:=h
 refine⟨by omega,by omega,h3,fun k hk=> ?_⟩
 have:=h4 (oat m.opts k) (b0f Opt.none hk)
 omega
theorem s0Y {m:Msg}(h:SmS m):SmO m:=⟨by have:=h.2.2.1;omega,fun o ho=>by have:=h.2.2.2 o ho;omega⟩
theorem j0c (m:Msg)(p:List UInt8)(q:Bool)(hm:SmS m)(hp:p.length≤900000):Sp Tryz.prog 143 [a0U m,roB p,.val (.bool q)] [] (Is (g0r (q0S m p q))):=by
 have hmt:=k0i hm
 refine yN Tryz.func143 _ Tryz.ntmps143 (fun w0 R0=> ?_)
 refine zD (zr ?_)
 refine ye ?_
 intro B1
 refine zd ?_
 intro B2
 refine zc (zI (zo (zD (zr ?_))))
 refine zb ?_
 refine vT (xH rfl Tryz.func174 rfl rfl rfl (l0k p (by omega))) ?_
 refine zb ?_
 refine zO ?_
 refine zO ?_
 refine zd ?_
 intro B3
 refine za 0 ?_
 refine zc (zI (zo (zD (zD (zr ?_)))))
 refine zb ?_
 refine y1 (zI (zo ?_))
 refine yk (fun h1=> ?_) (fun h1=> ?_)<;>(try simp only[vX]at h1)
 ·rw[q0b h1]
  refine zD (zr ?_)
  refine zN ?_
  refine zb ?_
  refine za 1 ?_
  refine zc (zI (zo (xc (xr ?_))))
  refine x8 zm zj (⟨rfl,rfl⟩)
 have hut:=k0c (e0j h1).1
 refine yX (zo (zD (zD (zr ?_))))
 refine zb ?_
 refine zt ?_
 refine zy ?_
 refine vT (xH rfl Tryz.func63 rfl rfl rfl (b0O _)) ?_
 refine vT (O.neqB rfl rfl rfl (by rfl)) (zI (zo ?_))
 refine yk (fun h2=> ?_) (fun h2=> ?_)<;>(try simp only[vX]at h2)
 ·rw[q0a h1 h2]
  refine zD (zr ?_)
  refine zN ?_
  refine za 1 ?_
  refine zc (zI (zo (xc (xr ?_))))
  refine x8 zm zj (⟨rfl,rfl⟩)
 rw[p0Z h1 h2]
 refine yX (zo (zD (zr ?_)))
 refine zC ?_
 refine zB ?_
 refine vT (xH rfl Tryz.func175 rfl rfl rfl (o0P m (a0E p).1 hmt hut)) ?_
 refine zO ?_
 refine zO ?_
 refine za 1 ?_
 refine zc (zI (zo (xc ?_)))
 refine AQ.retCT rfl rfl rfl mM (by rfl) rfl nS (⟨rfl,rfl⟩)
theorem n0k (m:Msg)(key nonce aad:List UInt8)(q:Bool)(hm:SmS m)(ha:aad.length≤1000000)(hpy:m.pay.length≤900000):Sp Tryz.prog 94 [a0U m,roB m.pay,roB key,roB nonce,roB aad,.val (.bool q)] [] (Is (g0r (h0v key m nonce aad q))):=by
 have hpl:m.pay.length≤1000000:=by omega
 have hol:=i0t key nonce aad m.pay 8
 refine yN Tryz.func94 _ Tryz.ntmps94 (fun w0 R0=> ?_)
 refine zD (zr ?_)
 refine ye ?_
 intro B1
 refine zd ?_
 intro B2
 refine zc (zI (zo (zD (zr ?_))))
 refine zb ?_
 refine zb ?_
 refine zb ?_
 refine zb ?_
 refine vT (xH rfl Tryz.func142 rfl rfl rfl (o0M key nonce aad m.pay 8 ha hpl)) ?_
 refine zb ?_
 refine zO ?_
 refine zO ?_
 refine zc ?_
 refine zc (zI (zo (zD (zD (zr ?_)))))
 refine zb ?_
 refine y1 (zI (zo ?_))
 refine yk (fun h1=> ?_) (fun h1=> ?_)<;>(try simp only[vX]at h1)
 ·rw[n0m h1]
  refine zD (zr ?_)
  refine zN ?_
  refine za 0 ?_
  refine zc (zI (zo (xc (xr ?_))))
  refine x8 zT zj (⟨rfl,rfl⟩)
 rw[n0l h1]
 refine yX (zo (zD (zr ?_)))
 refine zC ?_
 refine zb ?_
 refine zb ?_
 refine vT (xH rfl Tryz.func143 rfl rfl rfl (j0c m (b0y key nonce aad m.pay 8) q hm (by omega))) ?_
 refine zO ?_
 refine zO ?_
 refine za 0 ?_
 refine zc (zI (zo (xc ?_)))
 refine AQ.retCT rfl rfl rfl (by repeat(exact List.Mem.head _)) (by rfl) rfl nS (⟨rfl,rfl⟩)
theorem k0q {n:Int}(h:rq n=true∨rs n=true):(false=rq n)↔64≤n:=by
 unfold rq rs at*
 simp only[Bool.and_eq_true,cQ]at h
 constructor
 ·intro g
  rcases h with h|h
  ·simp[h.1,h.2]at g
  exact h
 intro g
 have: ¬n≤31:=by omega
 simp[this]
theorem l0x (c:Cx)(m:Msg)(nonce aad:List UInt8)(hm:SmS m)(ha:aad.length≤1000000)(hpy:m.pay.length≤900000):Sp Tryz.prog 93 [g0p c,a0U m,roB nonce,roB aad,.fn (.func 91) []] [] (Is (g0r (h0v c.rk m nonce aad false))):=by
 have hpl:m.pay.length≤1000000:=by omega
 have hol:=i0t c.rk nonce aad m.pay 8
 have hmt:=k0i hm
 refine yN Tryz.func93 _ Tryz.ntmps93 (fun w0 R0=> ?_)
 refine zD (zr ?_)
 refine ye ?_
 intro B1
 refine ye ?_
 intro B2
 refine zd ?_
 intro B3
 refine zc (zI (zo (zD (zr ?_))))
 refine zt ?_
 refine zn ?_
 refine zb ?_
 refine zb ?_
 refine zt ?_
 refine zn ?_
 refine vT (xH rfl Tryz.func139 rfl rfl rfl (r0L c.rk nonce aad m.pay 8 ha hpl)) ?_
 refine zb ?_
 refine zO ?_
 refine zO ?_
 refine zc ?_
 refine zc (zI (zo (zD (zD (zr ?_)))))
 refine zb ?_
 refine y1 (zI (zo ?_))
 refine yk (fun h1=> ?_) (fun h1=> ?_)<;>(try simp only[vX]at h1)
 ·rw[n0m h1]
  refine zD (zr ?_)
  refine zN ?_
  refine za 0 ?_
  refine zc (zI (zo (xc (xr ?_))))
  refine x8 zT zj (⟨rfl,rfl⟩)
 rw[n0l h1]
 refine yX (zo (zD (zr ?_)))
 refine zb ?_
 refine vT (xH rfl Tryz.func140 rfl rfl rfl (m0i (b0y c.rk nonce aad m.pay 8) (by omega))) ?_
 refine zb ?_
 refine zO ?_
 refine zO ?_
 refine zd ?_
 intro B4
 refine za 0 ?_
 refine zc (zI (zo (zD (zD (zr ?_)))))
 refine zb ?_
 refine y1 (zI (zo ?_))
 refine yk (fun h2=> ?_) (fun h2=> ?_)<;>(try simp only[vX]at h2)
 ·rw[q0b h2]
  refine zD (zr ?_)
  refine zN ?_
  refine zb ?_
  refine za 1 ?_
  refine zc (zI (zo (xc (xr ?_))))
  refine x8 zm zj (⟨rfl,rfl⟩)
 have huo:=e0j h2
 have hut:=k0c huo.1
 refine yX (zo (zD (zD (zr ?_))))
 refine zb ?_
 refine zt ?_
 refine zy ?_
 refine vT (O.callV rfl rfl Tryz.func91 rfl rfl rfl (k0A _)) ?_
 refine xq (zI (zo ?_))
 refine yk (fun h3=> ?_) (fun h3=> ?_)<;>(try simp only[vX]at h3)
 ·rw[q0a h2 (fun g=>by have:=(k0q huo.2).1 g;omega)]
  refine zD (zr ?_)
  refine zN ?_
  refine za 1 ?_
  refine zc (zI (zo (xc (xr ?_))))
  refine x8 zm zj (⟨rfl,rfl⟩)
 rw[p0Z h2 ((k0q huo.2).2 (by omega))]
 refine yX (zo (zD (zr ?_)))
 refine zC ?_
 refine zB ?_
 refine vT (xH rfl Tryz.func141 rfl rfl rfl (s0b m (a0E (b0y c.rk nonce aad m.pay 8)).1 hmt hut)) ?_
 refine zO ?_
 refine zO ?_
 refine za 1 ?_
 refine zc (zI (zo (xc ?_)))
 refine AQ.retCT rfl rfl rfl mM (by rfl) rfl nS (⟨rfl,rfl⟩)
end Go.Proofs.YtojomcdjcpmnkaaGreat.By
namespace Go.Proofs.YtojomcdjcpmnkaaGreat.W
open Go.RowKit
def v0b (n:Int):Nat:=if 64≤n then 2^64-1 else 2^n.toNat-1
def f0F (s t:Int)(b:Nat):Bool:=(List.range 64).all fun i=> !b.testBit i||(decide ((i:Int)<s)&&decide ((i:Int)≤t))
def d0H (s t:Int)(b:Nat)(l:Bool):Bool:=
  decide (1≤s∧s≤64∧ -1≤t∧t≤1099511627775)&&
    (if l then decide (b=0)&&decide (t= -1)
     else f0F s t b&&(decide (t= -1)||b.testBit 0))
end Go.Proofs.YtojomcdjcpmnkaaGreat.W
namespace Go.Proofs.YtojomcdjcpmnkaaGreat.W
open Go.RowKit L
abbrev u0D (s t:Int)(b:Nat)(l:Bool):Value:= .agg #[.int .i64 s,.int .i64 t,.int .u64 (b:Int),.bool l]
def p0w (n:Int):Prop:= -9223372036854775808≤n∧n≤9223372036854775807
theorem o0b (b:Nat)(hb:b<2^64):bits .and .u64 (b:Int) 1=((b%2:Nat):Int):=by
 rw[show(1:Int)=((1:Nat):Int)from rfl,u64_and_nat _ _ hb (by decide),Nat.and_one_is_mod]
theorem p0Q (a b:Nat):(((a:Nat):Int)==((b:Nat):Int))=decide (a=b):=by
 by_cases h:a=b
 ·simp[h]
 ·have: ¬((a:Int)=(b:Int)):=by omega
  simp[h,this]
def t0e (s t:Int)(b:Nat)(l:Bool)(n:Int):Bool:=d0H s t b l&&(decide (0≤n)&&decide (n≤1099511627775))
def u0a (s t:Int)(b:Nat)(l:Bool)(n:Int):Int:=
 if t0e s t b l n=false then 1 else if l then 34 else if n≤t-s∨(n≤t∧b.testBit (t-n).toNat=true)then 33 else 0
theorem r0c (b k:Nat)(hb:b<2^64):(bits .and .u64 ((b:Int)/2^k) 1==1)=b.testBit k:=by
 have e:((b:Int)/2^k)=((b/2^k:Nat):Int):=by simp
 have h:b/2^k<2^64:=Nat.lt_of_le_of_lt (Nat.div_le_self _ _) hb
 rw[e,o0b _ h,Nat.testBit_eq_decide_div_mod_eq]
 exact p0Q _ 1
def v0r (s:Int)(b k:Nat):Nat:=((b*2^k%2^64)&&&v0b s)|||1
def v0q (b k:Nat):Nat:=b|||2^k
def w0K (t n:Int):Int:=if t<n then n else t
def w0L (s t:Int)(b:Nat)(n:Int):Nat:=if t<n then v0r s b (n-t).toNat else v0q b (t-n).toNat
def o0u (b:Nat)(i:Int):Bool:=decide (0≤i)&&(decide (i<64)&&b.testBit i.toNat)
theorem o0U (s t:Int)(b:Nat)(l:Bool)(i:Int)(w:World)(hb:b<2^64):
  Calls Tryz.prog 148 #[u0D s t b l,.int .i64 i] w fun e w'=>e= .returned (.bool (o0u b i))∧Ext w w':=by
 by_cases h1:0≤i
 ·by_cases h2:i<64
  ·have V:=Lib.hid (show o0u b i=(bits .and .u64 ((b:Int)/2^i.toNat) 1==1) by rw[r0c b _ hb];simp[o0u,h1,h2])
   rw[V.out]
   go_enter Tryz.func148,Tryz.ntmps148
   go_wp2
   all_goals(go_ret;refine⟨rfl,?_⟩)
   repeat(first|(with_reducible exact Mods.refl _ _)|(with_reducible refine Mods.alloc ?_ _)|(with_reducible refine Mods.drew ?_)|(with_reducible refine Mods.setCell ?_ (fun hlt=>(by first|(simp at hlt;done)|(simp at hlt;omega)|(show _≤_;omega)|(show _<_;omega))) _))
  ·have V:=Lib.hid (show o0u b i=false by simp[o0u,h2])
   rw[V.out]
   go_enter Tryz.func148,Tryz.ntmps148
   go_wp2
   all_goals(go_ret;refine⟨rfl,?_⟩)
   repeat(first|(with_reducible exact Mods.refl _ _)|(with_reducible refine Mods.alloc ?_ _)|(with_reducible refine Mods.drew ?_)|(with_reducible refine Mods.setCell ?_ (fun hlt=>(by first|(simp at hlt;done)|(simp at hlt;omega)|(show _≤_;omega)|(show _<_;omega))) _))
 ·have V:=Lib.hid (show o0u b i=false by simp[o0u,h1])
  rw[V.out]
  go_enter Tryz.func148,Tryz.ntmps148
  go_wp2
  all_goals(go_ret;refine⟨rfl,?_⟩)
  repeat(first|(with_reducible exact Mods.refl _ _)|(with_reducible refine Mods.alloc ?_ _)|(with_reducible refine Mods.drew ?_)|(with_reducible refine Mods.setCell ?_ (fun hlt=>(by first|(simp at hlt;done)|(simp at hlt;omega)|(show _≤_;omega)|(show _<_;omega))) _))
def s0E (s t:Int)(b k:Nat):Bool:=(List.range k).all fun i=> !b.testBit i||(decide ((i:Int)<s)&&decide ((i:Int)≤t))
theorem n0n (s t:Int)(b k:Nat):s0E s t b (k+1)=(s0E s t b k&&(!b.testBit k||(decide ((k:Int)<s)&&decide ((k:Int)≤t)))):=by
 simp[s0E,List.range_succ]
theorem l0y {s t:Int}{b k:Nat}(hk:k<64)(h:(!b.testBit k||(decide ((k:Int)<s)&&decide ((k:Int)≤t)))=false):f0F s t b=false:=by
 unfold f0F
 rw[List.all_eq_false]
 exact⟨k,List.mem_range.2 hk,by rw[h];simp⟩
theorem k0Y (b k:Nat)(hk:k<64):o0u b (k:Int)=b.testBit k:=by
 have h:(k:Int)<64:=by omega
 simp[o0u,h]
theorem l0i (s t:Int)(b:Nat)(w:World)(hb:b<2^64)(g1:1≤s)(g2:s≤64)(g3: -1≤t)(g4:t≤1099511627775):
  Calls Tryz.prog 102 #[u0D s t b false] w fun e w'=>e= .returned (.bool (f0F s t b&&(decide (t= -1)||b.testBit 0)))∧Ext w w':=by
 have hbit:=fun i w=>o0U s t b false i w hb
 have H:=Lib.hid hbit
 clear hbit
 go_enter Tryz.func102,Tryz.ntmps102
 go_wp2
 go_loopw [3] (fun i wr=> ∃k:Nat,k≤64∧i= .int .i64 k∧s0E s t b k=true∧Ext (w.alloc (.cells #[.int .i64 s,.int .i64 t,.int .u64 (b:Int),.bool false] 90)) wr) (fun i _=>(64-intOf i).toNat)
 case atStart=>exact⟨0,by omega,rfl,rfl,Mods.refl _ _⟩
 case round=>
  obtain⟨k,hk,rfl,hok,hE⟩:=hrel
  have HOK:=Lib.hid hok
  clear hok
  obtain⟨hc1,hc2,hc3⟩:=hE.cells
  have hz:w.heap.size<wr.heap.size:=by simp at hc3;omega
  have c0:World.cell? wr ⟨w.heap.size,0,none⟩=some (.int .i64 s):=by simp[go_sem,hc1,hc2]
  have c1:World.cell? wr ⟨w.heap.size,1,none⟩=some (.int .i64 t):=by simp[go_sem,hc1,hc2]
  have c2:World.cell? wr ⟨w.heap.size,2,none⟩=some (.int .u64 (b:Int)):=by simp[go_sem,hc1,hc2]
  have c3:World.cell? wr ⟨w.heap.size,3,none⟩=some (.bool false):=by simp[go_sem,hc1,hc2]
  have cf: ∀o,World.frozen? wr ⟨w.heap.size,o,none⟩=false:=fun o=>by simp[go_sem,hc1,hc2]
  clear hc1 hc2 hc3
  by_cases hlt:k<64
  ·have hkz:(k:Int)<64:=by omega
   have HB:=Lib.hid (k0Y b k hlt)
   have hsucc:=n0n s t b k
   have hbad:=fun h=>l0y (s:=s) (t:=t) (b:=b) hlt h
   rw[HOK.out]at hsucc
   generalize hx:b.testBit k=x at*
   have HX:=Lib.hid hx
   clear hx
   cases x
   ·have HS:=Lib.hid (show s0E s t b (k+1)=true by rw[hsucc];rfl)
    clear hsucc hbad
    go_wp2_with fail
    refine(H.out _ _).mono ?_
    rintro e w' ⟨rfl,hE2⟩
    rw[HB.out]
    obtain⟨hc1,hc2,hc3⟩:=hE2.cells
    go_wp2
    go_roundw
    case rel=>exact⟨k+1,by omega,by go_num,HS.out,hE.trans hE2⟩
    case measure=>simp[intOf];omega
   ·by_cases h1:(k:Int)<s
    ·by_cases h2:(k:Int)≤t
     ·have HS:=Lib.hid (show s0E s t b (k+1)=true by rw[hsucc];simp[h1,h2])
      clear hsucc hbad
      go_wp2_with fail
      refine(H.out _ _).mono ?_
      rintro e w' ⟨rfl,hE2⟩
      rw[HB.out]
      obtain⟨hc1,hc2,hc3⟩:=hE2.cells
      go_wp2
      go_roundw
      case rel=>exact⟨k+1,by omega,by go_num,HS.out,hE.trans hE2⟩
      case measure=>simp[intOf];omega
     ·have HS:=Lib.hid (hbad (by simp[h2]))
      clear hsucc hbad
      go_wp2_with fail
      refine(H.out _ _).mono ?_
      rintro e w' ⟨rfl,hE2⟩
      rw[HB.out]
      obtain⟨hc1,hc2,hc3⟩:=hE2.cells
      go_wp2
      go_ret
      refine⟨by rw[HS.out];rfl,?_⟩
      repeat(first|(with_reducible exact Mods.refl _ _)|(with_reducible refine Mods.alloc ?_ _)|(with_reducible refine Mods.drew ?_)|(with_reducible refine Mods.setCell ?_ (fun hlt=>(by first|(simp at hlt;done)|(simp at hlt;omega)|(show _≤_;omega)|(show _<_;omega))) _)|(with_reducible refine Mods.trans ?_ hE2)|(with_reducible refine Mods.trans ?_ hE))
    ·have HS:=Lib.hid (hbad (by simp[h1]))
     clear hsucc hbad
     go_wp2_with fail
     refine(H.out _ _).mono ?_
     rintro e w' ⟨rfl,hE2⟩
     rw[HB.out]
     obtain⟨hc1,hc2,hc3⟩:=hE2.cells
     go_wp2
     go_ret
     refine⟨by rw[HS.out];rfl,?_⟩
     repeat(first|(with_reducible exact Mods.refl _ _)|(with_reducible refine Mods.alloc ?_ _)|(with_reducible refine Mods.drew ?_)|(with_reducible refine Mods.setCell ?_ (fun hlt=>(by first|(simp at hlt;done)|(simp at hlt;omega)|(show _≤_;omega)|(show _<_;omega))) _)|(with_reducible refine Mods.trans ?_ hE2)|(with_reducible refine Mods.trans ?_ hE))
  ·obtain rfl:k=64:=by omega
   have HS:=Lib.hid (show f0F s t b=true from HOK.out)
   by_cases ht1:t= -1
   ·subst ht1
    go_wp2
    go_ret
    refine⟨by rw[HS.out];rfl,?_⟩
    repeat(first|(with_reducible exact Mods.refl _ _)|(with_reducible refine Mods.alloc ?_ _)|(with_reducible refine Mods.drew ?_)|(with_reducible refine Mods.setCell ?_ (fun hlt=>(by first|(simp at hlt;done)|(simp at hlt;omega)|(show _≤_;omega)|(show _<_;omega))) _)|(with_reducible refine Mods.trans ?_ hE))
   ·have hz1:(t== -1)=false:=by simpa using ht1
    have HT:=Lib.hid (show(f0F s t b&&(decide (t= -1)||b.testBit 0))=b.testBit 0 by rw[HS.out];simp[ht1])
    have HB:=Lib.hid (show o0u b 0=b.testBit 0 from k0Y b 0 (by omega))
    clear ht1
    go_wp2_with fail
    refine(H.out _ _).mono ?_
    rintro e w' ⟨rfl,hE2⟩
    rw[HB.out]
    go_wp2
    all_goals(go_ret;refine⟨by rw[HT.out];first|rfl|(simp[*];done),?_⟩)
    repeat(first|(with_reducible exact Mods.refl _ _)|(with_reducible refine Mods.alloc ?_ _)|(with_reducible refine Mods.drew ?_)|(with_reducible refine Mods.setCell ?_ (fun hlt=>(by first|(simp at hlt;done)|(simp at hlt;omega)|(show _≤_;omega)|(show _<_;omega))) _)|(with_reducible refine Mods.trans ?_ hE2)|(with_reducible refine Mods.trans ?_ hE))
theorem l0j (s t:Int)(b:Nat)(l:Bool)(w:World)(hs:p0w s)(ht:p0w t)(hb:b<2^64):
  Calls Tryz.prog 102 #[u0D s t b l] w fun e w'=>e= .returned (.bool (d0H s t b l))∧Ext w w':=by
 obtain⟨hs,hs'⟩:=hs
 obtain⟨ht,ht'⟩:=ht
 by_cases hg:1≤s∧s≤64∧ -1≤t∧t≤1099511627775
 ·have hg':=hg
  obtain⟨g1,g2,g3,g4⟩:=hg
  cases l
  ·have V:d0H s t b false=(f0F s t b&&(decide (t= -1)||b.testBit 0)):=by simp[d0H,hg']
   rw[V]
   exact l0i s t b w hb g1 g2 g3 g4
  ·have V:=Lib.hid (show d0H s t b true=(decide (b=0)&&(t== -1)) by simp only[d0H,g1,g2,g3,g4];rw[show(t== -1)=decide (t= -1)from by rw[Bool.eq_iff_iff];simp];simp)
   rw[V.out]
   by_cases h0:b=0
   ·subst h0
    go_enter Tryz.func102,Tryz.ntmps102
    go_wp2
    all_goals(go_ret;refine⟨?_,(Mods.refl _ _).alloc _⟩;simp;try omega)
   ·have h0':((b:Int)==0)=false:=by simp[h0]
    go_enter Tryz.func102,Tryz.ntmps102
    go_wp2
    all_goals(go_ret;refine⟨?_,(Mods.refl _ _).alloc _⟩;simp[h0];try omega)
 ·have V:=Lib.hid (show d0H s t b l=false by simp only[d0H,hg];simp)
  rw[V.out]
  clear V
  by_cases g1:s<1
  ·go_enter Tryz.func102,Tryz.ntmps102
   go_wp2
   all_goals(go_ret;exact⟨rfl,(Mods.refl _ _).alloc _⟩)
  ·by_cases g2:64<s
   ·go_enter Tryz.func102,Tryz.ntmps102
    go_wp2
    all_goals(go_ret;exact⟨rfl,(Mods.refl _ _).alloc _⟩)
   ·by_cases g3:t< -1
    ·go_enter Tryz.func102,Tryz.ntmps102
     go_wp2
     all_goals(go_ret;exact⟨rfl,(Mods.refl _ _).alloc _⟩)
    ·have g4:1099511627775<t:=by omega
     clear hg
     go_enter Tryz.func102,Tryz.ntmps102
     go_wp2
     all_goals(go_ret;exact⟨rfl,(Mods.refl _ _).alloc _⟩)
end Go.Proofs.YtojomcdjcpmnkaaGreat.W
namespace Go.Proofs.YtojomcdjcpmnkaaGreat.L
open Go.RowKit
def g0w (Q:Act→World→Prop):Exit→Act→World→Prop
 | .normal,a,w=>Q a w
 |_,_,_=>False
@[go_sem] theorem q0j (Q:Act→World→Prop) (a:Act) (w:World):g0w Q .normal a w=Q a w:=rfl
@[go_sem] theorem r0S (Q:Act→World→Prop) (c:List PanicEntry) (a:Act) (w:World):g0w Q (.panic c) a w=False:=rfl
def b0C (P:Program)(ops:Array Oper)(w0:World)(wv:Nat→Bool)(Q:Act→World→Prop):Nat→Array Bool→Act→World→Prop
 |0,listed,a,w=>Region.ready .any ops listed= []∧Q a w
 |fuel+1,listed,a,w=>(Region.ready .any ops listed= []→Q a w)∧
  ∀i∈Region.ready .any ops listed,wpOp P ops (g0w Q) i (fun a' w'=>(wv i=false→Ext w0 w')∧b0C P ops w0 wv Q fuel (listed.setIfInBounds i true) a' w') a w
section
variable {P:Program}{ops:Array Oper}{Q:Act→World→Prop}{w0:World}{wv:Nat→Bool}
def c0j (o:Oper)(j:Nat):Bool:=o.after.any fun e=>Region.binds .any e&&e.on==j
theorem c0c {o:Oper}{j:Nat}(h:c0j o j=true): ∃x∈o.after,Region.binds .any x=true∧x.on=j:=by
 obtain⟨x,hx,hx2⟩:=g0h h
 simp only[Bool.and_eq_true,beq_iff_eq]at hx2
 exact⟨x,hx,hx2.1,hx2.2⟩
def h0g (ops:Array Oper)(listed:Array Bool)(wv:Nat→Bool)(E before:List Nat)(size i:Nat):Bool:=
 (ops[i]?).any fun o=>e0s o&& !listed.getD i true&&(match o.dst with
  | some d=>decide (d<size)&& !(o.looksAt ops).contains d&&
   (o.after.all fun e=> !Region.binds .any e||listed.getD e.on false||before.contains e.on)&&
   (List.range ops.size).all fun j=>j==i||listed.getD j true||(ops[j]?).all fun oj=>
    oj.dst !=some d&&(match oj.dst with|some dj=> !(o.looksAt ops).contains dj||(before.contains j&&c0j o j)|none=>true)&&
    (E.contains j||((!(oj.looksAt ops).contains d||c0j oj i)&&(!wv j||c0j oj i)))
  |none=>false)
def d0x (ops:Array Oper)(listed:Array Bool)(wv:Nat→Bool)(E:List Nat)(size:Nat):List Nat→List Nat→Bool
 |_,[]=>true
 |before,i::rest=>h0g ops listed wv E before size i&& !before.contains i&&d0x ops listed wv E size (before++[i]) rest
def b0Q (ops:Array Oper)(i:Nat):Tmp:=((ops[i]?).bind (·.dst)).getD 0
structure Took (ops:Array Oper) (listed:Array Bool) (wv:Nat→Bool) (E:List Nat) (size i:Nat):Prop where
 ex: ∃o,ops[i]? =some o∧e0s o=true∧o.dst=some (b0Q ops i)∧b0Q ops i∉o.looksAt ops
 free:listed.getD i true=false
 lt:b0Q ops i<size
 own: ∀j oj,ops[j]? =some oj→j≠i→listed.getD j true=false→oj.dst≠some (b0Q ops i)
 looks: ∀o j oj dj,ops[i]? =some o→ops[j]? =some oj→j≠i→listed.getD j true=false→oj.dst=some dj→dj∈o.looksAt ops→j∈E∧c0j o j=true
 read: ∀j oj,ops[j]? =some oj→j≠i→listed.getD j true=false→j∉E→(b0Q ops i∈oj.looksAt ops→c0j oj i=true)∧(wv j=true→c0j oj i=true)
theorem c0v {listed:Array Bool}{E before:List Nat}{size i:Nat}(h:h0g ops listed wv E before size i=true)(hb: ∀j∈before,j∈E):
  Took ops listed wv E size i∧ ∀o,ops[i]? =some o→ ∀e∈o.after,Region.binds .any e=true→listed.getD e.on false=true∨e.on∈before:=by
 unfold h0g at h
 cases ho:ops[i]?with
 |none=>rw[ho]at h;cases h
 |some o=>
 rw[ho]at h
 simp only[Option.any_some]at h
 simp only[Bool.and_eq_true,Bool.not_eq_true']at h
 obtain⟨⟨hpl,hfr⟩,h⟩:=h
 split at h
 ·rename_i d hd
  simp only[Bool.and_eq_true,cQ,Bool.not_eq_true',List.contains_eq_mem,decide_eq_false_iff_not,List.all_eq_true,List.mem_range]at h
  obtain⟨⟨⟨hlt,hself⟩,hback⟩,hall⟩:=h
  have hdi:b0Q ops i=d:=by simp[b0Q,ho,hd]
  have pair: ∀j oj,ops[j]? =some oj→j≠i→listed.getD j true=false→
    oj.dst≠some d∧(∀dj,oj.dst=some dj→dj∈o.looksAt ops→j∈before∧c0j o j=true)∧(j∉E→(d∈oj.looksAt ops→c0j oj i=true)∧(wv j=true→c0j oj i=true)):=by
   intro j oj hoj hji hlj
   have hjs:j<ops.size:=(Array.getElem?_eq_some_iff.1 hoj).1
   have:=hall j hjs
   simp only[hoj,hlj,Option.all_some,Bool.or_eq_true,beq_iff_eq,hji,false_or,Bool.and_eq_true,bne_iff_ne,ne_eq,cF,or_false,cQ,Bool.not_eq_true',decide_eq_false_iff_not]at this
   obtain⟨⟨h1,h2⟩,h3⟩:=this
   refine⟨h1,fun dj hdj hm=> ?_,fun hjE=> ?_⟩
   ·rw[hdj]at h2
    simp only[Bool.or_eq_true,Bool.and_eq_true,Bool.not_eq_true',decide_eq_false_iff_not,cQ]at h2
    exact h2.resolve_left fun hn=>hn hm
   ·have h4:=h3.resolve_left hjE
    refine⟨fun hm=>h4.1.resolve_left fun hn=>hn hm,fun hw=>h4.2.resolve_left fun hn=>by rw[hw]at hn;cases hn⟩
  refine⟨⟨⟨o,ho,hpl,by rw[hdi];exact hd,by rw[hdi];exact hself⟩,hfr,by rw[hdi];exact hlt,fun j oj hoj hji hlj=>by rw[hdi];exact(pair j oj hoj hji hlj).1,?_,?_⟩,?_⟩
  ·intro o' j oj dj ho' hoj hji hlj hdj hm
   obtain rfl:o=o':=by rw[ho]at ho';exact Option.some.inj ho'
   have:=(pair j oj hoj hji hlj).2.1 dj hdj hm
   exact⟨hb j this.1,this.2⟩
  ·intro j oj hoj hji hlj hjE
   rw[hdi];exact(pair j oj hoj hji hlj).2.2 hjE
  ·intro o' ho' e he hbe
   obtain rfl:o=o':=Option.some.inj ho'
   have:=Array.all_eq_true_iff_forall_mem.1 hback e he
   simp only[hbe,Bool.not_true,Bool.false_or,Bool.or_eq_true,cQ]at this
   simpa using this
 ·cases h
theorem c0W {listed:Array Bool}{E:List Nat}{size k:Nat}: ∀(l2 b2:List Nat),d0x ops listed wv E size b2 l2=true→k∈b2→k∉l2:=by
 intro l2
 induction l2 with
 |nil=>intro b2 _ _ hm;cases hm
 |cons x l2 ih2=>
  intro b2 hk hb hm
  simp only[d0x,Bool.and_eq_true,Bool.not_eq_true',List.contains_eq_mem,decide_eq_false_iff_not]at hk
  rcases List.mem_cons.1 hm with e|hm
  ·exact hk.1.2 (e▸hb)
  ·exact ih2 _ hk.2 (List.mem_append_left _ hb) hm
theorem e0K {o:Oper}{A B:Act}(hsz:A.tmps.size=B.tmps.size)(hag: ∀t∈o.looksAt ops,A.eval (.tmp t)=B.eval (.tmp t)):
  Region.wanted o (yielded ops A.tmps)=Region.wanted o (yielded ops B.tmps):=by
 unfold Region.wanted
 cases hg:o.guard with
 |none=>rfl
 | some gw=>
  obtain⟨g,want⟩:=gw
  have hy:yielded ops A.tmps g=yielded ops B.tmps g:=by
   unfold yielded
   cases ht:(ops[g]?).bind (·.dst)with
   |none=>rfl
   | some t=>
    have he:=hag t (List.mem_append_right _ (by simp[hg,ht]))
    by_cases hts:t<A.tmps.size
    ·have hts':t<B.tmps.size:=by rw[←hsz];exact hts
     simp[Act.eval,Array.getD,hts,hts']at he
     simp[hts,hts',he]
    ·have hts': ¬t<B.tmps.size:=by rw[←hsz];exact hts
     simp[hts,hts']
  simp only[hy]
theorem l0J {o:Oper}{A B:Act}(hns: ∀cs b,o.op≠ .select cs b)(hag: ∀t∈o.looksAt ops,A.eval (.tmp t)=B.eval (.tmp t)):execOp A.eval o=execOp B.eval o:=
 execOp_congr o hns fun x hx=>by
  cases x with
  |tmp t=>exact hag t (List.mem_append_left _ (List.mem_filterMap.2 ⟨.tmp t,by simpa using hx,rfl⟩))
  |_=>rfl
theorem l0q {listed:Array Bool}{E:List Nat}{C:World→Prop}{Q':Act→Prop}: ∀(is before:List Nat) (l:List Oper) (a:Act),d0x ops listed wv E a.tmps.size before is=true→(∀j∈before++is,j∈E)→
  is.map (fun i=>ops[i]?)=l.map some→wpQuiet P ops C Q' l a→
  ∃a1:Act,Q' a1∧a1.tmps.size=a.tmps.size∧a1.defers=a.defers∧(∀t,(∀i∈is,b0Q ops i≠t)→a1.eval (.tmp t)=a.eval (.tmp t))∧
   (∀i∈is,Took ops listed wv E a.tmps.size i)∧(∀i∈is,∀o,ops[i]? =some o→YieldsIn P ops C o (a1.eval (.tmp (b0Q ops i))) a1):=by
 intro is
 induction is with
 |nil=>
  intro before l a _ _ hl h
  cases l with
  |nil=>exact⟨a,h,rfl,rfl,fun _ _=>rfl,fun i hi=>(by cases hi),fun i hi=>(by cases hi)⟩
  |cons o l=>simp at hl
 | cons i is ih=>
  intro before l a hok hsub hl h
  cases l with
  |nil=>simp at hl
  | cons o l=>
   simp only[List.map_cons,List.cons.injEq]at hl
   obtain⟨ho,hl⟩:=hl
   simp only[d0x,Bool.and_eq_true]at hok
   obtain⟨⟨hat,hnb⟩,hok⟩:=hok
   obtain⟨hT,_⟩:=c0v hat fun j hj=>hsub j (List.mem_append_left _ hj)
   obtain⟨o',ho',hpl,hd,hself⟩:=hT.ex
   obtain rfl:o=o':=by rw[ho]at ho';exact Option.some.inj ho'
   have hstep: ∃v,YieldsIn P ops C o v a∧wpQuiet P ops C Q' l (a.put o.dst v):=by
    unfold wpQuiet at h
    split at h
    ·rename_i hw
     obtain⟨v,h1,h2⟩:=h
     exact⟨v,.inl ⟨hw,h1⟩,h2⟩
    ·rename_i hw
     exact⟨undef,.inr ⟨by simpa using hw,rfl⟩,h⟩
   obtain⟨v,hy,hq⟩:=hstep
   rw[hd]at hq
   have hsz:(a.put (some (b0Q ops i)) v).tmps.size=a.tmps.size:=by simp[Act.put]
   obtain⟨a1,hQ,h1,h2,h3,h4,h5⟩:=ih (before++[i]) l _ (by rw[hsz];exact hok) (fun j hj=>hsub j (by simpa using hj)) hl hq
   rw[hsz]at h1 h4
   have hne: ∀j∈is,b0Q ops j≠b0Q ops i:=fun j hj e=>by
    have hTj:=h4 j hj
    obtain⟨oj,hoj,_,hdj,_⟩:=hTj.ex
    by_cases hji:i=j
    ·
     subst hji
     exact c0W is (before++[i]) hok (by simp) hj
    ·exact hTj.own i o ho hji hT.free (by rw[hd,e])
   refine⟨a1,hQ,h1,by rw[h2];simp[Act.put],?_,?_,?_⟩
   ·intro t ht
    rw[h3 t fun j hj=>ht j (List.mem_cons_of_mem _ hj),a0k (ht i (List.mem_cons_self ..))]
   ·intro j hj
    rcases List.mem_cons.1 hj with rfl|hj
    ·exact hT
    ·exact h4 j hj
   ·intro j hj oj hoj
    rcases List.mem_cons.1 hj with rfl|hj
    ·obtain rfl:o=oj:=by rw[ho]at hoj;exact Option.some.inj hoj
     have hv:a1.eval (.tmp (b0Q ops j))=v:=by rw[h3 _ hne,a0J hT.lt]
     rw[hv]
     have hag: ∀t∈o.looksAt ops,a1.eval (.tmp t)=a.eval (.tmp t):=fun t ht=>by
      have hjt:b0Q ops j≠t:=fun e=>hself (by rw[e];exact ht)
      have hkt: ∀k∈is,b0Q ops k≠t:=fun k hk e=>by
       have hTk:=h4 k hk
       obtain⟨ok,hok',_,hdk,_⟩:=hTk.ex
       by_cases hkj:k=j
       ·subst hkj;exact hjt e
       ·have:=hT.looks o k ok _ ho hok' hkj hTk.free hdk (by rw[e];exact ht)
        obtain⟨x,hx,hxb,hxo⟩:=c0c this.2
        have hb2:=(c0v hat fun j hj=>hsub j (List.mem_append_left _ hj)).2 o ho x hx hxb
        rw[hxo]at hb2
        rcases hb2 with hb2|hb2
        ·have hf:=hTk.free
         by_cases hks:k<listed.size
         ·rw[b0q hks,hb2]at hf;cases hf
         ·simp[Array.getD,hks]at hf
        ·exact c0W is (before++[j]) hok (List.mem_append_left _ hb2) hk
      rw[h3 t hkt,a0k hjt]
     refine hy.of_same (execOp_congr o ?_ fun x hx=> ?_) ?_
     ·intro cs b e;simp[e0s,e]at hpl
     ·cases x with
      |tmp t=>exact hag t (List.mem_append_left _ (List.mem_filterMap.2 ⟨.tmp t,by simpa using hx,rfl⟩))
      |_=>rfl
     ·exact e0K h1 hag
    ·exact h5 j hj oj hoj
theorem k0N {listed:Array Bool}{i:Nat}(h:listed.getD i true=false):i<listed.size∧listed.getD i false=false:=by
 by_cases hs:i<listed.size
 ·exact⟨hs,by rw[←b0q hs];exact h⟩
 ·simp[Array.getD,hs]at h
theorem e0N {listed:Array Bool}{i:Nat}(hs:i<listed.size)(h:listed.getD i false=false):listed.getD i true=false:=by rw[b0q hs];exact h
theorem h0U {listed:Array Bool}{E:List Nat}{size:Nat}: ∀(l1 before:List Nat) (i:Nat) (l2:List Nat),d0x ops listed wv E size before (l1++i::l2)=true→(∀j∈before++(l1++i::l2),j∈E)→
  ∀o,ops[i]? =some o→ ∀e∈o.after,Region.binds .any e=true→listed.getD e.on false=true∨e.on∈before++l1:=by
 intro l1
 induction l1 with
 |nil=>
  intro before i l2 h hsub
  simp only[cN,d0x,Bool.and_eq_true]at h
  have:=(c0v h.1.1 fun j hj=>hsub j (List.mem_append_left _ hj)).2
  simpa using this
 |cons x l1 ih=>
  intro before i l2 h hsub
  simp only[cA,d0x,Bool.and_eq_true]at h
  have:=ih (before++[x]) i l2 h.2 (fun j hj=>hsub j (by simpa using hj))
  simpa using this
structure GInv (P:Program) (ops:Array Oper) (w0:World) (wv:Nat→Bool) (E:List Nat) (listed0 listed:Array Bool) (A:Act) (W:World) (listedB:Array Bool) (B:Act):Prop where
 s1:listed.size=ops.size
 s2:listedB.size=ops.size
 mono: ∀i,listed0.getD i false=true→listed.getD i false=true
 both: ∀i,i<ops.size→listedB.getD i false=(listed.getD i false||decide (i∈E))
 tmps:A.tmps.size=B.tmps.size
 defers:A.defers=B.defers
 same: ∀t,(∀i∈E,listed.getD i false=false→b0Q ops i≠t)→A.eval (.tmp t)=B.eval (.tmp t)
 pend: ∀i∈E,listed.getD i false=false→ ∀o,ops[i]? =some o→YieldsIn P ops (fun w=> ∃x:SW w0,w=x.w) o (B.eval (.tmp (b0Q ops i))) B
 ext:(∃i∈E,listed.getD i false=false)→Ext w0 W
theorem v0y {E:List Nat}{listed0:Array Bool}{size0:Nat}(hsel: ∀(j:Nat) (o:Oper) cs b,ops[j]? =some o→o.op≠ .select cs b)(hs0:listed0.size=ops.size)
  (hT: ∀i∈E,Took ops listed0 wv E size0 i) (hord:d0x ops listed0 wv E size0 [] E=true):
  ∀(fuel:Nat) (listed:Array Bool) (A:Act) (W:World) (fuelB:Nat) (listedB:Array Bool) (B:Act),fuel=listed.toList.count false→fuelB=listedB.toList.count false→B.tmps.size=size0→
   GInv P ops w0 wv E listed0 listed A W listedB B→b0C P ops w0 wv Q fuelB listedB B W→b0C P ops w0 wv Q fuel listed A W:=by
 intro fuel
 induction fuel with
 | zero=>
  intro listed A W fuelB listedB B hc hcB hBs hI hK
  have hall: ∀i,i<ops.size→listed.getD i false=true:=by
   intro i hi
   have hi':i<listed.size:=by rw[hI.s1];exact hi
   cases hb:listed.getD i false with
   |true=>rfl
   |false=>
    exfalso
    have hm:false∈listed.toList:=by rw[←hb];simp[Array.getD,hi']
    have:=List.count_pos_iff.2 hm
    omega
  have hAB:A=B:=o0m hI.tmps hI.defers fun t=>hI.same t fun i hi hl=>by
   obtain⟨o,ho,_⟩:=(hT i hi).ex
   rw[hall i (Array.getElem?_eq_some_iff.1 ho).1]at hl;cases hl
  have hLB:listedB=listed:=by
   apply Array.ext (by rw[hI.s1,hI.s2])
   intro i h1 h2
   have h3:i<ops.size:=by rw[←hI.s1];exact h2
   have:=hI.both i h3
   rw[hall i h3]at this
   have h4:=hall i h3
   simp[Array.getD,h1,h2]at this h4
   rw[this,h4]
  subst hAB
  subst hLB
  have:fuelB=0:=by omega
  subst this
  exact hK
 | succ fuel ih=>
  intro listed A W fuelB listedB B hc hcB hBs hI hK
  have hready_lt: ∀{L:Array Bool} {i:Nat},i∈Region.ready .any ops L→i<ops.size:=fun hi=>by
   obtain⟨_,o,ho,_⟩:=mem_ready.1 hi
   exact(Array.getElem?_eq_some_iff.1 ho).1
  have hun0: ∀j,j<ops.size→listed.getD j false=false→listed0.getD j true=false:=fun j hj hl=>by
   rw[b0q (by rw[hs0];exact hj)]
   cases hb:listed0.getD j false with
   |false=>rfl
   |true=>rw[hI.mono j hb]at hl;cases hl
  have hfirst:(∃i∈E,listed.getD i false=false)→Region.ready .any ops listed≠ []:=by
   rintro⟨i,hiE,hil⟩ hempty
   have key: ∀(l2 l1:List Nat),E=l1++l2→(∀j∈l1,listed.getD j false=true)→ ∀j∈l2,listed.getD j false=true:=by
    intro l2
    induction l2 with
    |nil=>intro _ _ _ j hj;cases hj
    | cons x l2 ih2=>
     intro l1 hE hl1
     have hx:listed.getD x false=true:=by
      cases hb:listed.getD x false with
      |true=>rfl
      | false=>
       exfalso
       obtain⟨o,ho,_⟩:=(hT x (by rw[hE];simp)).ex
       have hxs:=(Array.getElem?_eq_some_iff.1 ho).1
       have hr:x∈Region.ready .any ops listed:=mem_ready.2 ⟨e0N (by rw[hI.s1];exact hxs) hb,o,ho,fun e he hbe=>by
        have:=h0U l1 [] x l2 (by rw[←hE];exact hord) (fun j hj=>by rw[hE];simpa using hj) o ho e he hbe
        rcases this with h|h
        ·exact hI.mono _ h
        ·exact hl1 _ (by simpa using h)⟩
       rw[hempty]at hr;cases hr
     intro j hj
     rcases List.mem_cons.1 hj with rfl|hj
     ·exact hx
     ·exact ih2 (l1++[x]) (by rw[hE];simp) (fun k hk=>by
       rcases List.mem_append.1 hk with hk|hk
       ·exact hl1 k hk
       ·rw[List.mem_singleton.1 hk];exact hx) j hj
   have:=key E [] rfl (fun j hj=>by cases hj) i hiE
   rw[hil]at this;cases this
  have hdone:(¬ ∃i∈E,listed.getD i false=false)→A=B∧listedB=listed:=fun hno=>by
   have hAB:A=B:=o0m hI.tmps hI.defers fun t=>hI.same t fun i hi hl=>absurd ⟨i,hi,hl⟩ hno
   refine⟨hAB,Array.ext (by rw[hI.s1,hI.s2]) fun i h1 h2=> ?_⟩
   have h3:i<ops.size:=by rw[←hI.s1];exact h2
   have:=hI.both i h3
   cases hb:listed.getD i false with
   |true=>
    rw[hb]at this
    simp[Array.getD,h1,h2]at this hb
    rw[this,hb]
   |false=>
    have hnE:i∉E:=fun hE=>hno ⟨i,hE,hb⟩
    rw[hb]at this
    simp[Array.getD,h1,h2,hnE]at this hb
    rw[this,hb]
  have hfuelB:(∃j,j<ops.size∧listedB.getD j false=false)→ ∃f,fuelB=f+1:=by
   rintro⟨j,hj,hl⟩
   have hj':j<listedB.size:=by rw[hI.s2];exact hj
   have hm:false∈listedB.toList:=by rw[←hl];simp[Array.getD,hj']
   have:=List.count_pos_iff.2 hm
   exact⟨fuelB-1,by omega⟩
  refine⟨fun hempty=> ?_,fun i hi=> ?_⟩
  ·have hno: ¬ ∃i∈E,listed.getD i false=false:=fun h=>hfirst h hempty
   obtain⟨hAB,hLB⟩:=hdone hno
   subst hAB
   subst hLB
   cases fuelB with
   |zero=>exact hK.2
   |succ f=>exact hK.1 hempty
  ·obtain⟨h0,o,ho,hdeps⟩:=mem_ready.1 hi
   obtain⟨hil,hif⟩:=k0N h0
   have hio:=hready_lt hi
   have hcs:=b0c listed.toList i (by simpa using hil) (by simpa[Array.getD,hil]using hif)
   have hlook: ∀j∈E,listed.getD j false=false→j≠i→b0Q ops j∉o.looksAt ops:=fun j hjE hjl hji hm=>by
    obtain⟨oj,hoj,_,hdj,_⟩:=(hT j hjE).ex
    have hjs:=(Array.getElem?_eq_some_iff.1 hoj).1
    by_cases hiE:i∈E
    ·have:=(hT i hiE).looks o j oj _ ho hoj hji (hun0 j hjs hjl) hdj hm
     obtain⟨x,hx,hxb,hxo⟩:=c0c this.2
     have:=hdeps x hx hxb
     rw[hxo,hjl]at this;cases this
    ·have:=((hT j hjE).read i o ho (Ne.symm hji) (hun0 i hio hif) hiE).1 hm
     obtain⟨x,hx,hxb,hxo⟩:=c0c this
     have:=hdeps x hx hxb
     rw[hxo,hjl]at this;cases this
   have hag: ∀t∈o.looksAt ops,A.eval (.tmp t)=B.eval (.tmp t):=fun t ht=>hI.same t fun j hjE hjl e=>by
    by_cases hji:j=i
    ·subst hji
     obtain⟨o',ho',_,_,hself⟩:=(hT j hjE).ex
     obtain rfl:o=o':=by rw[ho]at ho';exact Option.some.inj ho'
     exact hself (by rw[e];exact ht)
    ·exact hlook j hjE hjl hji (by rw[e];exact ht)
   have hexec:=l0J (fun cs b=>hsel i o cs b ho) hag
   have hwant:=e0K (ops:=ops) hI.tmps hag
   by_cases hiE:i∈E
   ·
    obtain⟨o',ho',hpl,hd,hself⟩:=(hT i hiE).ex
    obtain rfl:o=o':=by rw[ho]at ho';exact Option.some.inj ho'
    have hW:=hI.ext ⟨i,hiE,hif⟩
    have hlt:=(hT i hiE).lt
    have hnext:b0C P ops w0 wv Q fuel (listed.setIfInBounds i true) (A.put o.dst (B.eval (.tmp (b0Q ops i)))) W:=by
     refine ih _ _ _ fuelB listedB B (by simp only[Array.toList_setIfInBounds];omega) hcB hBs ⟨by simpa using hI.s1,hI.s2,?_,?_,?_,?_,?_,?_,?_⟩ hK
     ·intro j hj
      by_cases hji:j=i
      ·subst hji;simp[Array.getD,hil]
      ·rw[getD_set_ne false (Ne.symm hji)];exact hI.mono j hj
     ·intro j hj
      by_cases hji:j=i
      ·subst hji;rw[hI.both j hj];simp[Array.getD,hil,hiE]
      ·rw[getD_set_ne false (Ne.symm hji)];exact hI.both j hj
     ·rw[hd];simp[Act.put,hI.tmps]
     ·rw[hd];simp[Act.put,hI.defers]
     ·intro t ht
      rw[hd]
      by_cases e:b0Q ops i=t
      ·subst e;rw[a0J (by rw[hI.tmps,hBs];exact hlt)]
      ·rw[a0k e]
       refine hI.same t fun j hjE hjl=> ?_
       by_cases hji:j=i
       ·subst hji;exact e
       ·exact ht j hjE (by rw[getD_set_ne false (Ne.symm hji)];exact hjl)
     ·intro j hjE hjl oj hoj
      by_cases hji:j=i
      ·subst hji;simp[Array.getD,hil]at hjl
      ·rw[getD_set_ne false (Ne.symm hji)]at hjl;exact hI.pend j hjE hjl oj hoj
     ·rintro⟨j,hjE,hjl⟩
      exact hW
    have hy:=hI.pend i hiE hif o ho
    unfold wpOp
    rw[ho]
    show if Region.wanted o (yielded ops A.tmps)=true then _ else _
    rw[hwant]
    rcases hy with⟨hw,hq⟩|⟨hw,hv⟩
    ·rw[if_pos hw]
     refine .inl ?_
     have hq1:=hq W ⟨⟨W,hW⟩,rfl⟩
     have hne:=fun f args W'=>j0u (P:=P) hpl B.eval (W:=W) (W':=W') (f:=f) (args:=args)
     unfold Oper.quietAt at hq1
     unfold Oper.wp
     rw[hexec]
     generalize(execOp B.eval o).run P W=r at*
     cases r with
     | ok nx w'=>
      cases nx<;>simp only[Oper.quietUpon]at hq1<;>simp only[Oper.upon]
      case value u=>
       obtain⟨e1,e2⟩:=hq1
       rw[e1,e2];exact⟨fun _=>hW,hnext⟩
      case skip=>
       obtain⟨e1,e2⟩:=hq1
       rw[e1,←e2];exact⟨fun _=>hW,hnext⟩
      case enter f args=>exact absurd rfl (hne f args w')
     |halt x w'=>simp only[Oper.quietUpon]at hq1
    ·rw[if_neg (by rw[hw];simp)]
     rw[hv]at hnext
     exact⟨fun _=>hW,hnext⟩
   ·
    have hiB:listedB.getD i false=false:=by rw[hI.both i hio,hif];simp[hiE]
    obtain⟨f,rfl⟩:=hfuelB ⟨i,hio,hiB⟩
    have hiBl:i<listedB.size:=by rw[hI.s2];exact hio
    have hcsB:=b0c listedB.toList i (by simpa using hiBl) (by simpa[Array.getD,hiBl]using hiB)
    have hrB:i∈Region.ready .any ops listedB:=mem_ready.2 ⟨e0N hiBl hiB,o,ho,fun e he hbe=>by
     have h1:=hdeps e he hbe
     by_cases hes:e.on<ops.size
     ·rw[hI.both _ hes,h1];rfl
     ·simp[Array.getD,show ¬e.on<listed.size by rw[hI.s1];exact hes]at h1⟩
    have hop:=hK.2 i hrB
    have hnext: ∀(ds:List Deferred) v w',((wv i=false→Ext w0 w')∧b0C P ops w0 wv Q f (listedB.setIfInBounds i true) (({B with defers:=ds}:Act).put o.dst v) w')→
      ((wv i=false→Ext w0 w')∧b0C P ops w0 wv Q fuel (listed.setIfInBounds i true) (({A with defers:=ds}:Act).put o.dst v) w'):=by
     rintro ds v w' ⟨hE',hK'⟩
     have evA: ∀t,(({A with defers:=ds}:Act).put o.dst v).eval (.tmp t)=(A.put o.dst v).eval (.tmp t):=fun t=>by cases o.dst<;>rfl
     have evB: ∀t,(({B with defers:=ds}:Act).put o.dst v).eval (.tmp t)=(B.put o.dst v).eval (.tmp t):=fun t=>by cases o.dst<;>rfl
     refine⟨hE',ih _ _ _ f _ (({B with defers:=ds}:Act).put o.dst v) (by simp only[Array.toList_setIfInBounds];omega) (by simp only[Array.toList_setIfInBounds];omega) ?_ ⟨by simpa using hI.s1,by simpa using hI.s2,?_,?_,?_,?_,?_,?_,?_⟩ hK'⟩
     ·rw[←hBs];cases o.dst<;>simp[Act.put]
     ·intro j hj
      by_cases hji:j=i
      ·subst hji;simp[Array.getD,hil]
      ·rw[getD_set_ne false (Ne.symm hji)];exact hI.mono j hj
     ·intro j hj
      by_cases hji:j=i
      ·subst hji;simp[Array.getD,hil,hiBl]
      ·rw[getD_set_ne false (Ne.symm hji),getD_set_ne false (Ne.symm hji)];exact hI.both j hj
     ·cases o.dst<;>simp[Act.put,hI.tmps]
     ·cases o.dst<;>simp[Act.put]
     ·intro t ht
      rw[evA,evB]
      have hold:(∀d,o.dst=some d→d≠t)→(A.put o.dst v).eval (.tmp t)=(B.put o.dst v).eval (.tmp t):=fun hd=>by
       have h1:A.eval (.tmp t)=B.eval (.tmp t):=hI.same t fun j hjE hjl=>by
        by_cases hji:j=i
        ·exact absurd (hji▸hjE) hiE
        ·exact ht j hjE (by rw[getD_set_ne false (Ne.symm hji)];exact hjl)
       cases hdd:o.dst with
       |none=>exact h1
       |some d=>rw[a0k (hd d hdd),a0k (hd d hdd)];exact h1
      cases hdd:o.dst with
      |none=>rw[hdd]at hold;exact hold fun d hd=>by cases hd
      | some d=>
       by_cases e:d=t
       ·subst e
        by_cases hds:d<A.tmps.size
        ·rw[a0J hds,a0J (by rw[←hI.tmps];exact hds)]
        ·have hds': ¬d<B.tmps.size:=by rw[←hI.tmps];exact hds
         simp[Act.eval,Act.put,Array.getD,hds,hds']
       ·rw[hdd]at hold
        exact hold fun d' hd'=>by cases hd';exact e
     ·intro j hjE hjl oj hoj
      have hji:j≠i:=fun e=>hiE (e▸hjE)
      rw[getD_set_ne false (Ne.symm hji)]at hjl
      have hy:=hI.pend j hjE hjl oj hoj
      have hjs:=(Array.getElem?_eq_some_iff.1 hoj).1
      have hnl: ∀d,o.dst=some d→d∉oj.looksAt ops:=fun d hd hm=>hiE ((hT j hjE).looks oj i o d hoj ho (Ne.symm hji) (hun0 i hio hif) hd hm).1
      have hnd: ∀d,o.dst=some d→d≠b0Q ops j:=fun d hd e=>(hT j hjE).own i o ho (Ne.symm hji) (hun0 i hio hif) (by rw[hd,e])
      have hv:(B.put o.dst v).eval (.tmp (b0Q ops j))=B.eval (.tmp (b0Q ops j)):=Act.eval_put fun d hd e=>hnd d hd (by injection e with e;exact e.symm)
      rw[evB,hv]
      have hyd:YieldsIn P ops (fun w=> ∃x:SW w0,w=x.w) oj (B.eval (.tmp (b0Q ops j))) ({B with defers:=ds}:Act):=hy.of_same rfl rfl
      refine hyd.of_same (execOp_put oj (fun cs b=>hsel j oj cs b hoj) _ o.dst v hnl) (wanted_put oj _ o.dst v hnl)
     ·rintro⟨j,hjE,hjl⟩
      have hji:j≠i:=fun e=>hiE (e▸hjE)
      rw[getD_set_ne false (Ne.symm hji)]at hjl
      refine hE' ?_
      cases hwi:wv i with
      |false=>rfl
      |true=>
       exfalso
       have:=((hT j hjE).read i o ho (Ne.symm hji) (hun0 i hio hif) hiE).2 hwi
       obtain⟨x,hx,hxb,hxo⟩:=c0c this
       have:=hdeps x hx hxb
       rw[hxo,hjl]at this;cases this
    unfold wpOp at hop⊢
    rw[ho]at hop⊢
    show if Region.wanted o (yielded ops A.tmps)=true then _ else _
    have hop':if Region.wanted o (yielded ops B.tmps)=true then _ else _:=hop
    rw[hwant]
    split
    ·rename_i hw
     rw[if_pos hw]at hop'
     refine .inl ?_
     have hop2:=hop'.resolve_right (by rintro⟨_,_,_,hh⟩;exact(hh:False).elim)
     unfold Oper.wp at hop2⊢
     rw[hexec]
     generalize(execOp B.eval o).run P W=r at*
     cases r with
     | ok nx w'=>
      cases nx<;>simp only[Oper.upon]at hop2⊢
      case value u=>exact hnext B.defers u w' hop2|>fun h=>by have hd:=hI.defers;rw[←hd]at h;exact h
      case skip=>exact hnext B.defers undef w' hop2|>fun h=>by have hd:=hI.defers;rw[←hd]at h;exact h
      case defer dd=>exact hnext (dd::B.defers) undef w' hop2|>fun h=>by have hd:=hI.defers;rw[←hd]at h;exact h
      case enter g args=>
       refine Calls.mono hop2 fun e W' he=> ?_
       cases e with
       |returned u=>exact hnext B.defers u W' he|>fun h=>by have hd:=hI.defers;rw[←hd]at h;exact h
       |panicked ch=>exact(he:False).elim
       |outgrown=>obtain⟨_,_,hh⟩:=he;exact(hh:False).elim
      case row row args=>exact Rows.mono hop2 fun u W' he=>hnext B.defers u W' he|>fun h=>by have hd:=hI.defers;rw[←hd]at h;exact h
     |halt x w'=>cases x<;>simp only[Oper.upon]at hop2⊢ <;>exact(hop2:False).elim
    ·rename_i hw
     rw[if_neg hw]at hop'
     exact hnext B.defers undef W hop'|>fun h=>by have hd:=hI.defers;rw[←hd]at h;exact h
def d0L (listed:Array Bool)(E:List Nat):Array Bool:=E.foldl (fun L i=>L.setIfInBounds i true) listed
theorem j0i (E:List Nat): ∀listed:Array Bool,(d0L listed E).size=listed.size:=by
 induction E with
 |nil=>intro _;rfl
 |cons i E ih=>intro L;rw[show d0L L (i::E)=d0L (L.setIfInBounds i true) E from rfl,ih];simp
theorem l0g (E:List Nat): ∀(listed:Array Bool) (j:Nat),j<listed.size→(d0L listed E).getD j false=(listed.getD j false||decide (j∈E)):=by
 induction E with
 |nil=>intro L j _;simp[d0L]
 |cons i E ih=>
  intro L j hj
  rw[show d0L L (i::E)=d0L (L.setIfInBounds i true) E from rfl,ih _ _ (by simpa using hj)]
  by_cases hji:j=i
  ·subst hji;simp[Array.getD,hj]
  ·rw[getD_set_ne false (Ne.symm hji)];simp[hji]
def h0r (l:List Oper):List Nat→List Oper
 | []=> []
 |i::is=>match l[i]?with
  |some o=>o::h0r l is
  |none=>h0r l is
theorem i0l (l:List Oper): ∀(is:List Nat),(is.all fun i=>decide (i<l.length))=true→is.map (fun i=>l.toArray[i]?)=(h0r l is).map some
 | [],_=>rfl
 |i::is,h=>by
  simp only[List.all_cons,Bool.and_eq_true,cQ]at h
  have hi:l[i]? =some l[i]:=by simp[h.1]
  simp only[List.map_cons,h0r,hi,List.map_cons,i0l l is h.2]
  simp[h.1]
theorem G.take {l:List Oper}{a:Act}{w:World}{fuel:Nat}{listed:Array Bool}(E:List Nat)(listed':Array Bool)(fuel':Nat)(hns:Region.noSelect l.toArray=true)(hin:(E.all fun i=>decide (i<l.length))=true)
  (hok:d0x l.toArray listed wv E a.tmps.size [] E=true) (hsz:listed.size=l.toArray.size) (hf:fuel=listed.toList.count false) (hl':d0L listed E=listed') (hf':fuel'=listed'.toList.count false) (hE:Ext w0 w)
  (h:wpQuiet P l.toArray (fun w=> ∃x:SW w0,w=x.w) (fun a1=>b0C P l.toArray w0 wv Q fuel' listed' a1 w) (h0r l E) a):b0C P l.toArray w0 wv Q fuel listed a w:=by
 obtain⟨a1,hK,h1,h2,h3,h4,h5⟩:=l0q E [] (h0r l E) a hok (fun j hj=>by simpa using hj) (i0l l E hin) h
 subst hl'
 refine v0y (size0:=a.tmps.size) (E:=E) (listed0:=listed) (Region.noSelect_spec hns) hsz h4 hok fuel listed a w fuel' (d0L listed E) a1 hf hf' h1 ⟨hsz,by rw[j0i];exact hsz,fun _ h=>h,fun i hi=>l0g E listed i (by rw[hsz];exact hi),h1.symm,h2.symm,?_,fun i hi _ o ho=>h5 i hi o ho,fun _=>hE⟩ hK
 intro t ht
 refine(h3 t fun i hi=>ht i hi ?_).symm
 have hfr:=(h4 i hi).free
 exact(k0N hfr).2
theorem G.one {a:Act}{w:World}{fuel:Nat}{listed:Array Bool}(i:Nat){o:Oper}(listed':Array Bool)(ho:ops[i]? =some o)(hr:Region.ready .any ops listed= [i])(hl':listed.setIfInBounds i true=listed')(hw:Region.wanted o (yielded ops a.tmps)=true)
  (h:o.wp P a w (fun a' w'=>(wv i=false→Ext w0 w')∧b0C P ops w0 wv Q fuel listed' a' w') (g0w Q)):b0C P ops w0 wv Q (fuel+1) listed a w:=by
 subst hl'
 refine⟨fun e=>(by rw[hr]at e;cases e),fun j hj=> ?_⟩
 rw[hr]at hj
 obtain rfl:=List.mem_singleton.1 hj
 unfold wpOp
 rw[ho]
 show if Region.wanted o (yielded ops a.tmps)=true then _ else _
 rw[if_pos hw]
 exact .inl h
theorem G.call {a:Act}{w:World}{fuel:Nat}{listed:Array Bool}(i:Nat){o:Oper}(listed':Array Bool){f:FuncId}{fn:Func}{xs:Array Operand}{ats:Array TypeId}(ho:ops[i]? =some o)
  (hop:o.op= .call {callee:= .value (.func f),args:=xs,argTypes:=ats}) (hfn:P.funcs[f]? =some fn) (hn:(fn.name== "runtime.NumGoroutine")=false) (hb:fn.body.isNone=false)
  (hr:Region.ready .any ops listed= [i]) (hl':listed.setIfInBounds i true=listed') (hw:Region.wanted o (yielded ops a.tmps)=true) {args:Array Value} (hargs:xs.map a.eval=args)
  (h:Calls P f args w fun e w'=> ∃v,e= .returned v∧(wv i=false→Ext w0 w')∧b0C P ops w0 wv Q fuel listed' (a.put o.dst v) w'):b0C P ops w0 wv Q (fuel+1) listed a w:=by
 refine G.one i listed' ho hr hl' hw ?_
 unfold Oper.wp
 rw[b0V hop hfn hn hb,hargs]
 refine Calls.mono h fun e w' he=> ?_
 obtain⟨v,rfl,h1,h2⟩:=he
 exact⟨h1,h2⟩
theorem G.two {a:Act}{w:World}{fuel:Nat}{listed:Array Bool}(i j:Nat)(hr:Region.ready .any ops listed= [i,j])
  (h1:wpOp P ops (g0w Q) i (fun a' w'=>(wv i=false→Ext w0 w')∧b0C P ops w0 wv Q fuel (listed.setIfInBounds i true) a' w') a w)
  (h2:wpOp P ops (g0w Q) j (fun a' w'=>(wv j=false→Ext w0 w')∧b0C P ops w0 wv Q fuel (listed.setIfInBounds j true) a' w') a w):b0C P ops w0 wv Q (fuel+1) listed a w:=by
 refine⟨fun e=>(by rw[hr]at e;cases e),fun k hk=> ?_⟩
 rw[hr]at hk
 rcases List.mem_cons.1 hk with rfl|hk
 ·exact h1
 ·obtain rfl:=List.mem_singleton.1 hk
  exact h2
theorem G.wp {a:Act}{w:World}{K:Act→World→Prop}(i:Nat){o:Oper}(ho:ops[i]? =some o)(hw:Region.wanted o (yielded ops a.tmps)=true)(h:o.wp P a w K (g0w Q)):wpOp P ops (g0w Q) i K a w:=by
 unfold wpOp
 rw[ho]
 show if Region.wanted o (yielded ops a.tmps)=true then _ else _
 rw[if_pos hw]
 exact .inl h
theorem G.done {a:Act}{w:World}(fuel:Nat){listed:Array Bool}(hr:Region.ready .any ops listed= [])(h:Q a w):b0C P ops w0 wv Q fuel listed a w:=by
 cases fuel with
 |zero=>exact⟨hr,h⟩
 |succ f=>exact⟨fun _=>h,fun i hi=>by rw[hr]at hi;cases hi⟩
def h0L (ops:Array Oper)(wv:Nat→Bool):Array Bool→List Nat→Bool
 |listed,[]=>Region.ready .any ops listed== []
 |listed,i::is=>(Region.ready .any ops listed== [i])&&wv i&&h0L ops wv (listed.setIfInBounds i true) is
theorem G.list {l:List Oper}: ∀(is:List Nat) (fuel:Nat) (listed:Array Bool) (a:Act) (w:World),fuel=is.length→(is.all fun i=>decide (i<l.length))=true→h0L l.toArray wv listed is=true→
  wpList P l.toArray (g0w Q) (h0r l is) a w→b0C P l.toArray w0 wv Q fuel listed a w
 | [],fuel,listed,a,w,hf,_,hc,h=>G.done fuel (by simpa[h0L]using hc) h
 | i::is,fuel,listed,a,w,hf,hin,hc,h=>by
  simp only[List.all_cons,Bool.and_eq_true,cQ]at hin
  simp only[h0L,Bool.and_eq_true,beq_iff_eq]at hc
  obtain⟨⟨hr,hwv⟩,hc⟩:=hc
  have hi:l[i]? =some l[i]:=by simp[hin.1]
  have ho:l.toArray[i]? =some l[i]:=by simp[hin.1]
  simp only[h0r,hi]at h
  subst hf
  have hK: ∀a' w',wpList P l.toArray (g0w Q) (h0r l is) a' w'→(wv i=false→Ext w0 w')∧b0C P l.toArray w0 wv Q is.length (listed.setIfInBounds i true) a' w':=fun a' w' h'=>
   ⟨fun e=>(by rw[hwv]at e;cases e),G.list is is.length _ a' w' rfl hin.2 hc h'⟩
  refine⟨fun e=>(by rw[hr]at e;cases e),fun j hj=> ?_⟩
  rw[hr]at hj
  obtain rfl:=List.mem_singleton.1 hj
  unfold wpList at h
  unfold wpOp
  rw[ho]
  show if Region.wanted l[j] (yielded l.toArray a.tmps)=true then _ else _
  split
  ·rename_i hw;rw[if_pos hw]at h;exact h.imp (Oper.wp_mono hK) id
  ·rename_i hw;rw[if_neg hw]at h;exact hK _ _ h
end
end Go.Proofs.YtojomcdjcpmnkaaGreat.L
namespace Go.Proofs.YtojomcdjcpmnkaaGreat.W
open Go.RowKit L
end Go.Proofs.YtojomcdjcpmnkaaGreat.W
namespace Go.Proofs.YtojomcdjcpmnkaaGreat.Wi
open Go.RowKit L A Dk W
attribute [local irreducible] AW AQ AO
structure Win where
 s:Int
 t:Int
 b:Nat
 l:Bool
 deriving DecidableEq
def Win.ok (w:Win):Prop:=p0w w.s∧p0w w.t∧w.b<2^64
def v0X (w:Win):List AV:= [.val (.int .i64 w.s),.val (.int .i64 w.t),.val (.int .u64 (w.b:Int)),.val (.bool w.l)]
def v0Y (w:Win):AV:= .agg (v0X w)
def zeroW:Win:=⟨0,0,0,false⟩
def check (w:Win)(n:Int):Int:=u0a w.s w.t w.b w.l n
def acc (w:Win)(n:Int):Win:=if check w n=0 then⟨w.s,w0K w.t n,w0L w.s w.t w.b n,false⟩else zeroW
def valid (w:Win):Bool:=d0H w.s w.t w.b w.l
theorem f0v (w:Win)(h:w.ok):Sp Tryz.prog 102 [v0Y w] [] (Is (.val (.bool (valid w)))):=Sp.of_calls rfl rfl fun W=>l0j w.s w.t w.b w.l W h.1 h.2.1 h.2.2
end Go.Proofs.YtojomcdjcpmnkaaGreat.Wi
