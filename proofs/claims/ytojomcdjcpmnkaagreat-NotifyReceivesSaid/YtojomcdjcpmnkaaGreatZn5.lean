/-
  Texts laid together (part 5): what the statement's walk and plain law need. No condition.
-/
import Derived.Maps.AppendAt
import Derived.Test.YtojomcdjcpmnkaaGreatZn4
set_option linter.unusedVariables false
set_option linter.unusedSimpArgs false
set_option maxRecDepth 20000
set_option maxHeartbeats 4000000
namespace Go.Proofs.YtojomcdjcpmnkaaGreat.By
open Go.RowKit L A
attribute [local irreducible] AW AQ AO
abbrev u0R (w:Nat→UInt8)(b:Nat):AV:= .fn (.func 198) [pt b,.rp [.rp (g0k w) 0] 0]
abbrev xB (b:Nat)(x:Nat→UInt8):HE:= .blk b 171 16 (arB 16 x)
theorem p0T (w:Nat→UInt8):Sp Tryz.prog 181 [.rp (g0k w) 0] [] (fun v Hn=> ∃b,v=u0R w b∧Hn= [xB b fun _=>0]):=by
 refine yH Tryz.func181 _ Tryz.ntmps181 (fun w0 R0=> ?_)
 refine zC (zq ?_)
 refine z9 ?_
 intro B1
 refine zc (zH (zn (zC (zq ?_))))
 refine zd ?_
 intro B2
 refine zH (zn (zC (zq ?_)))
 refine AO.g ?_
 refine G.freezePtr 1 1 rfl rfl ?_
 refine AO.u ?_
 dsimp only[List.eraseIdx]
 refine vO (O.fn rfl rfl) ?_
 refine zc (zH (zn (y3 ?_)))
 refine vm rfl rfl ⟨_,by repeat(first|exact List.Sublist.slnil|refine List.Sublist.cons_cons _ ?_),List.Perm.refl _⟩ (⟨B2,rfl,rfl⟩)
def k0r (aad nonce:List UInt8)(tag:Int):UInt8:=u8 (8*(tag/2-1)+14-(nonce.length:Int)+(if aad= []then 0 else 64))
def d0l (aad:List UInt8):List UInt8:=u8 ((aad.length:Int)/256)::u8 (aad.length:Int)::aad
def l0k (w:Nat→UInt8)(nonce aad plain:List UInt8)(tag:Int):Nat→UInt8:=
 absorb w (if aad= []then absorb w (fun _=>0) (fnB 16 (b0Z (k0r aad nonce tag) nonce plain.length))else absorb w (absorb w (fun _=>0) (fnB 16 (b0Z (k0r aad nonce tag) nonce plain.length))) (d0l aad)) plain
theorem n0Z (f:Nat→UInt8):((arB 16 f).drop (0+0*1)).take ((16-0)*1)=arB 16 f:=by
 show((arB 16 f).drop 0).take 16=_
 rw[cO,List.take_of_length_le (Nat.le_of_eq (a0b _ _))]
theorem s0E (w:Nat→UInt8)(nonce aad plain:List UInt8)(tag:Int)(hn13:nonce.length≤13)(ht:4≤tag∧tag≤16)(ha:aad.length≤10000)(hp:plain.length≤10000):Sp Tryz.prog 159 [.rp (g0k w) 0,roB nonce,roB aad,roB plain,.val (.int .i64 tag)] [] (Is (.agg (arB 16 (l0k w nonce aad plain tag)))):=by
 refine yH Tryz.func159 _ Tryz.ntmps159 (fun w0 R0=> ?_)
 refine zC (zq ?_)
 refine zd ?_
 intro B1
 refine zH (zn (zC (zq ?_)))
 refine zb ?_
 refine AO.opN (xD rfl Tryz.func181 rfl rfl rfl (p0T w)) rfl rfl rfl ?_
 rintro _ _ ⟨B2,rfl,rfl⟩
 simp only[cA,cN]
 refine zc (zH (zn (zC (zq ?_))))
 refine zb ?_
 refine wQ ?_
 refine yG ?_
 refine wL ?_
 refine zx ?_
 refine zb ?_
 refine zZ ?_
 refine yG ?_
 refine y4 ?_
 refine zc (zH (zn (zC (zC (zq ?_)))))
 refine zb ?_
 refine zZ ?_
 refine yN (zH (zn ?_))
 obtain⟨z,hz⟩: ∃z,z=8*(tag/2-1)+14-(nonce.length:Int):=⟨_,rfl⟩
 have hzb:0≤z∧z≤127∧z+64≤255:=by omega
 rw[←hz]
 refine wh True [(1,_),(2,_),(3,_),(10,_),(11,_)] [(12,by8 (k0r aad nonce tag))] [xB B2 (fun _=>0),xB B1 (fun _=>0)] (fun h27=> ?_) (fun h27=> ?_) (fun hj=> ?_)<;>try(try simp only[vU]at h27)
 ·have e:u8 (((u8 z).toNat:Int)+64)=k0r aad nonce tag:=by
   have hne:aad≠ []:=fun e=>by rw[e]at h27;simp at h27
   rw[k0r,if_neg hne,←hz,c0c]
   congr 1;omega
  refine zq ?_
  refine zb ?_
  refine vO (O.add rfl rfl rfl (by exact d0A)) ?_
  refine zc (zH ?_)
  rw[e]
  refine yK
 ·have e:u8 z=k0r aad nonce tag:=by
   have hne:aad= []:=List.eq_nil_of_length_eq_zero (by omega)
   rw[k0r,if_pos hne,←hz,Int.add_zero]
  refine yU ?_
  rw[e]
  refine yK
 dsimp only[cA,cN]
 refine zn ?_
 obtain⟨x1,hx1⟩: ∃x1,x1=absorb w (fun _=>0) (fnB 16 (b0Z (k0r aad nonce tag) nonce plain.length)):=⟨_,rfl⟩
 have hc1:=f0N w B2 (fun _=>0) (fnB 16 (b0Z (k0r aad nonce tag) nonce plain.length)) (by rw[a0D];omega)
 rw[←hx1]at hc1
 have hc2:=f0N w B2 x1 (d0l aad) (by simp only[d0l,cL];omega)
 obtain⟨x2,hx2⟩: ∃x2,x2=if aad= []then x1 else absorb w x1 (d0l aad):=⟨_,rfl⟩
 have hc3:=f0N w B2 x2 plain (by omega)
 refine zC (zq ?_)
 refine zb ?_
 refine zb ?_
 refine zb ?_
 refine zZ ?_
 refine vO (xD rfl Tryz.func180 rfl rfl rfl (f0R _ nonce _ hn13 ⟨by omega,by omega⟩)) ?_
 refine zd ?_
 intro B3
 refine xk 0 ?_
 refine AO.g ?_
 refine G.freezePtr 0 13 rfl rfl ?_
 refine AO.u ?_
 dsimp only[List.eraseIdx]
 refine zH (zn (zC (zq ?_)))
 refine zb ?_
 refine vO (O.sliceArrRK (p:=0) rfl rfl rfl rfl (by rfl) (by rfl) ⟨by omega,by omega⟩ (by omega) (by(unfold maxLen;omega)) (by exact n0Z _)) ?_
 refine AO.callMV1 (i:=0) rfl rfl rfl Tryz.func198 rfl rfl rfl rfl rfl rfl hc1 (by(dsimp only[List.set,cA,cN,List.take,List.drop];done)) (zH (zn (zC (zC (zq ?_)))))
 refine zb ?_
 refine zZ ?_
 refine yN (zH (zn ?_))
 refine wh True [(3,_),(10,_),(11,_)] [] [xB B2 x2,xB B1 (fun _=>0)] (fun h40=> ?_) (fun h40=> ?_) (fun hj=> ?_)<;>try(try simp only[vU]at h40)
 ·have hne:aad≠ []:=fun e=>by rw[e]at h40;simp at h40
  have e2:absorb w x1 (d0l aad)=x2:=by rw[hx2,if_neg hne]
  have er:roB (d0l aad)=AV.ro false (2+aad.length) (AV.val (.int .u8 ((u8 ((aad.length:Int)/256)).toNat:Int))::AV.val (.int .u8 ((u8 (aad.length:Int)).toNat:Int))::a0a aad):=(b0r (by simp only[d0l,cL];omega) rfl).symm
  rw[e2,er]at hc2
  refine zq ?_
  refine zb ?_
  refine zb ?_
  refine zZ ?_
  refine wZ ?_
  refine y4 ?_
  refine zb ?_
  refine zZ ?_
  refine y4 ?_
  refine xH ?_
  intro B4
  refine AO.g ?_
  refine xK B4 2 2 0 rfl rfl rfl (Nat.le_refl _) ?_
  refine AO.u ?_
  dsimp only[List.set]
  refine zb ?_
  refine zF 0 ?_
  intro V5 hV5
  refine AO.g ?_
  refine yL 0 [51] ?_
  refine AO.u ?_
  dsimp only[List.map,List.eraseIdx,cA,cN]
  refine AO.callMV1 (i:=0) rfl rfl rfl Tryz.func198 rfl rfl rfl rfl rfl rfl hc2 (by(dsimp only[List.set,cA,cN,List.take,List.drop];done)) (zH ?_)
  refine vh
 ·have hne:aad= []:=List.eq_nil_of_length_eq_zero (by omega)
  have e2:x1=x2:=by rw[hx2,if_pos hne]
  refine yU ?_
  rw[e2]
  refine wY
 dsimp only[cA,cN]
 refine zn ?_
 have hm:l0k w nonce aad plain tag=absorb w x2 plain:=by rw[l0k,hx2,hx1]
 refine zC (zq ?_)
 refine zb ?_
 refine zb ?_
 refine AO.callMV1 (i:=0) rfl rfl rfl Tryz.func198 rfl rfl rfl rfl rfl rfl hc3 (by(dsimp only[List.set,cA,cN,List.take,List.drop];done)) ?_
 refine yh 1 (zH (zn (y3 ?_)))
 refine AQ.retCell (ys:=arB 16 (absorb w x2 plain)) rfl rfl mM (List.take_of_length_le (Nat.le_of_eq (a0b _ _))) (a0b _ _) nS ⟨by rw[hm],rfl⟩
end Go.Proofs.YtojomcdjcpmnkaaGreat.By
namespace Go.Proofs.YtojomcdjcpmnkaaGreat.A
open Go.RowKit L
section
variable {Γ:Cx}{P:Program}{E:Env}{H:List HE}
theorem AQ.ret2G {fn:Func}{Post:AV→List HE→Prop}{x y:ResultVar}{p q:AV}{H':List HE}(hr:fn.results= #[x,y])(h1:ResAt Γ P E H x p)(h2:ResAt Γ P E H y q)
  (hH: ∃H1,H1.Sublist H∧H'.Perm H1) (hp:Post (.tup [p,q]) H'):AQ Γ (FnQ Γ P fn Post) .ret E H:=fun R a W hs ha=>by
 obtain⟨H1,k1,k2⟩:=hH
 obtain⟨u1,e1,g1⟩:=h1 R a W hs ha
 obtain⟨u2,e2,g2⟩:=h2 R a W hs ha
 refine⟨ha.defers,.tuple #[u1,u2],?_,_,_,H',R,rfl,hp,?_,RelL.toTup (us:= [u1,u2]) (RelL.cons g1 (RelL.cons g2 RelL.nil))⟩
 ·rw[g0x,hr]
  simp[e1,e2]
 have:=(hs.sub k1).perm k2
 exact⟨this.mods,this.rlt,this.rsub,this.rnew,this.ok,this.own,this.disj⟩
end
end Go.Proofs.YtojomcdjcpmnkaaGreat.A
namespace Go.Proofs.YtojomcdjcpmnkaaGreat.By
open Go.RowKit L A
set_option linter.unusedVariables false
set_option maxRecDepth 20000
set_option linter.unusedSimpArgs false
attribute [local irreducible] AW AQ AO
theorem n0N (l:List UInt8)(hl:l.length≤1000000):Sp Tryz.prog 138 [roB l] [] (b0e 5 1 l.length (arB l.length (kf l))):=by
 refine yH Tryz.func138 _ Tryz.ntmps138 (fun w0 R0=> ?_)
 refine zC (zq ?_)
 refine zc (zH (zn (zC (zC (zq ?_)))))
 refine zb ?_
 refine AO.opN (O.eqlNil rfl rfl rfl) rfl rfl rfl ?_
 rintro _ _ ⟨c1,rfl,rfl,hnil1⟩
 simp only[cA,cN]
 refine zH (zn ?_)
 refine ym (fun h=> ?_) (fun h=> ?_)
 ·obtain rfl:l= []:=List.eq_nil_of_length_eq_zero (by exact hnil1 (by simp[h]))
  refine zC (zq ?_)
  refine zc (zH (zn (y3 (xh ?_))))
  refine AQ.g ?_
  refine G.nilRow 5 1 ?_
  refine AQ.u ?_
  refine vm rfl rfl ⟨_,by repeat(first|exact List.Sublist.slnil|refine List.Sublist.cons_cons _ ?_),List.Perm.refl _⟩ (⟨_,rfl,rfl,rfl⟩)
 refine yU (zn (zC (zq ?_)))
 refine vS (O.buildSlice0 rfl) ?_
 intro V2 hV2
 refine zb ?_
 refine zF 0 ?_
 intro V3 hV3
 refine zc (zH (zn (y3 ?_)))
 rw[Nat.zero_add,e0E]
 refine vm rfl rfl ⟨_,by repeat(first|exact List.Sublist.slnil|refine List.Sublist.cons_cons _ ?_),List.Perm.refl _⟩ (⟨V3,rfl,hV3,rfl⟩)
def e0N (w:Nat→UInt8)(nonce text:List UInt8)(i:Nat):UInt8:=kf text i^^^enc w (b0Z (u8 (14-(nonce.length:Int))) nonce (((i/16:Nat):Int)+1)) (i%16)
def l0H (w:Nat→UInt8)(nonce text:List UInt8)(k i:Nat):UInt8:=if i<k then e0N w nonce text i else kf text i
def e0F (w:Nat→UInt8)(nonce:List UInt8)(tg:Nat→UInt8)(q:Nat):UInt8:=tg q^^^enc w (b0Z (u8 (14-(nonce.length:Int))) nonce 0) q
theorem l0W (w:Nat→UInt8)(nonce text:List UInt8)(i:Nat):l0H w nonce text 0 i=kf text i:=if_neg (by omega)
set_option maxHeartbeats 8000000 in
theorem l0V (w:Nat→UInt8)(nonce text:List UInt8)(tg:Nat→UInt8)(hn13:nonce.length≤13)(hp:text.length≤1000000):Sp Tryz.prog 158 [.rp (g0k w) 0,roB nonce,roB text,.agg (arB 16 tg)] []
  (fun r Hn=> ∃V:Value,V.oneCell'=true∧r= .tup [.val V,.agg (arB 16 (e0F w nonce tg))]∧Hn= [.row V 5 1 text.length (arB text.length (e0N w nonce text))]):=by
 refine yH Tryz.func158 _ Tryz.ntmps158 (fun w0 R0=> ?_)
 refine zC (zq ?_)
 refine z9 ?_
 intro B1
 refine zc ?_
 refine zd ?_
 intro B2
 refine zH (zn (zC (zq ?_)))
 refine zb ?_
 refine vS (xD rfl Tryz.func138 rfl rfl rfl (n0N _ hp)) ?_
 intro V3 hV3
 refine zc (zH (zn (zC (zq ?_))))
 refine zb ?_
 refine zZ ?_
 refine yG ?_
 refine y4 ?_
 refine zc (zH (zn (zC (zC (zq ?_)))))
 refine zc (zH (zn (xb ?_)))
 obtain⟨n,hn⟩: ∃n,n=text.length:=⟨_,rfl⟩
 rw[←hn]
 have e0:arB n (kf text)=arB n (l0H w nonce text 0):=a0d fun q _=>(l0W w nonce text q).symm
 rw[e0]
 refine zh [(0,_),(1,_),(7,_),(9,_),(11,_)] (fun nn E H=> ∃(j:Nat) (V:Value),(16*j<n+16)∧(V.oneCell'=true)∧nn=n+16-16*j∧E= [(10,.val V),(12,.val (.int .i64 ((16*j:Nat):Int)))]∧H= [.row V 5 1 n (arB n (l0H w nonce text (16*j))),.blk B2 171 16 (arB 16 fun _=>0),.blk B1 171 16 (arB 16 tg)]) _ (⟨0,V3,by omega,hV3,rfl,rfl,rfl⟩) ?_
 rintro nn E H ⟨j,V,hj,hV,rfl,rfl,rfl⟩
 dsimp only[cA,cN]
 refine zC (zC (zq ?_))
 refine zb ?_
 refine zb ?_
 refine wj ?_
 refine zR (zH (zn ?_))
 refine ym (fun h=> ?_) (fun h=> ?_)<;>(try simp only[vU]at h)
 ·have hj':16*j<n:=by omega
  obtain⟨m,hm⟩: ∃m:Nat,m=min n (16*j+16):=⟨_,rfl⟩
  have hmin:(if((16*j:Nat):Int)+16<(n:Int)then((16*j:Nat):Int)+16 else(n:Int))=(m:Int):=by split<;>omega
  have hq:((16*j:Nat):Int)/16+1=(j:Int)+1:=by omega
  refine AW.g ?_
  refine G.openRow 0 rfl (by omega) (fun b' cap hc1 hc2 hxs hVe=> ?_)
  refine AW.u ?_
  subst hVe
  dsimp only[List.set]
  refine yU (zn (zC (xb (zC (zq ?_)))))
  refine zb ?_
  refine zb ?_
  refine zb ?_
  refine zb ?_
  refine wQ ?_
  refine zx ?_
  refine vO (xD rfl Tryz.func180 rfl rfl rfl (f0R _ nonce _ hn13 ⟨by omega,by omega⟩)) ?_
  refine vO (xD rfl Tryz.func179 rfl rfl rfl (h0s w _)) ?_
  refine zd ?_
  intro B4
  refine xk 0 (zH (zn (zC (zq ?_))))
  refine zb ?_
  refine zc (zH (zn (xb ?_)))
  rw[hq]
  obtain⟨z,hz⟩: ∃z,z=enc w (b0Z (u8 (14-(nonce.length:Int))) nonce ((j:Int)+1)):=⟨_,rfl⟩
  rw[←hz]
  refine zh [(0,_),(1,_),(7,_),(9,_),(10,_),(11,_),(12,_),(13,_)] (fun nn E H=> ∃(k:Nat),(16*j≤k∧k≤m)∧nn=m-k∧E= [(14,.val (.int .i64 (k:Int)))]∧H= [.blk B4 171 16 (arB 16 z),.blk b' 5 (cap*1) (arB n (l0H w nonce text k)),.blk B2 171 16 (arB 16 fun _=>0),.blk B1 171 16 (arB 16 tg)]) _ (⟨16*j,by omega,rfl,rfl,rfl⟩) ?_
  rintro nn E H ⟨k,hk,rfl,rfl,rfl⟩
  dsimp only[cA,cN]
  refine zC (zC (zq ?_))
  refine zb ?_
  refine zb ?_
  refine vO (O.lenV rfl rfl) ?_
  refine zb ?_
  refine zx ?_
  refine vO (O.minI rfl rfl rfl hmin) ?_
  refine zR (zH (zn ?_))
  refine ym (fun h2=> ?_) (fun h2=> ?_)<;>(try simp only[vU]at h2)
  ·have hk':k<m:=by omega
   refine yU (zn (zC (xb ?_)))
   refine yo 11 ?_
   simp only[cT,cZ,cD,cO]
   refine zE ?_
   refine zE ?_
   refine vd ?_
   refine vP (O.load rfl rfl mM (by exact a0p (k:=k) (by omega) (by omega))) ?_
   refine zE ?_
   refine zE ?_
   refine xQ ?_
   refine yO ?_
   refine vP (O.load rfl rfl (by repeat(exact List.Mem.head _)) (by exact a0p (k:=k-16*j) (by omega) (by omega))) ?_
   refine wy ?_
   refine vd ?_
   refine vf ?_
   simp only[a0g,cN,cA,cP]
   refine yF 1 rfl rfl rfl rfl rfl rfl (by rfl) (by rfl) (by exact Nat.ble_eq_true_of_le (by rw[a0b];omega)) (by exact a0K (k:=k) (by omega) _ (by omega)) (zH (xA (zn (zq ?_))))
   refine zb ?_
   refine zx ?_
   refine zc (zH ?_)
   have e1:arB n (fun q=>if q=k then l0H w nonce text k k^^^z (k-16*j)else l0H w nonce text k q)=arB n (l0H w nonce text (k+1)):=a0d fun q _=>by
    unfold l0H
    rcases Nat.lt_trichotomy q k with h1|h1|h1
    ·rw[if_neg (by omega),if_pos h1,if_pos (by omega)]
    ·rw[if_pos h1,if_neg (by omega),if_pos (by omega),h1,e0N,hz,show k/16=j by omega,show k%16=k-16*j by omega]
    rw[if_neg (by omega),if_neg (by omega),if_neg (by omega)]
   rw[e1]
   refine zr _ _ _ (by omega) (⟨k+1,by omega,rfl,rfl,rfl⟩)
  obtain rfl:k=m:=by omega
  refine wm ?_
  refine xY ?_
  refine wa ?_
  refine xq (xA (zn (zq ?_)))
  refine zb ?_
  refine zx ?_
  refine zc (zH ?_)
  have e1:arB n (l0H w nonce text k)=arB n (l0H w nonce text (16*(j+1))):=a0d fun q hq=>by
   unfold l0H
   by_cases h1:q<k
   ·rw[if_pos h1,if_pos (by omega)]
   rw[if_neg h1,if_neg (by omega)]
  rw[e1]
  refine AQ.g ?_
  refine G.closeRow (b:=b') 1 rfl (by rw[a0b,Nat.mul_one]) rfl hc1 hc2 ?_
  refine AQ.u ?_
  dsimp only[List.set]
  have e2:((16*j:Nat):Int)+16=((16*(j+1):Nat):Int):=by omega
  rw[e2]
  refine zJ _ _ _ (by omega) (⟨j+1,_,by omega,hV,rfl,rfl,rfl⟩)
 have e1:arB n (l0H w nonce text (16*j))=arB n (e0N w nonce text):=a0d fun q hq=>if_pos (by omega)
 rw[e1]
 refine wm ?_
 refine xY ?_
 refine wa ?_
 refine xq (zn (zC (zq ?_)))
 refine zb ?_
 refine zb ?_
 refine zb ?_
 refine vO (xD rfl Tryz.func180 rfl rfl rfl (f0R _ nonce _ hn13 ⟨by omega,by omega⟩)) ?_
 refine vO (xD rfl Tryz.func179 rfl rfl rfl (h0s w _)) ?_
 refine zd ?_
 intro B5
 refine xk 0 (zH (zn (zC (zC (zq ?_)))))
 refine zb (zH (zn (xb ?_)))
 have e2:arB 16 tg=arB 16 (fun q=>if q<0 then e0F w nonce tg q else tg q):=a0d fun q _=>(if_neg (by omega)).symm
 rw[e2]
 obtain⟨z,hz⟩: ∃z,z=enc w (b0Z (u8 (14-(nonce.length:Int))) nonce 0):=⟨_,rfl⟩
 rw[←hz]
 refine zh [(7,_),(9,_),(10,_),(15,_)] (fun nn E H=> ∃(i:Nat),(i≤16)∧nn=16-i∧E= [(63,.val (.int .i64 (i:Int)))]∧H= [.blk B5 171 16 (arB 16 z),.row V 5 1 n (arB n (e0N w nonce text)),.blk B2 171 16 (arB 16 fun _=>0),.blk B1 171 16 (arB 16 (fun q=>if q<i then e0F w nonce tg q else tg q))]) _ (⟨0,by omega,rfl,rfl,rfl⟩) ?_
 rintro nn E H ⟨i,hi,rfl,rfl,rfl⟩
 dsimp only[cA,cN]
 refine zC (zq ?_)
 refine zR (zH (zn (zC ?_)))
 refine ym (fun h3=> ?_) (fun h3=> ?_)<;>(try simp only[vU]at h3)
 ·have hi':i<16:=by omega
  refine yU (zn (zC (xb (zC (zq ?_)))))
  refine zb ?_
  refine zc (zH (zn ?_))
  refine yo 8 ?_
  simp only[cT,cZ,cD,cO]
  refine zE ?_
  refine yO ?_
  refine vP (O.load rfl rfl mM (by exact a0p (k:=i) (by omega) (by omega))) ?_
  refine zE ?_
  refine yO ?_
  refine vP (O.load rfl rfl (by repeat(exact List.Mem.head _)) (by exact a0p (k:=i) (by omega) (by omega))) ?_
  refine wy ?_
  refine yO ?_
  refine vf ?_
  simp only[a0g,cN,cA,cP]
  refine yF 3 rfl rfl rfl rfl rfl rfl (by rfl) (by rfl) (by exact Nat.ble_eq_true_of_le (by rw[a0b];omega)) (by exact a0K (k:=i) (by omega) _ (by omega)) (zH (xA (zn (zq ?_))))
  refine zx ?_
  refine zb (zH ?_)
  have e3:arB 16 (fun q=>if q=i then(if i<i then e0F w nonce tg i else tg i)^^^z i else if q<i then e0F w nonce tg q else tg q)=arB 16 (fun q=>if q<i+1 then e0F w nonce tg q else tg q):=a0d fun q _=>by
   rcases Nat.lt_trichotomy q i with h1|h1|h1
   ·rw[if_neg (by omega),if_pos h1,if_pos (by omega)]
   ·rw[if_pos h1,if_neg (by omega),if_pos (by omega),h1,e0F,hz]
   rw[if_neg (by omega),if_neg (by omega),if_neg (by omega)]
  rw[e3]
  refine zr _ _ _ (by omega) (⟨i+1,by omega,rfl,rfl,rfl⟩)
 obtain rfl:i=16:=by omega
 have e3:arB 16 (fun q=>if q<16 then e0F w nonce tg q else tg q)=arB 16 (e0F w nonce tg):=a0d fun q hq=>if_pos hq
 rw[e3]
 refine wm ?_
 refine xY ?_
 refine wa ?_
 refine xq (zn (zC ?_))
 refine yo 3 ?_
 simp only[cT,cZ,cD,cO]
 refine zE ?_
 refine vP (O.loadK rfl rfl mM (by exact n0Z _) (by exact a0b _ _)) ?_
 refine vq ?_
 refine vf ?_
 simp only[a0g,cN,cA,cP]
 refine AO.store (i:=2) rfl rfl rfl rfl rfl rfl (by exact d0x _ _) (by exact a0b _ _) (by exact Nat.ble_eq_true_of_le (Nat.le_of_eq (a0b _ _).symm)) (by exact b0C rfl) (by(dsimp only[List.set,cA,cN,List.take,List.drop];done)) (zH (zn (y3 ?_)))
 rw[hn]
 refine AQ.ret2G rfl (ResAt.tmp rfl) (ResAt.cell (ys:=arB 16 (e0F w nonce tg)) rfl mM (List.take_of_length_le (Nat.le_of_eq (a0b _ _))) (a0b _ _)) ⟨_,List.Sublist.cons _ (List.Sublist.cons_cons _ (List.nil_sublist _)),.refl _⟩ ⟨V,hV,rfl,rfl⟩
end Go.Proofs.YtojomcdjcpmnkaaGreat.By
namespace Go.Proofs.YtojomcdjcpmnkaaGreat.By
open Go.RowKit L A
attribute [local irreducible] AW AQ AO
attribute [local simp] a0b
abbrev wK (key:List UInt8):Nat→UInt8:=wS (kf key)
def d0p (aad plain:List UInt8):Bool:=decide ((aad.length:Int)≤4096)&&decide ((plain.length:Int)≤4096)
def f0l (key nonce aad plain:List UInt8)(tag:Int):List UInt8:=
 if cvB key nonce tag&&d0p aad plain then fnB plain.length (e0N (wK key) nonce plain)++fnB tag.toNat (e0F (wK key) nonce (l0k (wK key) nonce aad plain tag))else []
def d0G (key nonce aad plain:List UInt8)(tag:Int):Int:=
 if cvB key nonce tag then(if d0p aad plain then 0 else 8)else 1
theorem o0x {key nonce aad plain:List UInt8}{tag:Int}(h:cvB key nonce tag=false):f0l key nonce aad plain tag= []∧d0G key nonce aad plain tag=1:=by
 simp[f0l,d0G,h]
theorem m0l {key nonce aad plain:List UInt8}{tag:Int}(h:cvB key nonce tag=true)(h2:d0p aad plain=false):f0l key nonce aad plain tag= []∧d0G key nonce aad plain tag=8:=by
 simp[f0l,d0G,h,h2]
theorem h0H {key nonce aad plain:List UInt8}{tag:Int}(h:cvB key nonce tag=true)(h2:d0p aad plain=true):f0l key nonce aad plain tag=fnB plain.length (e0N (wK key) nonce plain)++fnB tag.toNat (e0F (wK key) nonce (l0k (wK key) nonce aad plain tag))∧d0G key nonce aad plain tag=0:=by
 simp[f0l,d0G,h,h2]
theorem s0F {T:Nat}(h:T≤16)(f:Nat→UInt8):((arB 16 f).drop (0+0*1)).take ((T-0)*1)=arB T f:=by
 rw[show(T-0)*1=T by omega]
 have:=g0P (n:=16) (f:=f) (j:=0+0*1) (k:=T) (by omega)
 rw[this]
 exact a0d fun q _=>by rw[show 0+0*1+q=q by omega]
theorem o0J (n T:Nat)(f g:Nat→UInt8):AV.ro false (n+(T-0)) (arB n f++arB T g)=roB (fnB n f++fnB T g):=by
 unfold roB
 rw[cH,a0D,a0D,Nat.sub_zero]
 show _=AV.ro false (n+T) (a0a (fnB n f++fnB T g))
 rw[a0a,List.map_append];rfl
theorem n0T {first:UInt8}{nonce:List UInt8}{n:Int}{q:Nat}(hq:nonce.length<q)(h8:7<15-(q:Int))(hn:0≤n∧n≤9223372036854775807):(0:UInt8)=b0Z first nonce n q:=by
 rw[b0Z,if_neg (by omega),if_neg (by omega)]
 have h1:(256:Int)^8≤256^ (15-q):=by
  obtain⟨d,hd⟩: ∃d,15-q=8+d:=⟨15-q-8,by omega⟩
  rw[hd,Int.pow_add]
  have:(1:Int)≤256^d:=Int.pow_pos (by decide)
  have h2:(0:Int)≤256^8:=by decide
  calc (256:Int)^8=256^8*1:=(Int.mul_one _).symm
   _≤256^8*256^d:=Int.mul_le_mul_of_nonneg_left this h2
 have h3:n<256^ (15-q):=by
  have:(9223372036854775807:Int)<256^8:=by decide
  omega
 rw[Int.ediv_eq_zero_of_lt hn.1 h3];rfl
theorem n0S {first:UInt8}{nonce:List UInt8}{n:Int}{q:Nat}(hq:nonce.length<q)(hq2:q≤15)(h8:15-(q:Int)≤7):u8 (n.fdiv (2^min (8*(15-(q:Int))).toNat IntKind.i64.bits))=b0Z first nonce n q:=by
 rw[b0Z,if_neg (by omega),if_neg (by omega)]
 have e: ∃i:Nat,i≤7∧15-q=i∧15-(q:Int)=i:=⟨15-q,by omega,rfl,by omega⟩
 obtain⟨i,hi,e1,e2⟩:=e
 rw[e1,e2]
 have e3:min (8*(i:Int)).toNat IntKind.i64.bits=8*i:=by
  show min (8*(i:Int)).toNat 64=_
  omega
 rw[e3,Int.fdiv_eq_ediv_of_nonneg _ (Int.le_of_lt (Int.pow_pos (by decide))),Int.pow_mul];rfl
theorem l0w (first:Int)(nonce:List UInt8)(n:Int)(hn13:nonce.length≤13)(hn:0≤n∧n≤9223372036854775807):Sp Tryz.prog 187 [.val (.int .i64 first),roB nonce,.val (.int .i64 n)] [] (Is (roB (fnB 16 (b0Z (u8 first) nonce n)))):=by
 refine yH Tryz.func187 _ Tryz.ntmps187 (fun w0 R0=> ?_)
 refine zC (zq ?_)
 refine zc (zH (zn (zC (zq ?_))))
 refine zb ?_
 refine y4 ?_
 refine zU ?_
 intro B1
 refine AO.g ?_
 refine xK B1 1 1 0 rfl rfl rfl (Nat.le_refl _) ?_
 refine AO.u ?_
 dsimp only[List.set]
 refine zb ?_
 refine xw 0 ?_
 intro V2 hV2
 refine zc (zH (zn (zC (zC (zq ?_)))))
 refine zb ?_
 refine zZ ?_
 refine yG ?_
 refine zc (zH (zn (xb ?_)))
 obtain⟨L,hL⟩: ∃L,L=nonce.length:=⟨_,rfl⟩
 rw[←hL]at hn13
 have e0:AV.val (.int .u8 ((u8 first).toNat:Int))::a0a nonce=arB (1+L) (b0Z (u8 first) nonce n):=by
  rw[hL,e0E]
  show arB 1 (fun _=>u8 first)++arB nonce.length (kf nonce)=_
  rw[j0y]
  exact a0d fun q hq=>by
   by_cases h:q<1
   ·rw[if_pos h,b0Z,if_pos (by omega)]
   rw[if_neg h,b0Z,if_neg (by omega),if_pos (by omega)]
 have ez:nonce.length=L:=hL.symm
 have ey:14-(L:Int)=15-((1+L:Nat):Int):=by omega
 rw[ez,e0,ey]
 refine zh [(2,_)] (fun nn E H=> ∃(q:Nat) (V:Value),(1+L≤q∧q≤16)∧(V.oneCell'=true)∧nn=16-q∧E= [(7,.val V),(8,.val (.int .i64 (15-(q:Int))))]∧H= [.row V 5 1 q (arB q (b0Z (u8 first) nonce n))]) _ (⟨1+L,V2,by omega,hV2,rfl,rfl,rfl⟩) ?_
 rintro nn E H ⟨q,V,hq,hV,rfl,rfl,rfl⟩
 dsimp only[cA,cN]
 have ex:15-(q:Int)-1=15-((q+1:Nat):Int):=by omega
 refine zC (zC (zq ?_))
 refine zb ?_
 refine xR (zH (zn ?_))
 refine ym (fun h=> ?_) (fun h=> ?_)<;>(try simp only[vU]at h)
 ·have hq':q<16:=by omega
  refine yU (zn (zC (xb (zC (zC (zq ?_))))))
  refine zb ?_
  refine yN (zH (zn ?_))
  refine ym (fun h2=> ?_) (fun h2=> ?_)<;>(try simp only[vU]at h2)
  ·refine zC (zq ?_)
   refine zb ?_
   refine zU ?_
   intro B3
   refine AO.g ?_
   refine yr 0 24 ?_
   refine wH 24 ?_
   refine AO.u ?_
   dsimp only[List.eraseIdx]
   refine yk 0 ?_
   intro V4 hV4
   refine zc (zH (zn ?_))
   refine wm ?_
   refine xY ?_
   refine xq (zn (zq ?_))
   refine zb ?_
   refine yG ?_
   refine zc (zH ?_)
   rw[show arB q (b0Z (u8 first) nonce n)++[AV.val (.int .u8 0)]=arB (q+1) (b0Z (u8 first) nonce n)from c0e (n0T (by omega) h2 hn),ex]
   refine zr _ _ _ (by omega) (⟨q+1,V4,by omega,hV4,rfl,rfl,rfl⟩)
  refine yU (zn (zq ?_))
  refine zb ?_
  refine zb ?_
  refine zb ?_
  refine wd ?_
  refine vO (O.mul rfl rfl rfl (by exact o0n (by omega))) ?_
  refine vO (O.shr rfl rfl rfl (by omega) rfl) ?_
  refine y4 ?_
  refine zU ?_
  intro B5
  refine AO.g ?_
  refine yr 0 33 ?_
  refine wH 33 ?_
  refine AO.u ?_
  dsimp only[List.eraseIdx]
  refine yk 0 ?_
  intro V6 hV6
  refine zc (zH (xA (zn (zq ?_))))
  refine zb ?_
  refine yG ?_
  refine zc (zH ?_)
  rw[show arB q (b0Z (u8 first) nonce n)++[AV.val (.int .u8 ((u8 (n.fdiv (2^min (8*(15-(q:Int))).toNat IntKind.i64.bits))).toNat:Int))]=arB (q+1) (b0Z (u8 first) nonce n)from c0e (n0S (by omega) (by omega) h2),ex]
  refine zr _ _ _ (by omega) (⟨q+1,V6,by omega,hV6,rfl,rfl,rfl⟩)
 obtain rfl:q=16:=by omega
 refine wm ?_
 refine xY ?_
 refine wa ?_
 refine xq (zn (zC (zq ?_)))
 refine zb ?_
 refine zc (zH (zn (y3 ?_)))
 refine AQ.g ?_
 refine yj 0 [6] ?_
 refine AQ.u ?_
 try dsimp only[List.map,List.eraseIdx,cA,cN]
 refine AQ.g ?_
 refine G.re 6 (roB (fnB 16 (b0Z (u8 first) nonce n))) (congrArg some (b0D _ _).symm) ?_
 refine AQ.u ?_
 refine yw
theorem j0o (first:Int)(nonce:List UInt8)(n:Int)(hn13:nonce.length≤13)(hn:0≤n∧n≤9223372036854775807):Sp Tryz.prog 187 [.val (.int .i64 first),roB nonce,.val (.int .i64 n)] [] (b0e 5 1 16 (arB 16 (b0Z (u8 first) nonce n))):=by
 refine yH Tryz.func187 _ Tryz.ntmps187 (fun w0 R0=> ?_)
 refine zC (zq ?_)
 refine zc (zH (zn (zC (zq ?_))))
 refine zb ?_
 refine y4 ?_
 refine zU ?_
 intro B1
 refine AO.g ?_
 refine xK B1 1 1 0 rfl rfl rfl (Nat.le_refl _) ?_
 refine AO.u ?_
 dsimp only[List.set]
 refine zb ?_
 refine xw 0 ?_
 intro V2 hV2
 refine zc (zH (zn (zC (zC (zq ?_)))))
 refine zb ?_
 refine zZ ?_
 refine yG ?_
 refine zc (zH (zn (xb ?_)))
 obtain⟨L,hL⟩: ∃L,L=nonce.length:=⟨_,rfl⟩
 rw[←hL]at hn13
 have e0:AV.val (.int .u8 ((u8 first).toNat:Int))::a0a nonce=arB (1+L) (b0Z (u8 first) nonce n):=by
  rw[hL,e0E]
  show arB 1 (fun _=>u8 first)++arB nonce.length (kf nonce)=_
  rw[j0y]
  exact a0d fun q hq=>by
   by_cases h:q<1
   ·rw[if_pos h,b0Z,if_pos (by omega)]
   rw[if_neg h,b0Z,if_neg (by omega),if_pos (by omega)]
 have ez:nonce.length=L:=hL.symm
 have ey:14-(L:Int)=15-((1+L:Nat):Int):=by omega
 rw[ez,e0,ey]
 refine zh [(2,_)] (fun nn E H=> ∃(q:Nat) (V:Value),(1+L≤q∧q≤16)∧(V.oneCell'=true)∧nn=16-q∧E= [(7,.val V),(8,.val (.int .i64 (15-(q:Int))))]∧H= [.row V 5 1 q (arB q (b0Z (u8 first) nonce n))]) _ (⟨1+L,V2,by omega,hV2,rfl,rfl,rfl⟩) ?_
 rintro nn E H ⟨q,V,hq,hV,rfl,rfl,rfl⟩
 dsimp only[cA,cN]
 have ex:15-(q:Int)-1=15-((q+1:Nat):Int):=by omega
 refine zC (zC (zq ?_))
 refine zb ?_
 refine xR (zH (zn ?_))
 refine ym (fun h=> ?_) (fun h=> ?_)<;>(try simp only[vU]at h)
 ·have hq':q<16:=by omega
  refine yU (zn (zC (xb (zC (zC (zq ?_))))))
  refine zb ?_
  refine yN (zH (zn ?_))
  refine ym (fun h2=> ?_) (fun h2=> ?_)<;>(try simp only[vU]at h2)
  ·refine zC (zq ?_)
   refine zb ?_
   refine zU ?_
   intro B3
   refine AO.g ?_
   refine yr 0 24 ?_
   refine wH 24 ?_
   refine AO.u ?_
   dsimp only[List.eraseIdx]
   refine yk 0 ?_
   intro V4 hV4
   refine zc (zH (zn ?_))
   refine wm ?_
   refine xY ?_
   refine xq (zn (zq ?_))
   refine zb ?_
   refine yG ?_
   refine zc (zH ?_)
   rw[show arB q (b0Z (u8 first) nonce n)++[AV.val (.int .u8 0)]=arB (q+1) (b0Z (u8 first) nonce n)from c0e (n0T (by omega) h2 hn),ex]
   refine zr _ _ _ (by omega) (⟨q+1,V4,by omega,hV4,rfl,rfl,rfl⟩)
  refine yU (zn (zq ?_))
  refine zb ?_
  refine zb ?_
  refine zb ?_
  refine wd ?_
  refine vO (O.mul rfl rfl rfl (by exact o0n (by omega))) ?_
  refine vO (O.shr rfl rfl rfl (by omega) rfl) ?_
  refine y4 ?_
  refine zU ?_
  intro B5
  refine AO.g ?_
  refine yr 0 33 ?_
  refine wH 33 ?_
  refine AO.u ?_
  dsimp only[List.eraseIdx]
  refine yk 0 ?_
  intro V6 hV6
  refine zc (zH (xA (zn (zq ?_))))
  refine zb ?_
  refine yG ?_
  refine zc (zH ?_)
  rw[show arB q (b0Z (u8 first) nonce n)++[AV.val (.int .u8 ((u8 (n.fdiv (2^min (8*(15-(q:Int))).toNat IntKind.i64.bits))).toNat:Int))]=arB (q+1) (b0Z (u8 first) nonce n)from c0e (n0S (by omega) (by omega) h2),ex]
  refine zr _ _ _ (by omega) (⟨q+1,V6,by omega,hV6,rfl,rfl,rfl⟩)
 obtain rfl:q=16:=by omega
 refine wm ?_
 refine xY ?_
 refine wa ?_
 refine xq (zn (zC (zq ?_)))
 refine zb ?_
 refine zc (zH (zn (y3 ?_)))
 refine vm rfl rfl ⟨_,by repeat(first|exact List.Sublist.slnil|refine List.Sublist.cons_cons _ ?_),List.Perm.refl _⟩ (⟨_,rfl,hV,rfl⟩)
def d0z (n:Nat):Nat:=(n+15)/16*16
theorem h0X (b:List UInt8)(hl:b.length≤1000000):Sp Tryz.prog 188 [roB b] [] (Is (roB (fnB (d0z b.length) (kf b)))):=by
 refine yH Tryz.func188 _ Tryz.ntmps188 (fun w0 R0=> ?_)
 refine zC (zq ?_)
 refine zc (zH (zn (zC (zq ?_))))
 refine zb ?_
 refine yA ?_
 intro V1 hV1
 refine zc (zH (zn (zC (xb ?_))))
 rw[e0E]
 refine AW.loopK [] (fun nn E H=> ∃(m:Nat) (V:Value),(b.length≤m∧m≤d0z b.length)∧(V.oneCell'=true)∧nn=d0z b.length-m∧E= [(3,.val V)]∧H= [.row V 5 1 m (arB m (kf b))]) _ (⟨b.length,V1,⟨Nat.le_refl _,by unfold d0z;omega⟩,hV1,rfl,rfl,rfl⟩) (by repeat(exact a0m)) (by repeat(first|exact a0m|refine a0k rfl ?_)) (by repeat(first|exact a0B|refine a0x 0 rfl ?_)) ?_
 rintro nn E H ⟨m,V,hm,hV,rfl,rfl,rfl⟩
 dsimp only[cA,cN]
 have hpn:d0z b.length=(b.length+15)/16*16:=rfl
 refine zC (zC (zq ?_))
 refine zb ?_
 refine wj ?_
 refine ww ?_
 refine y8 (zH (zn ?_))
 refine ym (fun h=> ?_) (fun h=> ?_)<;>(try simp only[vU]at h)
 ·have hm':m<d0z b.length:=by omega
  refine yU (zn (xb (zq ?_)))
  refine zb ?_
  refine zU ?_
  intro B2
  refine AO.g ?_
  refine yr 0 11 ?_
  refine wH 11 ?_
  refine AO.u ?_
  dsimp only[List.eraseIdx]
  refine yk 0 ?_
  intro V3 hV3
  refine zc (zH (xA ?_))
  rw[show arB m (kf b)++[AV.val (.int .u8 0)]=arB (m+1) (kf b)from c0e (h0m b hm.1).symm]
  refine AQ.loopKN _ _ _ (by omega) (⟨m+1,V3,by omega,hV3,rfl,rfl,rfl⟩) (by repeat(exact a0m)) (by repeat(first|exact a0m|refine a0k rfl ?_)) (by repeat(first|exact a0B|refine a0x 0 rfl ?_))
 have hm':m=d0z b.length:=by omega
 subst hm'
 refine wm ?_
 refine xY ?_
 refine wa ?_
 refine xq (zn (zC (zq ?_)))
 refine zb ?_
 refine zc (zH (zn (y3 ?_)))
 refine AQ.g ?_
 refine yj 0 [2] ?_
 refine AQ.u ?_
 try dsimp only[List.map,List.eraseIdx,cA,cN]
 refine AQ.g ?_
 refine G.re 2 (roB (fnB (d0z b.length) (kf b))) (congrArg some (b0D _ _).symm) ?_
 refine AQ.u ?_
 refine yw
end Go.Proofs.YtojomcdjcpmnkaaGreat.By
namespace Go.Proofs.YtojomcdjcpmnkaaGreat.By
open Go.RowKit L A
attribute [local irreducible] AW AQ AO
abbrev q0S (w f:Nat→UInt8):AV→List HE→Prop:=fun r Hn=> ∃V:Value,V.oneCell'=true∧r= .tup [.val V,.val (.int .i64 0)]∧Hn= [.row V 5 1 16 (arB 16 (enc w f))]
theorem i0q (w f:Nat→UInt8):o0h (q0S w f):=by
 rintro r Hn ⟨V,_,rfl,rfl⟩
 refine⟨fun R R' W u h=>h.plainT (fun x hx=> ?_),fun e he R R' W h=> ?_⟩
 ·simp only[List.mem_cons,List.not_mem_nil,or_false]at hx
  rcases hx with rfl|rfl<;>exact⟨_,rfl⟩
 obtain rfl:e=_:=List.mem_singleton.1 he
 exact HE.plainRow (j0F _ _) h
theorem o0N (key:List UInt8)(f:Nat→UInt8)(hk:key.length=16):Sp Tryz.prog 186 [roB key,.ro false 16 (arB 16 f)] [] (q0S (wS (kf key)) f):=by
 refine yH Tryz.func186 _ Tryz.ntmps186 (fun w0 R0=> ?_)
 refine zC (zq ?_)
 refine zc ?_
 refine zc (zH (zn (zC (zC (zq ?_)))))
 refine zb ?_
 refine zZ ?_
 refine vO (O.neq rfl rfl rfl (by exact bne_eq_false_iff_eq.2 (by omega))) ?_
 refine zb ?_
 refine yl ?_
 refine yg 17 ?_
 refine AO.opG rfl rfl rfl (fun hp=>wP 18 rfl (by exact hp) (O.neq rfl rfl rfl (by exact bne_eq_false_iff_eq.2 (by omega)))) ?_
 refine zG (zH (zn ?_))
 refine ym (fun h=> ?_) (fun h=> ?_)<;>(try simp only[vU]at h)
 ·exact absurd h (by simp[hk])
 refine AW.g ?_
 refine G.re 0 (.ro false 16 (arB 16 (kf key))) (congrArg some (j0V hk)) ?_
 refine AW.u ?_
 obtain⟨w,hwd⟩: ∃w,w=wS (kf key):=⟨_,rfl⟩
 have hs0:(arB 176 (wS (kf key))).take (16*1)=arB 16 (fun q=>w (0*16+q)):=by
  have:=g0P (n:=176) (f:=w) (j:=0) (k:=16) (by omega)
  rw[hwd]at this⊢
  simpa using this
 have hseg: ∀r,r<11→((arB 176 w).drop (16*r*1)).take (16*1)=arB 16 fun q=>w (r*16+q):=fun r hr=>by
  rw[show 16*r*1=r*16 by omega];exact g0P (by omega)
 refine yU (zn (zC (zq ?_)))
 refine vO (xD rfl Tryz.func199 rfl rfl rfl j0O) ?_
 refine wA ?_
 intro B1
 refine yh 0 (zH (zn (zC (zq ?_))))
 refine zb ?_
 refine xu ?_
 refine vO (xD rfl Tryz.func200 rfl rfl rfl (h0J _)) ?_
 refine zc (zH (zn (zC ?_)))
 refine yo 7 ?_
 simp only[cT,cZ,cD,cO]
 refine zE ?_
 refine vP (O.toArr rfl rfl (by omega) (by omega)) ?_
 refine vP (O.loadRK rfl rfl (by exact List.take_of_length_le (Nat.le_of_eq (a0b _ _))) (by exact a0b _ _)) ?_
 refine zE ?_
 refine vP (O.sliceTo (k:=16) rfl rfl rfl (by rfl) (by omega) (by exact hs0)) ?_
 refine vP (xD rfl Tryz.func201 rfl rfl rfl (e0d _ _)) ?_
 refine yS ?_
 refine vf ?_
 simp only[a0g,cN,cA,cP]
 rintro _ _ ⟨B2,rfl,rfl⟩
 simp only[cA,cN]
 refine xk 0 (zH (zn (zC (zC (zq ?_)))))
 refine zc (zH (zn (xb ?_)))
 rw[←hwd]
 refine zh [(6,_),(7,_),(8,_)] (fun nn E H=> ∃(j:Nat),(j≤10)∧nn=10-j∧E= [(9,.val (.int .i64 ((j+1:Nat):Int)))]∧H= [a0y B2 (d0u w f j),.blk B1 181 256 (arB 256 RB)]) _ (⟨0,by omega,rfl,rfl,rfl⟩) ?_
 rintro nn E H ⟨j,hj,rfl,rfl,rfl⟩
 dsimp only[cA,cN]
 refine zC (zC (zq ?_))
 refine zb ?_
 refine vL (zH (zn ?_))
 refine ym (fun hj1=> ?_) (fun hj1=> ?_)<;>(try simp only[vU]at hj1)
 ·obtain⟨g,hg⟩: ∃g,g=d0u w f j:=⟨_,rfl⟩
  have hst: ∀q,d0u w f (j+1) q=(if j+1<10 then g0b (shF sb 1 g) g0f else shF sb 1 g) q^^^w ((j+1)*16+q):=fun q=>by rw[d0u,hg]
  rw[←hg]
  refine yU (zn (zC (xb (zC (zq ?_)))))
  refine zd ?_
  intro B3
  refine zH (zn (zC (zC (zq ?_))))
  refine zb (zH (zn (xb ?_)))
  have e0:a0y B3 (fun _=>0)=a0y B3 (fun q=>if q<4*0+0 then shF sb 1 g q else 0):=b0m fun q _=>(if_neg (by omega)).symm
  refine zh [(6,_),(7,_),(8,_),(9,_),(10,_)] (fun nn E H=> ∃(c:Nat),(c≤4)∧nn=4-c∧E= [(35,.val (.int .i64 (c:Int)))]∧H= [a0y B3 (fun q=>if q<4*c+0 then shF sb 1 g q else 0),a0y B2 g,.blk B1 181 256 (arB 256 RB)]) _ (⟨0,by omega,rfl,rfl,congrArg (fun x=> [x,a0y B2 g,.blk B1 181 256 (arB 256 RB)]) e0⟩) ?_
  rintro nn E H ⟨c,hc,rfl,rfl,rfl⟩
  dsimp only[cA,cN]
  refine zC (zq ?_)
  refine zR (zH (zn (zC ?_)))
  refine ym (fun hc4=> ?_) (fun hc4=> ?_)<;>(try simp only[vU]at hc4)
  ·refine yU (zn (zC (xb (zC (zq ?_)))))
   refine zb ?_
   refine zc (zH (zn (zC (zq ?_))))
   refine zb (zH (zn (xb ?_)))
   refine zh [(6,_),(7,_),(8,_),(9,_),(10,_),(11,_),(35,_)] (fun nn E H=> ∃(r:Nat),(r≤4)∧nn=4-r∧E= [(38,.val (.int .i64 (r:Int)))]∧H= [a0y B3 (fun q=>if q<4*c+r then shF sb 1 g q else 0),a0y B2 g,.blk B1 181 256 (arB 256 RB)]) _ (⟨0,by omega,rfl,rfl,rfl⟩) ?_
   rintro nn E H ⟨r,hr,rfl,rfl,rfl⟩
   dsimp only[cA,cN]
   refine zC (zq ?_)
   refine zR (zH (zn (zC ?_)))
   refine ym (fun hr4=> ?_) (fun hr4=> ?_)<;>(try simp only[vU]at hr4)
   ·have hr':r<4:=by omega
    have hix:(0+(4*(((c:Int)+(r:Int))%4)+(r:Int)).toNat*1)=r+4*((c+r)%4):=by
     have hi:(4*(((c:Int)+(r:Int))%4)+(r:Int))=((r+4*((c+r)%4):Nat):Int):=by push_cast;omega
     rw[hi,Int.toNat_natCast];omega
    have hgb:(arB 16 g)[0+(4*(((c:Int)+(r:Int))%4)+(r:Int)).toNat*1]? =some (by8 (g (r+4*((c+r)%4)))):=by rw[hix];exact a0p (by omega) rfl
    have hsh:shF sb 1 g (4*c+r)=sb (g (r+4*((c+r)%4))):=by
     rw[shF,show(4*c+r)%4=r by omega,show(4*c+r)/4=c by omega,Nat.one_mul]
    refine yU (zn (zC (xb (zC (zq ?_)))))
    refine zb ?_
    refine zc (zH (zn (zq ?_)))
    refine zb ?_
    refine wL ?_
    refine zb ?_
    refine zx ?_
    refine zb ?_
    refine zb ?_
    refine zx ?_
    refine ww ?_
    refine wL ?_
    refine zb ?_
    refine zx ?_
    refine xO ?_
    refine vO (O.load rfl rfl mM (by exact hgb)) ?_
    refine vO (O.idxL rfl rfl rfl (by exact l0R _)) ?_
    refine vO wT ?_
    refine xO ?_
    refine yF 0 rfl rfl rfl rfl rfl rfl (by rfl) (by rfl) (by exact Nat.ble_eq_true_of_le (by rw[a0b];omega)) (by exact a0K (k:=4*c+r) (by omega) _ (by omega)) (zH (xA (zn (zq ?_))))
    refine zx ?_
    refine zb (zH ?_)
    have e:a0y B3 (fun q=>if q=4*c+r then sb (g (r+4*((c+r)%4)))else if q<4*c+r then shF sb 1 g q else 0)=a0y B3 (fun q=>if q<4*c+(r+1)then shF sb 1 g q else 0):=b0m fun q _=>by
     rw[←hsh]
     rcases Nat.lt_trichotomy q (4*c+r)with h1|h1|h1
     ·rw[if_neg (by omega),if_pos h1,if_pos (by omega)]
     ·rw[if_pos h1,if_pos (by omega),h1]
     rw[if_neg (by omega),if_neg (by omega),if_neg (by omega)]
    refine zr _ _ _ (by omega) (⟨r+1,by omega,rfl,rfl,congrArg (fun x=> [x,a0y B2 g,.blk B1 181 256 (arB 256 RB)]) e⟩)
   obtain rfl:r=4:=by omega
   refine wm ?_
   refine xY ?_
   refine wa ?_
   refine xq (xA (zn (zq ?_)))
   refine zx ?_
   refine zb (zH ?_)
   refine zr _ _ _ (by omega) (⟨c+1,by omega,rfl,rfl,rfl⟩)
  obtain rfl:c=4:=by omega
  have e:a0y B3 (fun q=>if q<4*4+0 then shF sb 1 g q else 0)=a0y B3 (shF sb 1 g):=b0m fun q hq=>if_pos hq
  rw[e]
  refine wm ?_
  refine xY ?_
  refine wa ?_
  refine xq (zn (zC (zC (zq ?_))))
  refine zb ?_
  refine zR (zH (zn ?_))
  refine ym (fun h10=> ?_) (fun h10=> ?_)<;>(try simp only[vU]at h10)
  ·refine zq ?_
   refine xu ?_
   refine zM ?_
   refine vO (xD rfl Tryz.func202 rfl rfl rfl (m0t _ g0f)) ?_
   refine yh 0 (zH (zn ?_))
   refine yo 9 ?_
   simp only[cT,cZ,cD,cO]
   refine vD ?_
   refine zE ?_
   refine zE ?_
   refine xi ?_
   refine zE ?_
   refine xi ?_
   refine xa ?_
   refine vP (O.sliceLHm (m:=16) rfl rfl rfl rfl (l:=16*(j+1)) (h:=16*(j+1)+16) (by omega) (by omega) (by omega) (by omega) (by omega) (by exact hseg (j+1) (by omega))) ?_
   refine vP (xD rfl Tryz.func201 rfl rfl rfl (e0d _ _)) ?_
   refine vf ?_
   simp only[a0g,cN,cA,cP]
   refine yh 1 (zH (xA (zn (zq ?_))))
   refine zb ?_
   refine zx ?_
   refine zc (zH ?_)
   have e2:a0y B2 (fun q=>g0b (shF sb 1 g) g0f q^^^w ((j+1)*16+q))=a0y B2 (d0u w f (j+1)):=b0m fun q _=>by rw[hst,if_pos (by omega)]
   refine zJ _ _ _ (by omega) (⟨j+1,by omega,rfl,rfl,congrArg (fun x=> [x,.blk B1 181 256 (arB 256 RB)]) e2⟩)
  refine yU (zn ?_)
  refine yo 9 ?_
  simp only[cT,cZ,cD,cO]
  refine vD ?_
  refine zE ?_
  refine zE ?_
  refine xi ?_
  refine zE ?_
  refine xi ?_
  refine xa ?_
  refine vP (O.sliceLHm (m:=16) rfl rfl rfl rfl (l:=16*(j+1)) (h:=16*(j+1)+16) (by omega) (by omega) (by omega) (by omega) (by omega) (by exact hseg (j+1) (by omega))) ?_
  refine vP (xD rfl Tryz.func201 rfl rfl rfl (e0d _ _)) ?_
  refine vf ?_
  simp only[a0g,cN,cA,cP]
  refine yh 1 (zH (xA (zn (zq ?_))))
  refine zb ?_
  refine zx ?_
  refine zc (zH ?_)
  have e2:a0y B2 (fun q=>shF sb 1 g q^^^w ((j+1)*16+q))=a0y B2 (d0u w f (j+1)):=b0m fun q _=>by rw[hst,if_neg (by omega)]
  refine zJ _ _ _ (by omega) (⟨j+1,by omega,rfl,rfl,congrArg (fun x=> [x,.blk B1 181 256 (arB 256 RB)]) e2⟩)
 obtain rfl:j=10:=by omega
 refine wm ?_
 refine xY ?_
 refine wa ?_
 refine xq (zn (zC (zq ?_)))
 refine vO (O.sliceArrK (p:=0) rfl rfl rfl rfl (by rfl) (by rfl) ⟨by omega,by omega⟩ (by omega)) ?_
 refine vS (O.appendNil rfl (by rfl) (by rfl) rfl rfl (by exact SrcA.blk TyD.ax (by repeat(exact List.Mem.head _)) (by(dsimp only[List.set,cA,cN,List.take,List.drop];done)) (by rfl)) (by rfl) (by(unfold maxLen;omega)) (by omega)) ?_
 intro V4 hV4
 refine zc ?_
 refine zc (zH (zn (y3 ?_)))
 have em:List.take ((16-0)*1) (arB 16 (d0u w f 10))=arB 16 (enc w f):=by
  show List.take 16 (arB 16 (d0u w f 10))=_
  rw[List.take_of_length_le (Nat.le_of_eq (a0b _ _))];rfl
 rw[em]
 refine AQ.ret2G rfl (ResAt.tmp rfl) (ResAt.tmp rfl) ⟨_,List.Sublist.cons_cons _ (List.nil_sublist _),.refl _⟩ ⟨V4,hV4,rfl,rfl⟩
attribute [local simp] a0b
theorem c0T {w:Nat→UInt8}: ∀(n:Nat) (l:List UInt8) (x y:Nat→UInt8),l.length≤n→(∀q,q<16→x q=y q)→ ∀q,q<16→absorb w x l q=absorb w y l q
 |0,l,x,y,hl,h,q,hq=>by
  obtain rfl:l= []:=List.eq_nil_of_length_eq_zero (by omega)
  rw[b0k,b0k];exact h q hq
 |n+1,l,x,y,hl,h,q,hq=>by
  by_cases e:l= []
  ·subst e;rw[b0k,b0k];exact h q hq
  rw[b0h e,b0h e]
  have h0:0<l.length:=List.length_pos_iff.2 e
  exact c0T n _ _ _ (by rw[List.length_drop];omega) (f0J fun q hq=>by rw[h q hq]) q hq
theorem e0u {w:Nat→UInt8}: ∀(n:Nat) (A B:List UInt8) (x:Nat→UInt8),A.length≤n→A.length%16=0→ ∀q,q<16→absorb w x (A++B) q=absorb w (absorb w x A) B q
 |0,A,B,x,hl,h,q,hq=>by
  obtain rfl:A= []:=List.eq_nil_of_length_eq_zero (by omega)
  rw[b0k,cN]
 | n+1,A,B,x,hl,h,q,hq=>by
  by_cases e:A= []
  ·subst e;rw[b0k,cN]
  have h0:0<A.length:=List.length_pos_iff.2 e
  rw[b0h e,b0h (by simp[e]),List.drop_append_of_le_length (by omega)]
  rw[c0T _ _ _ (enc w fun q=>x q^^^kf A q) (Nat.le_refl _) (f0J fun q hq=>by
   have:kf (A++B) q=kf A q:=by simp only[kf,List.getD_eq_getElem?_getD];rw[List.getElem?_append_left (by omega)]
   rw[this]) q hq]
  exact e0u n _ B _ (by rw[List.length_drop];omega) (by rw[List.length_drop];omega) q hq
theorem t0M (l:List UInt8)(N:Nat)(h:l.length≤N):kf (fnB N (kf l))=kf l:=by
 funext q
 by_cases e:q<N
 ·exact i0i e
 rw[h0m _ (by rw[a0D];omega),h0m _ (by omega)]
theorem r0S (n:Nat):n≤d0z n:=by unfold d0z;omega
theorem e0t {w:Nat→UInt8}: ∀(n:Nat) (l:List UInt8) (x:Nat→UInt8),l.length≤n→absorb w x (fnB (d0z l.length) (kf l))=absorb w x l
 |0,l,x,hl=>by
  obtain rfl:l= []:=List.eq_nil_of_length_eq_zero (by omega)
  rfl
 | n+1,l,x,hl=>by
  by_cases e:l= []
  ·subst e;rfl
  have h0:0<l.length:=List.length_pos_iff.2 e
  have h1:=r0S l.length
  have e2:fnB (d0z l.length) (kf l)≠ []:=fun h=>by
   have:=congrArg List.length h
   rw[a0D]at this;simp at this;omega
  have e3:(fnB (d0z l.length) (kf l)).drop 16=fnB (d0z (l.drop 16).length) (kf (l.drop 16)):=by
   have hp:d0z (l.drop 16).length=d0z l.length-16:=by rw[List.length_drop];unfold d0z;omega
   rw[hp]
   apply List.ext_getElem
   ·rw[List.length_drop,a0D,a0D]
   intro q h2 h3
   rw[List.getElem_drop]
   rw[a0D]at h3
   have g: ∀(N:Nat) (f:Nat→UInt8) (q:Nat) (h:q<(fnB N f).length),(fnB N f)[q]=f q:=fun N f q h=>by simp[fnB]
   rw[g,g]
   simp[kf,List.getElem?_drop]
  rw[b0h e2,b0h e,t0M _ _ h1,e3]
  exact e0t n _ _ (by rw[List.length_drop];omega)
def i0g (aad:List UInt8):List UInt8:=if aad= []then []else fnB (d0z (d0l aad).length) (kf (d0l aad))
def p0p (nonce aad plain:List UInt8)(tag:Int):List UInt8:=fnB 16 (b0Z (k0r aad nonce tag) nonce plain.length)++i0g aad++fnB (d0z plain.length) (kf plain)
theorem k0b (n:Nat):d0z n%16=0:=by unfold d0z;omega
theorem k0m (aad:List UInt8):(i0g aad).length%16=0:=by
 unfold i0g;split
 ·rfl
 rw[a0D];exact k0b _
theorem p0o {w:Nat→UInt8}(nonce aad plain:List UInt8)(tag:Int): ∀q,q<16→absorb w (fun _=>0) (p0p nonce aad plain tag) q=l0k w nonce aad plain tag q:=fun q hq=>by
 rw[p0p,e0u _ _ _ _ (Nat.le_refl _) (by rw[cH,a0D];have:=k0m aad;omega) q hq,e0t _ _ _ (Nat.le_refl _),l0k]
 refine c0T _ _ _ _ (Nat.le_refl _) (fun q hq=> ?_) q hq
 rw[e0u _ _ _ _ (Nat.le_refl _) (by rw[a0D]) q hq]
 by_cases e:aad= []
 ·rw[if_pos e,i0g,if_pos e,b0k]
 rw[if_neg e,i0g,if_neg e,e0t _ _ _ (Nat.le_refl _)]
theorem p0n (nonce aad plain:List UInt8)(tag:Int):(p0p nonce aad plain tag).length=16+(i0g aad).length+d0z plain.length:=by
 rw[p0p,cH,cH,a0D,a0D]
theorem t0K (key nonce aad plain:List UInt8)(tag:Int)(hk:key.length=16)(hn13:nonce.length≤13)(ht:4≤tag∧tag≤16)(ha:aad.length≤10000)(hp:plain.length≤10000):Sp Tryz.prog 171 [roB key,roB nonce,roB aad,roB plain,.val (.int .i64 tag)] [] (Is (roB (fnB 16 (l0k (wS (kf key)) nonce aad plain tag)))):=by
 refine yH Tryz.func171 _ Tryz.ntmps171 (fun w0 R0=> ?_)
 refine zC (zq ?_)
 refine zc (zH (zn (zC (zq ?_))))
 refine zb ?_
 refine wQ ?_
 refine yG ?_
 refine wL ?_
 refine zx ?_
 refine zb ?_
 refine zZ ?_
 refine yG ?_
 refine zc (zH (zn (zC (zq ?_))))
 refine zc (zH (zn (zC (zC (zq ?_)))))
 refine zb ?_
 refine zZ ?_
 refine yN (zH (zn ?_))
 obtain⟨z,hz⟩: ∃z,z=8*(tag/2-1)+14-(nonce.length:Int):=⟨_,rfl⟩
 have hzb:0≤z∧z≤127∧z+64≤255:=by omega
 rw[←hz]
 refine wh True [(0,_),(1,_),(3,_)] [(11,.val (.int .i64 (z+if aad= []then 0 else 64))),(12,roB (i0g aad))] [] (fun h26=> ?_) (fun h26=> ?_) (fun hj=> ?_)<;>try(try simp only[vU]at h26)
 ·have hne:aad≠ []:=fun e=>by rw[e]at h26;simp at h26
  have hpl:=h0X (d0l aad) (by simp only[d0l,cL];omega)
  have em:fnB (d0z (d0l aad).length) (kf (d0l aad))=i0g aad:=by rw[i0g,if_neg hne]
  have er:roB (d0l aad)=AV.ro false (2+aad.length) (AV.val (.int .u8 ((u8 ((aad.length:Int)/256)).toNat:Int))::AV.val (.int .u8 ((u8 (aad.length:Int)).toNat:Int))::a0a aad):=(b0r (by simp only[d0l,cL];omega) rfl).symm
  rw[em,er]at hpl
  refine zC (zq ?_)
  refine zb ?_
  refine zx ?_
  refine zc (zH (zn (zq ?_)))
  refine zb ?_
  refine zZ ?_
  refine wZ ?_
  refine y4 ?_
  refine zb ?_
  refine zZ ?_
  refine y4 ?_
  refine xH ?_
  intro B1
  refine AO.g ?_
  refine xK B1 2 2 0 rfl rfl rfl (Nat.le_refl _) ?_
  refine AO.u ?_
  dsimp only[List.set]
  refine zb ?_
  refine zF 0 ?_
  intro V2 hV2
  refine AO.g ?_
  refine yL 0 [38] ?_
  refine AO.u ?_
  dsimp only[List.map,List.eraseIdx,cA,cN]
  refine vO (xD rfl Tryz.func188 rfl rfl rfl hpl) ?_
  refine zc (zH ?_)
  have e11:z+64=z+(if aad= []then 0 else 64):=by rw[if_neg hne]
  rw[e11]
  refine AQ.midK0 trivial (by repeat(first|exact a0m|refine a0k rfl ?_)) (by repeat(exact a0B))
 ·have hne:aad= []:=List.eq_nil_of_length_eq_zero (by omega)
  have e11:z+(if aad= []then 0 else 64)=z:=by rw[if_pos hne,Int.add_zero]
  have e12:roB (i0g aad)= .ro false 0 []:=by rw[i0g,if_pos hne];rfl
  rw[e11,e12]
  refine yU ?_
  refine AQ.g ?_
  refine G.nilRo 12 rfl ?_
  refine AQ.u ?_
  refine AQ.midK trivial (by repeat(first|exact a0m|refine a0k rfl ?_)) (by repeat(first|exact a0m|refine a0k rfl ?_)) (by repeat(exact a0B))
 dsimp only[cA,cN]
 refine zn ?_
 have hal:(i0g aad).length≤10020:=by
  unfold i0g;split
  ·simp
  rw[a0D,d0l,cL,cL];unfold d0z;omega
 have hpl:(fnB (d0z plain.length) (kf plain)).length≤10020:=by rw[a0D];unfold d0z;omega
 have hfs:u8 (z+if aad= []then 0 else 64)=k0r aad nonce tag:=by rw[k0r,hz]
 refine zC (zq ?_)
 refine zb ?_
 refine zb ?_
 refine zb ?_
 refine zZ ?_
 refine vS (xD rfl Tryz.func187 rfl rfl rfl (j0o _ nonce _ hn13 ⟨by omega,by omega⟩)) ?_
 intro V3 hV3
 refine zb ?_
 refine zF 0 ?_
 intro V4 hV4
 refine zb ?_
 refine vO (xD rfl Tryz.func188 rfl rfl rfl (h0X plain (by omega))) ?_
 refine AO.append' (i:=0) rfl rfl rfl rfl (by rfl) (by rfl) rfl rfl rfl (by exact SrcA.ro TyD.ax (by(simp;done)) (lB rfl)) (by exact d0x _ _) (by(unfold maxLen;omega)) (by omega) (by(dsimp only[List.set,cA,cN,List.take,List.drop];done)) (fun _=>by(dsimp only[List.set];done)) ?_
 intro V5 hV5
 refine AO.g ?_
 refine yL 0 [49] ?_
 refine AO.u ?_
 dsimp only[List.map,List.eraseIdx,cA,cN]
 refine zc (zH (zn (zC (zq ?_))))
 refine AO.opB (O.makeSlice rfl rfl rfl (by rfl) (by rfl) (by decide) (by decide) (by rfl)) rfl rfl rfl ?_
 intro B6
 refine zc (zH (zn (zC (zC (zq ?_)))))
 refine zc (zH (zn (xb ?_)))
 rw[hfs]
 obtain⟨N,hN⟩: ∃N,N=(p0p nonce aad plain tag).length:=⟨_,rfl⟩
 have hNe:N=16+(i0g aad).length+d0z plain.length:=by rw[hN,p0n]
 have hN16:N%16=0:=by have:=k0m aad;have:=k0b plain.length;omega
 have hNl:N≤100000:=by rw[a0D]at hpl;omega
 have e12:AV.ro false (16+(i0g aad).length+(fnB (d0z plain.length) (kf plain)).length) (arB 16 (b0Z (k0r aad nonce tag) nonce plain.length)++a0a (i0g aad)++a0a (fnB (d0z plain.length) (kf plain)))= .ro false N (arB N (kf (p0p nonce aad plain tag))):=by
  have e:arB 16 (b0Z (k0r aad nonce tag) nonce plain.length)++a0a (i0g aad)++a0a (fnB (d0z plain.length) (kf plain))=a0a (p0p nonce aad plain tag):=by
   simp only[p0p,a0a,List.map_append];rfl
  rw[e,e0E,←hN,a0D,←hNe]
 rw[e12]
 have e13:a0t 16 (.int .u8 0)=arB 16 (fun _=>0):=rfl
 rw[e13]
 refine AW.g ?_
 refine xK B6 16 16 0 rfl (a0b _ _) rfl (Nat.le_refl _) ?_
 refine AW.u ?_
 dsimp only[List.set]
 have hfin:=p0o (w:=wS (kf key)) nonce aad plain tag
 obtain⟨D,hD⟩: ∃D,D=p0p nonce aad plain tag:=⟨_,rfl⟩
 rw[←hD]at hN hfin⊢
 obtain⟨M,hM⟩: ∃M,M=l0k (wS (kf key)) nonce aad plain tag:=⟨_,rfl⟩
 rw[←hM]at hfin⊢
 obtain⟨w,hw⟩: ∃w,w=wS (kf key):=⟨_,rfl⟩
 rw[←hw]at hfin
 refine zh [(0,_),(12,_)] (fun nn E H=> ∃(j:Nat) (V:Value) (x:Nat→UInt8),(16*j≤N)∧(V.oneCell'=true)∧(absorb w x (D.drop (16*j))=absorb w (fun _=>0) D)∧nn=N-16*j∧E= [(13,.val V),(14,.val (.int .i64 ((16*j:Nat):Int)))]∧H= [.row V 5 1 16 (arB 16 x)]) _ (⟨0,_,fun _=>0,by omega,rfl,rfl,rfl,rfl,rfl⟩) ?_
 rintro nn E H ⟨j,V,x,hj,hV,hx,rfl,rfl,rfl⟩
 dsimp only[cA,cN]
 refine zC (zC (zq ?_))
 refine zb ?_
 refine zb ?_
 refine zZ ?_
 refine zR (zH (zn ?_))
 refine ym (fun h=> ?_) (fun h=> ?_)<;>(try simp only[vU]at h)
 ·have hj':16*j+16≤N:=by omega
  refine AW.g ?_
  refine G.openRow 0 rfl (by omega) (fun b' cap hc1 hc2 hxs hVe=> ?_)
  refine AW.u ?_
  subst hVe
  dsimp only[List.set]
  refine yU (zn (zC (xb (zC (zC (zq ?_))))))
  refine zb (zH (zn (xb ?_)))
  have e0:arB 16 x=arB 16 (fun q=>if q<0 then x q^^^kf D (16*j+q)else x q):=a0d fun q _=>(if_neg (by omega)).symm
  rw[e0]
  refine zh [(0,_),(12,_),(13,_),(14,_)] (fun nn E H=> ∃(k:Nat),(k≤16)∧nn=16-k∧E= [(57,.val (.int .i64 (k:Int)))]∧H= [.blk b' 5 (cap*1) (arB 16 (fun q=>if q<k then x q^^^kf D (16*j+q)else x q))]) _ (⟨0,by omega,rfl,rfl,rfl⟩) ?_
  rintro nn E H ⟨k,hk2,rfl,rfl,rfl⟩
  dsimp only[cA,cN]
  refine zC (zq ?_)
  refine zR (zH (zn (zC ?_)))
  refine ym (fun h2=> ?_) (fun h2=> ?_)<;>(try simp only[vU]at h2)
  ·have hk':k<16:=by omega
   refine yU (zn (zC (xb (zC (zq ?_)))))
   refine zb ?_
   refine zc (zH (zn ?_))
   refine yo 12 ?_
   simp only[cT,cZ,cD,cO]
   refine zE ?_
   refine zE ?_
   refine vd ?_
   refine vP (O.load rfl rfl (by repeat(exact List.Mem.head _)) (by exact a0p (k:=k) (by omega) (by omega))) ?_
   refine zE ?_
   refine zE ?_
   refine zE ?_
   refine xa ?_
   refine xd ?_
   refine vP (O.loadR rfl rfl (by exact a0p (k:=16*j+k) (by omega) (by omega))) ?_
   refine wy ?_
   refine vd ?_
   refine vf ?_
   simp only[a0g,cN,cA,cP]
   refine yF 0 rfl rfl rfl rfl rfl rfl (by rfl) (by rfl) (by exact Nat.ble_eq_true_of_le (by rw[a0b];omega)) (by exact a0K (k:=k) (by omega) _ (by omega)) (zH (xA (zn (zq ?_))))
   refine zx ?_
   refine zb (zH ?_)
   have e1:arB 16 (fun q=>if q=k then(if k<k then x k^^^kf D (16*j+k)else x k)^^^kf D (16*j+k)else if q<k then x q^^^kf D (16*j+q)else x q)=arB 16 (fun q=>if q<k+1 then x q^^^kf D (16*j+q)else x q):=a0d fun q _=>by
    rcases Nat.lt_trichotomy q k with h1|h1|h1
    ·rw[if_neg (by omega),if_pos h1,if_pos (by omega)]
    ·rw[if_pos h1,if_neg (by omega),if_pos (by omega),h1]
    rw[if_neg (by omega),if_neg (by omega),if_neg (by omega)]
   rw[e1]
   refine zr _ _ _ (by omega) (⟨k+1,by omega,rfl,rfl,rfl⟩)
  obtain rfl:k=16:=by omega
  have e1:arB 16 (fun q=>if q<16 then x q^^^kf D (16*j+q)else x q)=arB 16 (fun q=>x q^^^kf D (16*j+q)):=a0d fun q hq=>if_pos hq
  rw[e1]
  refine AW.g ?_
  refine G.closeRow (b:=b') (n:=16) (cap:=cap) 0 rfl (a0b _ _) rfl hc1 hc2 ?_
  refine AW.u ?_
  dsimp only[List.set]
  refine wm ?_
  refine xY ?_
  refine wa ?_
  refine xq (zn (zq ?_))
  refine zb ?_
  refine zb ?_
  refine AO.opN (O.callLP rfl Tryz.func186 rfl rfl rfl (by repeat(exact List.Mem.head _)) (o0N key _ hk) (i0q _ _) (by(repeat(first|exact LendL.nil|refine LendL.same ?_|refine LendL.lend ?_));done)) rfl rfl rfl ?_
  rintro _ _ ⟨V97,hV97,rfl,rfl⟩
  simp only[cA,cN]
  refine zb ?_
  refine zW ?_
  refine zW ?_
  refine zc (zH (xA (zn (zq ?_))))
  refine zb ?_
  refine zx ?_
  refine zc (zH ?_)
  have hne:D.drop (16*j)≠ []:=fun e=>by
   have:=congrArg List.length e
   rw[List.length_drop,cE]at this;omega
  have hx2:absorb w (enc w fun q=>x q^^^kf D (16*j+q)) (D.drop (16*(j+1)))=absorb w (fun _=>0) D:=by
   rw[←hx,b0h hne,List.drop_drop]
   have ek:(fun q=>x q^^^kf (D.drop (16*j)) q)=fun q=>x q^^^kf D (16*j+q):=by
    funext q;simp[kf,List.getElem?_drop]
   rw[ek,show 16*j+16=16*(j+1) by omega]
  have e2:((16*j:Nat):Int)+16=((16*(j+1):Nat):Int):=by omega
  rw[e2,←hw]
  refine zr _ _ _ (by omega) (⟨j+1,_,_,by omega,hV97,hx2,rfl,rfl,rfl⟩)
 have hj':16*j=N:=by omega
 refine wm ?_
 refine xY ?_
 refine wa ?_
 refine xq (zn (zC (zq ?_)))
 refine zb ?_
 refine zc (zH (zn (y3 ?_)))
 refine AQ.g ?_
 refine yj 0 [10] ?_
 refine AQ.u ?_
 try dsimp only[List.map,List.eraseIdx,cA,cN]
 have ed:D.drop (16*j)= []:=List.drop_eq_nil_of_le (by omega)
 rw[ed,b0k]at hx
 have ef:arB 16 x=arB 16 M:=a0d fun q hq=>by rw[hx];exact hfin q hq
 rw[ef]
 refine AQ.g ?_
 refine G.re 10 (roB (fnB 16 M)) (congrArg some (b0D _ _).symm) ?_
 refine AQ.u ?_
 refine yw
def sF (w:Nat→UInt8)(nonce b:List UInt8)(c:Int)(i:Nat):UInt8:=kf b i^^^enc w (b0Z (u8 (14-(nonce.length:Int))) nonce (c+((i/16:Nat):Int))) (i%16)
theorem j0p (first:Int)(nonce:List UInt8)(n:Int)(hn13:nonce.length≤13)(hn:0≤n∧n≤9223372036854775807):Sp Tryz.prog 187 [.val (.int .i64 first),roB nonce,.val (.int .i64 n)] [] (Is (.ro false 16 (arB 16 (b0Z (u8 first) nonce n)))):=by
 rw[←b0D];exact l0w first nonce n hn13 hn
theorem o0O (key:List UInt8)(f:Nat→UInt8)(hk:key.length=16):Sp Tryz.prog 186 [roB key,.ro false 16 (arB 16 f)] [] (Is (.tup [.ro false 16 (arB 16 (enc (wS (kf key)) f)),.val (.int .i64 0)])):=by
 have h:=o0W key (fnB 16 f)
 have e1:u0a key (fnB 16 f)=fnB 16 (enc (wS (kf key)) f):=by
  rw[u0a,if_pos ⟨hk,a0D _ _⟩]
  exact c0P (f0J fun q hq=>i0i hq)
 have e2:u0C key (fnB 16 f)=0:=if_pos ⟨hk,a0D _ _⟩
 rw[e1,e2,b0D,b0D]at h
 exact h
theorem g0v (key nonce b:List UInt8)(c:Int)(hk:key.length=16)(hn13:nonce.length≤13)(hc:0≤c∧c≤1)(hb:b.length≤10000):Sp Tryz.prog 170 [roB key,roB nonce,roB b,.val (.int .i64 c)] [] (b0e 5 1 b.length (arB b.length (sF (wS (kf key)) nonce b c))):=by
 refine yH Tryz.func170 _ Tryz.ntmps170 (fun w0 R0=> ?_)
 refine zC (zq ?_)
 refine zc (zH (zn (zC (zq ?_))))
 refine zc ?_
 refine zc (zH (zn (zC (zC (zq ?_)))))
 refine zb ?_
 refine zZ ?_
 refine zb (zH (zn (xb ?_)))
 refine AW.g ?_
 refine G.nilRow 5 1 ?_
 refine AW.u ?_
 refine zh [(0,_),(1,_),(3,_),(13,_),(14,_)] (fun nn E H=> ∃(i:Nat) (V:Value) (S:AV),(i≤b.length)∧(V.oneCell'=true)∧(i%16≠0→S= .ro false 16 (arB 16 (enc (wS (kf key)) (b0Z (u8 (14-(nonce.length:Int))) nonce (c+((i/16:Nat):Int))))))∧nn=b.length-i∧E= [(9,.val V),(10,S),(15,.val (.int .i64 (i:Int)))]∧H= [.row V 5 1 i (arB i (sF (wS (kf key)) nonce b c))]) _ (⟨0,.slice none 0 0,.val (.slice none 0 0),by omega,rfl,fun h=>absurd rfl h,rfl,rfl,rfl⟩) ?_
 rintro nn E H ⟨i,V,S,hi,hV,hS,rfl,rfl,rfl⟩
 dsimp only[cA,cN]
 refine zC (zq ?_)
 refine zR (zH (zn (zC ?_)))
 refine ym (fun h=> ?_) (fun h=> ?_)<;>(try simp only[vU]at h)
 ·have hi':i<b.length:=by omega
  have hget:(a0a b)[(i:Int).toNat*1]? =some (by8 (kf b i)):=by
   rw[e0E];exact a0p (by omega) (by omega)
  refine yU (zn (zC (xb (zC (zq ?_)))))
  refine zb ?_
  refine yf ?_
  refine vO (O.loadR rfl rfl (by exact hget)) ?_
  refine zc ?_
  refine zc (zH (zn (zC (zC (zq ?_)))))
  refine zb ?_
  refine ww ?_
  refine yi (zH (zn ?_))
  obtain⟨z,hz⟩: ∃z,z=enc (wS (kf key)) (b0Z (u8 (14-(nonce.length:Int))) nonce (c+((i/16:Nat):Int))):=⟨_,rfl⟩
  have ei:(i:Int)/16=((i/16:Nat):Int):=by omega
  refine wh True [(0,_),(1,_),(3,_),(9,_),(11,_),(12,_),(13,_),(14,_),(15,_)] [(10,.ro false 16 (arB 16 z))] [.row V 5 1 i (arB i (sF (wS (kf key)) nonce b c))] (fun h22=> ?_) (fun h22=> ?_) (fun hj=> ?_)<;>try(try simp only[vU]at h22)
  ·refine zq ?_
   refine zb ?_
   refine zb ?_
   refine zZ ?_
   refine yG ?_
   refine zb ?_
   refine zb ?_
   refine zb ?_
   refine wQ ?_
   refine zx ?_
   refine vO (xD rfl Tryz.func187 rfl rfl rfl (j0p _ nonce _ hn13 ⟨by omega,by omega⟩)) ?_
   refine vO (xD rfl Tryz.func186 rfl rfl rfl (o0O key _ hk)) ?_
   refine zb ?_
   refine zW ?_
   refine zW ?_
   refine zc (zH ?_)
   rw[ei,←hz]
   refine yK
  ·have:=hS (by omega)
   subst this
   rw[←hz]
   refine yU ?_
   refine yK
  dsimp only[cA,cN]
  refine zn (zq ?_)
  refine zb ?_
  refine zb ?_
  refine zb ?_
  refine zb ?_
  refine ww ?_
  refine yf ?_
  refine vO (O.loadR rfl rfl (by exact a0p (k:=i%16) (by omega) (by omega))) ?_
  refine vE ?_
  refine zU ?_
  intro B1
  refine AO.g ?_
  refine yr 0 45 ?_
  refine wH 45 ?_
  refine AO.u ?_
  dsimp only[List.eraseIdx]
  refine yk 0 ?_
  intro V2 hV2
  refine zc (zH (xA (zn (zq ?_))))
  refine zx ?_
  refine zb (zH ?_)
  have e1:arB i (sF (wS (kf key)) nonce b c)++[AV.val (.int .u8 ((kf b i^^^z (i%16)).toNat:Int))]=arB (i+1) (sF (wS (kf key)) nonce b c):=c0e (by rw[sF,hz])
  rw[e1]
  refine zr _ _ _ (by omega) (⟨i+1,V2,.ro false 16 (arB 16 z),by omega,hV2,fun h=>by rw[hz,show(i+1)/16=i/16 by omega],rfl,rfl,rfl⟩)
 obtain rfl:i=b.length:=by omega
 refine wm ?_
 refine xY ?_
 refine wa ?_
 refine xq (zn (zC (zq ?_)))
 refine zb ?_
 refine zc (zH (zn (y3 ?_)))
 refine vm rfl rfl ⟨_,by repeat(first|exact List.Sublist.slnil|refine List.Sublist.cons_cons _ ?_),List.Perm.refl _⟩ (⟨_,rfl,hV,rfl⟩)
theorem j0P (key nonce b:List UInt8)(hk:key.length=16)(hn13:nonce.length≤13)(hb:b.length≤10000):Sp Tryz.prog 170 [roB key,roB nonce,roB b,.val (.int .i64 1)] [] (b0e 5 1 b.length (arB b.length (e0N (wS (kf key)) nonce b))):=by
 have h:=g0v key nonce b 1 hk hn13 (by omega) hb
 have e:sF (wS (kf key)) nonce b 1=e0N (wS (kf key)) nonce b:=by
  funext i;rw[sF,e0N,Int.add_comm]
 rw[e]at h;exact h
theorem o0C (key nonce:List UInt8)(M:Nat→UInt8)(hk:key.length=16)(hn13:nonce.length≤13):Sp Tryz.prog 170 [roB key,roB nonce,roB (fnB 16 M),.val (.int .i64 0)] [] (b0e 5 1 16 (arB 16 (e0F (wS (kf key)) nonce M))):=by
 have h:=g0v key nonce (fnB 16 M) 0 hk hn13 (by omega) (by rw[a0D];omega)
 rw[a0D]at h
 have e:arB 16 (sF (wS (kf key)) nonce (fnB 16 M) 0)=arB 16 (e0F (wS (kf key)) nonce M):=a0d fun q hq=>by
  rw[sF,e0F,i0i hq,show q/16=0 by omega,show q%16=q by omega];rfl
 rw[e]at h;exact h
theorem x0d {T:Nat}(h:T≤16)(f:Nat→UInt8):(arB 16 f).take (T*1)=arB T f:=by
 have:=s0F h f
 rw[show(T-0)*1=T*1 by omega]at this
 exact this
theorem j0Q (key nonce aad plain:List UInt8)(tag:Int)(ha:aad.length≤1000000)(hp:plain.length≤1000000):Sp Tryz.prog 128 [roB key,roB nonce,roB aad,roB plain,.val (.int .i64 tag)] [] (Is (.tup [roB (f0l key nonce aad plain tag),.val (.int .i64 (d0G key nonce aad plain tag))])):=by
 refine yH Tryz.func128 _ Tryz.ntmps128 (fun w0 R0=> ?_)
 refine zC (zq ?_)
 refine zc ?_
 refine zc (zH (zn (zC (xb (zC (zq ?_))))))
 refine zb ?_
 refine zb ?_
 refine zb ?_
 refine vO (xD rfl Tryz.func169 rfl rfl rfl (h0Q key nonce _)) ?_
 refine xo ?_
 refine zc (zH (zn ?_))
 refine ym (fun h=> ?_) (fun h=> ?_)<;>(try simp only[vU]at h)
 ·have hb:cvB key nonce tag=false:=by simpa using h
  obtain⟨e1,e2⟩:=o0x (aad:=aad) (plain:=plain) hb
  rw[e1,e2]
  refine zC (zq ?_)
  refine zc ?_
  refine zc (zH (zn (y3 ?_)))
  refine wg (xh ?_)
  refine x9 yP yu (⟨rfl,rfl⟩)
 obtain⟨hk,hn7,hn13,ht4,ht16,ht2⟩:=n0K h
 refine zC (zq ?_)
 refine zb ?_
 refine zZ ?_
 refine yN ?_
 refine zb ?_
 refine yl ?_
 refine yg 23 ?_
 refine yy 24 ?_
 refine zG ?_
 refine zc (zH (zn ?_))
 refine ym (fun h2=> ?_) (fun h2=> ?_)<;>(try simp only[vU]at h2)
 ·have hb:d0p aad plain=false:=by
   simp only[d0p,Bool.and_eq_false_iff,decide_eq_false_iff_not]
   omega
  obtain⟨e1,e2⟩:=m0l h hb
  rw[e1,e2]
  refine zC (zq ?_)
  refine zc ?_
  refine zc (zH (zn (y3 ?_)))
  refine wg (xh ?_)
  refine x9 yP yu (⟨rfl,rfl⟩)
 have hb:d0p aad plain=true:=by
  simp only[d0p,Bool.and_eq_true,cQ]
  omega
 obtain⟨e1,e2⟩:=h0H h hb
 rw[e1,e2]
 obtain⟨T,hT⟩: ∃T:Nat,T=tag.toNat:=⟨_,rfl⟩
 rw[←hT]
 have hT':tag=(T:Int):=by omega
 have ha':aad.length≤10000:=by omega
 have hp':plain.length≤10000:=by omega
 obtain⟨M,hM⟩: ∃M,M=l0k (wS (kf key)) nonce aad plain tag:=⟨_,rfl⟩
 have k0p:=t0K key nonce aad plain tag hk hn13 ⟨ht4,ht16⟩ ha' hp'
 rw[←hM]at k0p⊢
 refine yU (xA (zn (zC (zq ?_))))
 refine zb ?_
 refine zb ?_
 refine zb ?_
 refine vS (xD rfl Tryz.func170 rfl rfl rfl (j0P key nonce plain hk hn13 hp')) ?_
 intro V1 hV1
 refine zb ?_
 refine zb ?_
 refine zb ?_
 refine zb ?_
 refine zb ?_
 refine zb ?_
 refine zb ?_
 refine vO (xD rfl Tryz.func171 rfl rfl rfl k0p) ?_
 refine vS (xD rfl Tryz.func170 rfl rfl rfl (o0C key nonce M hk hn13)) ?_
 intro V2 hV2
 refine AO.g ?_
 refine yL 0 [39] ?_
 refine AO.u ?_
 dsimp only[List.map,List.eraseIdx,cA,cN]
 refine zb ?_
 refine vO (O.sliceTo (k:=T) rfl rfl rfl (by omega) (by omega) (by exact x0d (by omega) _)) ?_
 refine AO.append' (i:=0) rfl rfl rfl rfl (by rfl) (by rfl) rfl rfl rfl (by exact SrcA.ro TyD.ax (by(simp;done)) (lB rfl)) (by exact d0x _ _) (by(unfold maxLen;omega)) (by omega) (by(dsimp only[List.set,List.append,cA,cN,a0e,a0v,AV.cells,List.map,List.map_cons,List.map_nil,List.take,List.drop,Nat.zero_add,Nat.add_zero,Nat.reduceAdd,Nat.reduceMul,Nat.zero_mul,Value.cells,List.toList_toArray,a0t,List.replicate,List.flatten,cP];done)) (fun _=>by(dsimp only[List.set];done)) ?_
 intro V3 hV3
 refine AO.g ?_
 refine yL 0 [42] ?_
 refine AO.u ?_
 dsimp only[List.map,List.eraseIdx,cA,cN]
 refine zc ?_
 refine zc (zH (zn (y3 ?_)))
 refine AQ.g ?_
 refine G.re 10 (roB (fnB plain.length (e0N (wK key) nonce plain)++fnB T (e0F (wK key) nonce M))) (congrArg some (o0J _ T _ _)) ?_
 refine AQ.u ?_
 refine x9 yP yQ (⟨rfl,rfl⟩)
end Go.Proofs.YtojomcdjcpmnkaaGreat.By
namespace Go.Proofs.YtojomcdjcpmnkaaGreat.By
open Go.RowKit L A
attribute [local irreducible] AW AQ AO
attribute [local simp] a0b
def d0t (aad cipher:List UInt8)(tag:Int):Bool:=decide ((aad.length:Int)≤4096)&&decide ((cipher.length:Int)≤4096+tag)
def e0i (key nonce cipher:List UInt8)(tag:Int):List UInt8:=fnB (cipher.length-tag.toNat) (e0N (wK key) nonce (cipher.take (cipher.length-tag.toNat)))
def g0e (key nonce aad cipher:List UInt8)(tag:Int):Bool:=f0l key nonce aad (e0i key nonce cipher tag) tag==cipher
def b0x (key nonce aad cipher:List UInt8)(tag:Int):List UInt8:=
 if cvB key nonce tag&&d0t aad cipher tag&&decide (tag≤(cipher.length:Int))&&g0e key nonce aad cipher tag then e0i key nonce cipher tag else []
def b0K (key nonce aad cipher:List UInt8)(tag:Int):Int:=
 if cvB key nonce tag then(if d0t aad cipher tag then(if tag≤(cipher.length:Int)then(if g0e key nonce aad cipher tag then 0 else 11)else 2)else 8)else 1
theorem o0I (key nonce aad cipher:List UInt8)(tag:Int)(ha:aad.length≤1000000)(hp:cipher.length≤1000000):Sp Tryz.prog 142 [roB key,roB nonce,roB aad,roB cipher,.val (.int .i64 tag)] [] (Is (.tup [roB (b0x key nonce aad cipher tag),.val (.int .i64 (b0K key nonce aad cipher tag))])):=by
 refine yH Tryz.func142 _ Tryz.ntmps142 (fun w0 R0=> ?_)
 refine zC (zq ?_)
 refine zc ?_
 refine zc (zH (zn (zC (xb (zC (zq ?_))))))
 refine zb ?_
 refine zb ?_
 refine zb ?_
 refine vO (xD rfl Tryz.func169 rfl rfl rfl (h0Q key nonce _)) ?_
 refine xo ?_
 refine zc (zH (zn ?_))
 refine ym (fun h=> ?_) (fun h=> ?_)<;>(try simp only[vU]at h)
 ·have hb:cvB key nonce tag=false:=by simpa using h
  have e1:b0x key nonce aad cipher tag= []:=by simp[b0x,hb]
  have e2:b0K key nonce aad cipher tag=1:=by simp[b0K,hb]
  rw[e1,e2]
  refine zC (zq ?_)
  refine zc ?_
  refine zc (zH (zn (y3 ?_)))
  refine wg (xh ?_)
  refine x9 yP yu (⟨rfl,rfl⟩)
 obtain⟨hk,hn7,hn13,ht4,ht16,ht2⟩:=n0K h
 refine zC (zq ?_)
 refine zb ?_
 refine zZ ?_
 refine yN ?_
 refine zb ?_
 refine yl ?_
 refine yg 26 ?_
 refine yl ?_
 refine AO.opG rfl rfl rfl (fun hp=>wP 28 rfl (by exact hp) zD) ?_
 refine AO.opG rfl rfl rfl (fun hp=>wP 27 rfl (by exact hp) (wP 29 rfl (by exact hp) yI)) ?_
 refine zG ?_
 refine zc (zH (zn ?_))
 refine ym (fun h2=> ?_) (fun h2=> ?_)<;>(try simp only[vU]at h2)
 ·have hb:d0t aad cipher tag=false:=by
   simp only[d0t,Bool.and_eq_false_iff,decide_eq_false_iff_not]
   omega
  have e1:b0x key nonce aad cipher tag= []:=by simp[b0x,hb]
  have e2:b0K key nonce aad cipher tag=8:=by simp[b0K,h,hb]
  rw[e1,e2]
  refine zC (zq ?_)
  refine zc ?_
  refine zc (zH (zn (y3 ?_)))
  refine wg (xh ?_)
  refine x9 yP yu (⟨rfl,rfl⟩)
 have hb:d0t aad cipher tag=true:=by
  simp only[d0t,Bool.and_eq_true,cQ]
  omega
 refine zC (zq ?_)
 refine zb ?_
 refine zZ ?_
 refine zb ?_
 refine zR ?_
 refine zc (zH (zn ?_))
 refine ym (fun h3=> ?_) (fun h3=> ?_)<;>(try simp only[vU]at h3)
 ·have e1:b0x key nonce aad cipher tag= []:=by simp[b0x,show ¬tag≤(cipher.length:Int) by omega]
  have e2:b0K key nonce aad cipher tag=2:=by simp[b0K,h,hb,show ¬tag≤(cipher.length:Int) by omega]
  rw[e1,e2]
  refine zC (zq ?_)
  refine zc ?_
  refine zc (zH (zn (y3 ?_)))
  refine wg (xh ?_)
  refine x9 yP yu (⟨rfl,rfl⟩)
 have h3':tag≤(cipher.length:Int):=by omega
 obtain⟨n,hn⟩: ∃n:Nat,n=cipher.length-tag.toNat:=⟨_,rfl⟩
 have hn':(cipher.length:Int)-tag=(n:Int):=by omega
 have hct:(cipher.take n).length=n:=by rw[List.length_take];omega
 have hopt:e0i key nonce cipher tag=fnB n (e0N (wK key) nonce (cipher.take n)):=by rw[e0i,←hn]
 have hst:=j0P key nonce (cipher.take n) hk hn13 (by omega)
 obtain⟨PT,hPT⟩: ∃PT,PT=e0i key nonce cipher tag:=⟨_,rfl⟩
 have hPl:PT.length=n:=by rw[hPT,hopt,a0D]
 have eP:arB (cipher.take n).length (e0N (wS (kf key)) nonce (cipher.take n))=a0a PT:=by rw[hPT,hopt,hct];rfl
 rw[eP,hct]at hst
 have hst:Sp Tryz.prog 170 [roB key,roB nonce,roB (cipher.take n),.val (.int .i64 1)] [] (b0e 5 1 PT.length (a0a PT)):=by rw[hPl];exact hst
 refine yU (xA (zn (zC (zq ?_))))
 refine zb ?_
 refine zb ?_
 refine zb ?_
 refine zb ?_
 refine zZ ?_
 refine zb ?_
 refine yG ?_
 refine vO (O.sliceToB (k:=n) rfl rfl rfl (by omega) (by omega)) ?_
 refine vS (xD rfl Tryz.func170 rfl rfl rfl hst) ?_
 intro V1 hV1
 refine AO.g ?_
 refine yL 0 [45] ?_
 refine AO.u ?_
 dsimp only[List.map,List.eraseIdx,cA,cN]
 refine zc (zH (zn (zC (zq ?_))))
 refine zb ?_
 refine zb ?_
 refine zb ?_
 refine zb ?_
 refine zb ?_
 refine vO (xD rfl Tryz.func128 rfl rfl rfl (j0Q key nonce aad PT tag (by omega) (by omega))) ?_
 refine zb ?_
 refine zW ?_
 refine zW ?_
 refine zc ?_
 refine zc (zH (zn (zC (zC (zq ?_)))))
 refine zb ?_
 refine vx ?_
 refine zb ?_
 refine vx ?_
 refine vO (O.neqS rfl rfl rfl (by rfl)) (zH (zn ?_))
 obtain⟨SL,hSL⟩: ∃L,L=f0l key nonce aad PT tag:=⟨_,rfl⟩
 rw[←hSL]
 refine ym (fun h4=> ?_) (fun h4=> ?_)<;>(try simp only[vU]at h4)
 ·have hB:g0e key nonce aad cipher tag=false:=by rw[g0e,←hPT,←hSL];simpa using h4
  have e1:b0x key nonce aad cipher tag= []:=by simp[b0x,hB]
  have e2:b0K key nonce aad cipher tag=11:=by simp[b0K,h,hb,h3',hB]
  rw[e1,e2]
  refine zC (zq ?_)
  refine zc ?_
  refine zc (zH (zn (y3 (xh ?_))))
  refine x9 yP yu (⟨rfl,rfl⟩)
 have hB:g0e key nonce aad cipher tag=true:=by rw[g0e,←hPT,←hSL];simpa using h4
 have e1:b0x key nonce aad cipher tag=PT:=by simp[b0x,h,hb,h3',hB,hPT]
 have e2:b0K key nonce aad cipher tag=0:=by simp[b0K,h,hb,h3',hB]
 rw[e1,e2]
 refine yU (zn (zC (zq ?_)))
 refine zb ?_
 refine zc ?_
 refine zc (zH (zn (y3 ?_)))
 refine x9 yP yQ (⟨rfl,rfl⟩)
end Go.Proofs.YtojomcdjcpmnkaaGreat.By
namespace Go.Proofs.YtojomcdjcpmnkaaGreat.By
open Go.RowKit L A
attribute [local irreducible] AW AQ AO
def q0u (outer inner:Msg)(v:Cmp)(key nonce aad:List UInt8):Msg:=⟨outer.ty,outer.code,outer.id,outer.tok,h0z outer.opts 9 [(g0j v).1],f0l key nonce aad (b0J inner).1 8⟩
def g0Y (outer inner:Msg)(v:Cmp)(key nonce aad:List UInt8):Msg×Int:=
 if(b0J inner).2≠0 then(Msg.none,(b0J inner).2)else
 if d0G key nonce aad (b0J inner).1 8≠0 then(Msg.none,d0G key nonce aad (b0J inner).1 8)else
 if(g0I (q0u outer inner v key nonce aad)).2≠0 then(Msg.none,8)else(q0u outer inner v key nonce aad,0)
theorem m0q {outer inner:Msg}{v:Cmp}{key nonce aad:List UInt8}(h:(b0J inner).2≠0):g0Y outer inner v key nonce aad=(Msg.none,(b0J inner).2):=if_pos h
theorem m0p {outer inner:Msg}{v:Cmp}{key nonce aad:List UInt8}(h:(b0J inner).2=0)(h2:d0G key nonce aad (b0J inner).1 8≠0):g0Y outer inner v key nonce aad=(Msg.none,d0G key nonce aad (b0J inner).1 8):=(if_neg (fun g=>g h)).trans (if_pos h2)
theorem m0o {outer inner:Msg}{v:Cmp}{key nonce aad:List UInt8}(h:(b0J inner).2=0)(h2:d0G key nonce aad (b0J inner).1 8=0)(h3:(g0I (q0u outer inner v key nonce aad)).2≠0):g0Y outer inner v key nonce aad=(Msg.none,8):=(if_neg (fun g=>g h)).trans ((if_neg (fun g=>g h2)).trans (if_pos h3))
theorem m0n {outer inner:Msg}{v:Cmp}{key nonce aad:List UInt8}(h:(b0J inner).2=0)(h2:d0G key nonce aad (b0J inner).1 8=0)(h3:(g0I (q0u outer inner v key nonce aad)).2=0):g0Y outer inner v key nonce aad=(q0u outer inner v key nonce aad,0):=(if_neg (fun g=>g h)).trans ((if_neg (fun g=>g h2)).trans (if_neg (fun g=>g h3)))
theorem m0Q (m:Msg):(b0J m).1.length≤5000:=by
 unfold b0J
 split
 ·split
  ·rename_i h
   have:=i0r h
   simp only[cL,List.length_drop];omega
  simp
 simp
theorem p0M (c:Cmp):(g0j c).1.length≤100:=by
 unfold g0j
 split
 ·simp
 rename_i h
 have hv:=Decidable.not_not.1 h
 have hp:=d0a c.piv
 obtain⟨⟨-, -,h1,h2⟩, -⟩:=hv
 split
 ·simp
 unfold u0b
 cases c.hasCtx<;>simp<;>omega
abbrev SmS (m:Msg):Prop:=m.tok.length≤1000000∧m.pay.length≤1000000∧m.opts.length≤100000∧ ∀o∈m.opts,o.val.length≤1000000
theorem m0f:SmS Msg.none:=⟨by simp[Msg.none],by simp[Msg.none],by simp[Msg.none],fun o ho=>by cases ho⟩
theorem q0l {m:Msg}(h:ValM m):SmS m:=by
 obtain⟨h1,h2,h3,h4⟩:=ValM.sm h
 refine⟨by omega,by omega,by omega,fun o ho=> ?_⟩
 obtain⟨k,hk,rfl⟩:=List.getElem_of_mem ho
 have:=h4 k hk
 have e:oat m.opts k=m.opts[k]:=by simp[hk]
 rw[e]at this;omega
theorem o0r (m:Msg):SmS (a0Q m).2.1:=by
 unfold a0Q
 split
 ·rename_i h
  split
  ·exact m0f
  obtain⟨h1,h2,h3,h4⟩:=q0l h.1
  have hl:=k0c m.opts
  exact⟨h1,by show([]:List UInt8).length≤_;simp,by show(h0Z m.opts).length≤_;omega,fun o ho=>h4 o (List.mem_filter.1 ho).1⟩
 exact m0f
theorem r0m {outer inner:Msg}{v:Cmp}{key nonce aad:List UInt8}(h:SmS outer):outer.tok.length≤140737488355328∧outer.pay.length≤140737488355328∧(∀o∈outer.opts,o.val.length≤140737488355328)∧(∀w∈ [(g0j v).1],w.length≤140737488355328):=by
 refine⟨by have:=h.1;omega,by have:=h.2.1;omega,fun o ho=>by have:=h.2.2.2 o ho;omega,fun w hw=> ?_⟩
 obtain rfl:=List.mem_singleton.1 hw
 have:=p0M v;omega
abbrev w0m (l:List UInt8):AV:= .ro false 1 [roB l]
theorem m0k (outer inner:Msg)(v:Cmp)(key nonce aad:List UInt8)(ho:SmS outer)(ha:aad.length≤1000000):
  Sp Tryz.prog 68 [b0n outer,b0n inner,s0X v,roB key,roB nonce,roB aad] [] (Is (h0O (g0Y outer inner v key nonce aad))):=by
 have hpl:=m0Q inner
 obtain⟨g1,g2,g3,g4⟩:=r0m (inner:=inner) (v:=v) (key:=key) (nonce:=nonce) (aad:=aad) ho
 have hset:Sp Tryz.prog 25 [b0n outer,.val (.int .i64 9),w0m (g0j v).1] [] (Is (b0n ⟨outer.ty,outer.code,outer.id,outer.tok,h0z outer.opts 9 [(g0j v).1],outer.pay⟩)):=m0i outer 9 [(g0j v).1] g1 g2 ho.2.2.1 (by simp) g3 g4
 refine yH Tryz.func68 _ Tryz.ntmps68 (fun w0 R0=> ?_)
 refine zC (zq ?_)
 refine z9 ?_
 intro B1
 refine z9 ?_
 intro B2
 refine z9 ?_
 intro B3
 refine zd ?_
 intro B4
 refine zc (zH (zn (zC (zq ?_))))
 refine zw ?_
 refine vO (xD rfl Tryz.func127 rfl rfl rfl (o0G inner)) ?_
 refine zb ?_
 refine zW ?_
 refine zW ?_
 refine zc ?_
 refine zc (zH (zn (zC (zC (zq ?_)))))
 refine zb ?_
 refine y8 (zH (zn ?_))
 refine ym (fun h1=> ?_) (fun h1=> ?_)<;>(try simp only[vU]at h1)
 ·rw[m0q h1]
  refine zC (zq ?_)
  refine zM ?_
  refine zb ?_
  refine za 0 ?_
  refine zc (zH (zn (y3 (xh ?_))))
  refine x9 zP zk (⟨rfl,rfl⟩)
 refine yU (zn (zC (zq ?_)))
 refine zb ?_
 refine zb ?_
 refine zb ?_
 refine zb ?_
 refine vO (xD rfl Tryz.func128 rfl rfl rfl (j0Q key nonce aad (b0J inner).1 8 ha (by omega))) ?_
 refine zb ?_
 refine zW ?_
 refine zW ?_
 refine zc ?_
 refine zc (zH (zn (zC (zC (zq ?_)))))
 refine zb ?_
 refine y8 (zH (zn ?_))
 refine ym (fun h2=> ?_) (fun h2=> ?_)<;>(try simp only[vU]at h2)
 ·rw[m0p h1 h2]
  refine zC (zq ?_)
  refine zM ?_
  refine zb ?_
  refine za 0 ?_
  refine zc (zH (zn (y3 (xh ?_))))
  refine x9 zP zk (⟨rfl,rfl⟩)
 refine yU (zn (zC (zq ?_)))
 refine zw ?_
 refine vO (xD rfl Tryz.func23 rfl rfl rfl (i0X v)) ?_
 refine zb ?_
 refine zW ?_
 refine zW ?_
 refine zc ?_
 refine zc (zH (zn (zC (zq ?_))))
 refine zw ?_
 refine zb ?_
 refine zU ?_
 intro B5
 refine AO.g ?_
 refine yr 0 50 ?_
 refine wH 50 ?_
 refine AO.u ?_
 dsimp only[List.eraseIdx]
 refine vO (xD rfl Tryz.func25 rfl rfl rfl hset) ?_
 refine zd ?_
 intro B6
 refine za 0 (zH (zn (zC (zq ?_))))
 refine zb ?_
 refine zt ?_
 refine za 0 (zH (zn (zC (zC (zq ?_)))))
 refine zI ?_
 refine vO (xD rfl Tryz.func120 rfl rfl rfl (i0T (q0u outer inner v key nonce aad))) ?_
 refine zb ?_
 refine zW ?_
 refine zW ?_
 refine zc ?_
 refine zc (zH (zn (zC (zq ?_))))
 refine zb ?_
 refine y8 (zH (zn ?_))
 refine ym (fun h3=> ?_) (fun h3=> ?_)<;>(try simp only[vU]at h3)
 ·rw[m0o h1 h2 h3]
  refine zC (zq ?_)
  refine zM ?_
  refine za 1 ?_
  refine zc (zH (zn (y3 (xh ?_))))
  refine x9 zo zk (⟨rfl,rfl⟩)
 rw[m0n h1 h2 h3]
 refine yU (zn (zC (zq ?_)))
 refine zI ?_
 refine za 1 ?_
 refine zc (zH (zn (y3 ?_)))
 refine AQ.retCT rfl rfl rfl mM (by(dsimp only[List.set,cA,cN,List.take,List.drop];rfl)) rfl nS (⟨rfl,rfl⟩)
def o0Z (m:Msg)(v:Cmp)(key nonce aad:List UInt8):Msg×Int:=if(a0Q m).2.2≠0 then(Msg.none,(a0Q m).2.2)else g0Y (a0Q m).2.1 (a0Q m).1 v key nonce aad
theorem m0L {m:Msg}{v:Cmp}{key nonce aad:List UInt8}(h:(a0Q m).2.2≠0):o0Z m v key nonce aad=(Msg.none,(a0Q m).2.2):=if_pos h
theorem m0K {m:Msg}{v:Cmp}{key nonce aad:List UInt8}(h:(a0Q m).2.2=0):o0Z m v key nonce aad=g0Y (a0Q m).2.1 (a0Q m).1 v key nonce aad:=if_neg (fun g=>g h)
theorem h0x (kid:List UInt8)(piv:Int):(k0G kid piv).1.length≤1000:=by
 unfold k0G
 split
 ·simp
 rename_i h
 split
 ·simp
 have hpl:=d0a piv
 have hxl:=f0b (kid:=kid) (pb:=b0N piv) (by omega) hpl
 show(g0c [j0H h0A,c0k [],c0k (i0E kid (b0N piv))]).length≤1000
 have hsl:(c0k (i0E kid (b0N piv))).length=1+(i0E kid (b0N piv)).length:=by rw[c0k,b0g hxl,cH];rfl
 have h4:(j0H h0A).length=9:=rfl
 have h5:(c0k []).length=1:=rfl
 rw[g0c,b0g (by show 3<24;omega),cH]
 simp only[List.flatten_cons,List.flatten_nil,cP,cH,cL,cE]
 omega
abbrev u0O (piv:Int):Cmp:=⟨piv,false,[],false,[],false⟩
abbrev o0g (c:Cx)(b:Bd)(piv:Int):Prop:=f0Z c∧(piv= -1∨e0v piv)∧e0v b.piv∧b.kid.length≤7
def q0Z (c:Cx)(b:Bd)(piv:Int):List UInt8×List UInt8:=if o0g c b piv then(c.sk,b0z c b c.inp.snd piv)else([],[])
abbrev w0o (r:List UInt8×List UInt8):AV:= .tup [roB r.1,roB r.2]
theorem q0Y {c:Cx}{b:Bd}{piv:Int}(h: ¬o0g c b piv):q0Z c b piv=([],[]):=if_neg h
theorem l0P {c:Cx}{b:Bd}{piv:Int}(h:o0g c b piv):q0Z c b piv=(c.sk,b0z c b c.inp.snd piv):=if_pos h
theorem i0A {c:Cx}{b:Bd}{id:List UInt8}{piv:Int}(h:piv= -1):b0z c b id piv=(b0U c.com b.kid b.piv).1:=if_pos h
theorem i0z {c:Cx}{b:Bd}{id:List UInt8}{piv:Int}(h:piv≠ -1):b0z c b id piv=(b0U c.com id piv).1:=if_neg h
theorem i0f {c id:List UInt8}{piv:Int}(h1:c.length=13)(h2:id.length≤7)(h3:e0v piv):(b0U c id piv).2=0:=by
 rw[h0j (by omega) (by omega)]
theorem o0z (c:Cx)(b:Bd)(piv:Int):Sp Tryz.prog 30 [h0w c,d0X b,.val (.int .i64 piv)] [] (Is (w0o (q0Z c b piv))):=by
 refine yH Tryz.func30 _ Tryz.ntmps30 (fun w0 R0=> ?_)
 refine zC (zq ?_)
 refine z9 ?_
 intro B1
 refine z9 ?_
 intro B2
 refine zc ?_
 refine zc (zH (zn (zC (zC (zq ?_)))))
 refine zw ?_
 refine vO (xD rfl Tryz.func28 rfl rfl rfl (e0e c)) ?_
 refine xo ?_
 refine zb ?_
 refine zK ?_
 refine zu 14 ?_
 refine AO.opG rfl rfl rfl (fun hp=>wP 15 rfl (by exact hp) (xD rfl Tryz.func64 rfl rfl rfl (i0Z _))) ?_
 refine zG ?_
 refine zb ?_
 refine yl ?_
 refine AO.opG rfl rfl rfl (fun hp=>wP 19 rfl (by exact hp) yp) ?_
 refine zG ?_
 refine zb ?_
 refine yl ?_
 refine yy 23 ?_
 refine zG ?_
 refine zb ?_
 refine zK ?_
 refine zu 27 ?_
 refine yg 28 ?_
 refine yy 29 ?_
 refine zG (zH (zn ?_))
 refine ym (fun h1=> ?_) (fun h1=> ?_)<;>(try simp only[vU]at h1)
 ·rw[q0Y (fun g=>by
   obtain⟨g1,g2,g3,g4⟩:=g
   rcases h1 with(((h|h)|h)|h)|h
   ·exact h g1
   ·exact h g3
   ·omega
   ·omega
   omega)]
  refine zC (zq ?_)
  refine zc ?_
  refine zc (zH (zn (y3 (xh ?_))))
  refine x9 yP (Coe.tup (by(repeat(first|exact CoeL.nil|refine CoeL.cons Coe.nil ?_));done)) (⟨rfl,rfl⟩)
 have hok:o0g c b piv:=by
  obtain⟨⟨⟨⟨g1,g2⟩,g3⟩,g4⟩,g5⟩:=h1
  exact⟨g1,by omega,(by exact g2),by omega⟩
 rw[l0P hok]
 obtain⟨⟨⟨-,k6,k7,k8⟩,k9,k10,k11⟩,m1,m2,m3⟩:=hok
 have n1:(b0U c.com b.kid b.piv).2=0:=i0f k11 m3 m2
 refine yU (zn (zC (zq ?_)))
 refine zt ?_
 refine zp ?_
 refine zt ?_
 refine zA ?_
 refine zt ?_
 refine zA ?_
 refine vO (xD rfl Tryz.func66 rfl rfl rfl (d0I _ _ _ (by omega))) ?_
 refine zb ?_
 refine zW ?_
 refine zW ?_
 refine zc ?_
 refine zc (zH (zn (zC (zC (zq ?_)))))
 refine zb ?_
 refine xR (zH (zn ?_))
 refine ym (fun h2=> ?_) (fun h2=> ?_)<;>(try simp only[vU]at h2)
 ·have n2:(b0U c.com c.inp.snd piv).2=0:=i0f k11 k6 (by omega)
  rw[i0z (by omega)]
  refine zq ?_
  refine zt ?_
  refine zp ?_
  refine zt ?_
  refine zt ?_
  refine zp ?_
  refine zb ?_
  refine vO (xD rfl Tryz.func66 rfl rfl rfl (d0I _ _ _ (by omega))) ?_
  refine zb ?_
  refine zW ?_
  refine zW ?_
  refine zc ?_
  refine zc (zH (zn (zC (zC (zq ?_)))))
  refine zb ?_
  refine vO (O.neq rfl rfl rfl (by exact bne_eq_false_iff_eq.2 (by omega))) (zH (zn ?_))
  refine ym (fun h3=> ?_) (fun h3=> ?_)<;>(try simp only[vU]at h3)
  ·exact absurd h3 (by simp)
  refine yU (zn (zC (zq ?_)))
  refine zt ?_
  refine zp ?_
  refine vO (xD rfl Tryz.func69 rfl rfl rfl (a0o _ (by omega))) ?_
  refine zb ?_
  refine zc ?_
  refine zc (zH (zn (y3 ?_)))
  refine xG
 rw[i0A (by omega)]
 refine yU (zn (zC (zC (zq ?_))))
 refine zb ?_
 refine vO (O.neq rfl rfl rfl (by exact bne_eq_false_iff_eq.2 (by omega))) (zH (zn ?_))
 refine ym (fun h3=> ?_) (fun h3=> ?_)<;>(try simp only[vU]at h3)
 ·exact absurd h3 (by simp)
 refine yU (zn (zC (zq ?_)))
 refine zt ?_
 refine zp ?_
 refine vO (xD rfl Tryz.func69 rfl rfl rfl (a0o _ (by omega))) ?_
 refine zb ?_
 refine zc ?_
 refine zc (zH (zn (y3 ?_)))
 refine xG
abbrev i0G (c:Cx)(b:Bd):Prop:=b.kid=c.inp.rcp∧b.ctx=c.inp.ctx∧e0v b.piv
def m0x (c:Cx)(b:Bd)(m:Msg)(piv:Int):Msg×Int:=o0Z m (u0O piv) c.sk (b0z c b c.inp.snd piv) (k0G b.kid b.piv).1
def h0b (c:Cx)(b:Bd)(m:Msg)(piv:Int):Msg×Int:=
 if ¬(f0Z c∧64≤m.code)then(Msg.none,1)else if ¬i0G c b then(Msg.none,36)else if ¬(piv= -1∨e0v piv)then(Msg.none,8)else m0x c b m piv
theorem r0D {c:Cx}{b:Bd}{m:Msg}{piv:Int}(h: ¬(f0Z c∧64≤m.code)):h0b c b m piv=(Msg.none,1):=if_pos h
theorem r0C {c:Cx}{b:Bd}{m:Msg}{piv:Int}(h:f0Z c∧64≤m.code)(h2: ¬i0G c b):h0b c b m piv=(Msg.none,36):=(if_neg (fun g=>g h)).trans (if_pos h2)
theorem r0B {c:Cx}{b:Bd}{m:Msg}{piv:Int}(h:f0Z c∧64≤m.code)(h2:i0G c b)(h3: ¬(piv= -1∨e0v piv)):h0b c b m piv=(Msg.none,8):=(if_neg (fun g=>g h)).trans ((if_neg (fun g=>g h2)).trans (if_pos h3))
theorem r0A {c:Cx}{b:Bd}{m:Msg}{piv:Int}(h:f0Z c∧64≤m.code)(h2:i0G c b)(h3:piv= -1∨e0v piv):h0b c b m piv=m0x c b m piv:=(if_neg (fun g=>g h)).trans ((if_neg (fun g=>g h2)).trans (if_neg (fun g=>g h3)))
theorem t0n (n:Int):rs n=decide (64≤n):=rfl
theorem h0K (c:Cx)(b:Bd)(m:Msg)(piv:Int)(hrs:Sp Tryz.prog 83 [.val (.int .i64 m.code)] [] (Is (.val (.bool (decide (64≤m.code)))))):Sp Tryz.prog 35 [h0w c,d0X b,b0n m,.val (.int .i64 piv)] [] (Is (h0O (h0b c b m piv))):=by
 refine yH Tryz.func35 _ Tryz.ntmps35 (fun w0 R0=> ?_)
 refine zC (zq ?_)
 refine z9 ?_
 intro B1
 refine z9 ?_
 intro B2
 refine z9 ?_
 intro B3
 refine zd ?_
 intro B4
 refine zc (zH (zn (zC (xb (zC (zq ?_))))))
 refine zw ?_
 refine vO (xD rfl Tryz.func28 rfl rfl rfl (e0e c)) ?_
 refine xo ?_
 refine zb ?_
 refine zK ?_
 refine zT 22 ?_
 refine AO.opG rfl rfl rfl (fun hp=>wP 23 rfl (by exact hp) (xD rfl Tryz.func83 rfl rfl rfl hrs)) ?_
 refine xf 24 ?_
 refine zG ?_
 refine zc (zH (zn ?_))
 refine ym (fun h1=> ?_) (fun h1=> ?_)<;>(try simp only[vU]at h1)
 ·rw[r0D (fun g=>by rcases h1 with h|h;exact h g.1;omega)]
  refine zC (zq ?_)
  refine zM ?_
  refine za 0 ?_
  refine zc (zH (zn (y3 ?_)))
  refine wg (xh ?_)
  refine x9 zP zk (⟨rfl,rfl⟩)
 have h1':f0Z c∧64≤m.code:=h1
 obtain⟨⟨⟨q1,q2,q3,q4,q5⟩,k6,k7,k8⟩,k9,k10,k11⟩:=h1'.1
 refine zC (zq ?_)
 refine zt ?_
 refine zp ?_
 refine zt ?_
 refine zt ?_
 refine zp ?_
 refine vO (xD rfl Tryz.func31 rfl rfl rfl (a0Y _ _)) ?_
 refine xo ?_
 refine zb ?_
 refine zK ?_
 refine zT 37 ?_
 refine zK ?_
 refine AO.opG rfl rfl rfl (fun hp=>wP 39 rfl (by exact hp) zv) ?_
 refine zT 40 ?_
 refine AO.opG rfl rfl rfl (fun hp=>wP 38 rfl (by exact hp) (wP 41 rfl (by exact hp) (xD rfl Tryz.func31 rfl rfl rfl (a0Y _ _)))) ?_
 refine xf 42 ?_
 refine zG ?_
 refine zb ?_
 refine zK ?_
 refine zT 46 ?_
 refine AO.opG rfl rfl rfl (fun hp=>wP 47 rfl (by exact hp) (xD rfl Tryz.func64 rfl rfl rfl (i0Z _))) ?_
 refine zG ?_
 refine zc (zH (zn ?_))
 refine ym (fun h2=> ?_) (fun h2=> ?_)<;>(try simp only[vU]at h2)
 ·rw[r0C h1' (fun g=>by
   obtain⟨g1,g2,g3⟩:=g
   rcases h2 with(h|h)|h
   ·exact h g1
   ·exact h g2
   exact h g3)]
  refine zC (zq ?_)
  refine zM ?_
  refine za 0 ?_
  refine zc (zH (zn (y3 ?_)))
  refine wg (xh ?_)
  refine x9 zP zk (⟨rfl,rfl⟩)
 have h2':i0G c b:=⟨h2.1.1,h2.1.2,(by exact h2.2)⟩
 refine zC (zq ?_)
 refine zb ?_
 refine zR ?_
 refine zb ?_
 refine yl ?_
 refine yy 55 ?_
 refine zG ?_
 refine zc (zH (zn ?_))
 refine ym (fun h3=> ?_) (fun h3=> ?_)<;>(try simp only[vU]at h3)
 ·rw[r0B h1' h2' (fun g=>by omega)]
  refine zC (zq ?_)
  refine zM ?_
  refine za 0 ?_
  refine zc (zH (zn (y3 ?_)))
  refine wg (xh ?_)
  refine x9 zP zk (⟨rfl,rfl⟩)
 have h3':piv= -1∨e0v piv:=by omega
 rw[r0A h1' h2' h3']
 have hal:=h0x b.kid b.piv
 have huo:o0g c b piv:=⟨h1'.1,h3',h2'.2.2,by rw[h2'.1];omega⟩
 have hus:Sp Tryz.prog 30 [h0w c,d0X b,.val (.int .i64 piv)] [] (Is (.tup [roB c.sk,roB (b0z c b c.inp.snd piv)])):=by
  have h:=o0z c b piv
  rw[l0P huo]at h
  exact h
 refine yU (xA (zn (zC (zq ?_))))
 refine zw ?_
 refine vO (xD rfl Tryz.func65 rfl rfl rfl (m0r m)) ?_
 refine zb ?_
 refine zW ?_
 refine zW ?_
 refine zW ?_
 refine zd ?_
 intro B5
 refine zd ?_
 intro B6
 refine za 1 ?_
 refine za 0 ?_
 refine zc (zH (zn (zC (zC (zq ?_)))))
 refine zb ?_
 refine y8 (zH (zn ?_))
 refine ym (fun h0=> ?_) (fun h0=> ?_)<;>(try simp only[vU]at h0)
 ·rw[show m0x c b m piv=(Msg.none,(a0Q m).2.2)from m0L h0]
  refine zC (zq ?_)
  refine zM ?_
  refine zb ?_
  refine za 2 ?_
  refine zc (zH (zn (y3 (xh ?_))))
  refine x9 zo zk (⟨rfl,rfl⟩)
 have hsl:Sp Tryz.prog 68 [b0n (a0Q m).2.1,b0n (a0Q m).1,s0X (u0O piv),roB c.sk,roB (b0z c b c.inp.snd piv),roB (k0G b.kid b.piv).1] [] (Is (h0O (m0x c b m piv))):=by
  rw[show m0x c b m piv=g0Y (a0Q m).2.1 (a0Q m).1 (u0O piv) c.sk (b0z c b c.inp.snd piv) (k0G b.kid b.piv).1 from m0K h0]
  exact m0k _ _ _ _ _ _ (o0r m) (by omega)
 refine yU (zn (zC (zq ?_)))
 refine zw ?_
 refine zw ?_
 refine zb ?_
 refine vO (xD rfl Tryz.func30 rfl rfl rfl hus) ?_
 refine zb ?_
 refine zW ?_
 refine zW ?_
 refine zc ?_
 refine zc (zH (zn (zC (zq ?_))))
 refine zt ?_
 refine zp ?_
 refine zt ?_
 refine zp ?_
 refine vO (xD rfl Tryz.func67 rfl rfl rfl (j0a _ _)) ?_
 refine zb ?_
 refine zW ?_
 refine zW ?_
 refine zc ?_
 refine zc (zH (zn (zC (zq ?_))))
 refine zI ?_
 refine zw ?_
 refine zb ?_
 refine zM ?_
 refine zb ?_
 refine zb ?_
 refine zb ?_
 refine vO (vw rfl Tryz.func68 rfl rfl rfl hsl) ?_
 refine zW ?_
 refine zW ?_
 refine za 2 ?_
 refine zc (zH (zn (y3 ?_)))
 refine AQ.retCT rfl rfl rfl mM (by rfl) rfl nS (⟨rfl,rfl⟩)
def h0d (os:List Opt)(n:Int):Nat→Nat
 |0=>0
 |i+1=>if n<(oat os i).num then h0d os n i else i+1
theorem m0M (os:List Opt)(n:Int): ∀i,h0d os n i≤i
 |0=>Nat.le_refl _
 |i+1=>by
  rw[h0d]
  split
  ·have:=m0M os n i;omega
  exact Nat.le_refl _
def c0H (os:List Opt)(o:Opt):List Opt:=os.take (h0d os o.num os.length)++([o]++os.drop (h0d os o.num os.length))
theorem a0X (os:List Opt)(o:Opt):(c0H os o).length=os.length+1:=by
 have:=m0M os o.num os.length
 simp only[c0H,cH,List.length_take,List.length_drop,cL,cE];omega
def b0L (l:List Opt):List Opt:=l.foldl c0H []
theorem f0x (l:List Opt)(o:Opt):b0L (l++[o])=c0H (b0L l) o:=by unfold b0L;rw[List.foldl_append];rfl
theorem e0k (l:List Opt):(b0L l).length=l.length:=by
 have: ∀(l:List Opt) (a:List Opt),(l.foldl c0H a).length=a.length+l.length:=by
  intro l
  induction l with
  |nil=>intro a;simp
  |cons o l ih=>intro a;rw[List.foldl_cons,ih,a0X,cL];omega
 have:=this l []
 rw[b0L,this];simp
def jo (o:Opt):Bool:=decide (cls o.num=2)&&decide (o.num≠9)
def g0a (os:List Opt):List Opt:=os.filter jo
theorem i0a (os:List Opt)(o:Opt):g0a (os++[o])=if cls o.num=2∧o.num≠9 then g0a os++[o]else g0a os:=by
 unfold g0a
 rw[List.filter_append]
 by_cases h:cls o.num=2∧o.num≠9
 ·rw[if_pos h];simp[jo,h.1,h.2]
 rw[if_neg h,List.filter_cons_of_neg (by unfold jo;simpa using h)];simp
theorem h0g (os:List Opt):(g0a os).length≤os.length:=List.length_filter_le _ _
def p0R (os:List Opt):Bool:=os.any fun o=>decide (cls o.num=2)
def c0h (outer inner:Msg):Msg×Int:=
 if rq inner.code=true∨rs inner.code=true then
  (if rq inner.code=rq outer.code∧rs inner.code=rs outer.code then
   (if p0R inner.opts=true then(Msg.none,4)else(⟨outer.ty,inner.code,outer.id,outer.tok,b0L (inner.opts++g0a outer.opts),inner.pay⟩,0))
  else(Msg.none,18))
 else(Msg.none,1)
abbrev v0d (r:Msg×Int):AV:= .tup [b0n r.1,.val (.int .i64 r.2)]
theorem h0L {r:Msg×Int}{a:Msg}{e:Int}(h:r=(a,e)):Is (v0d r) (.tup [b0n a,.val (.int .i64 e)]) []:=by rw[h];exact⟨rfl,rfl⟩
def l0F (m:Msg):Prop:=m.tok.length≤140737488355328∧m.pay.length≤140737488355328∧m.opts.length≤100000∧ ∀k,k<m.opts.length→(oat m.opts k).val.length≤140737488355328
theorem l0d (os:List Opt)(n:Nat):(a0C os).take (n*2)=a0C (os.take n):=f0B b0Q os n
theorem l0e (os:List Opt)(n:Nat):(a0C os).drop (n*2)=a0C (os.drop n):=f0D b0Q os n
theorem c0w {xs:List AV}(h:xs.all AV.one=true)(a b:Nat):((xs.drop a).take b).all AV.one=true:=by
 rw[List.all_eq_true]at h⊢
 exact fun x hx=>h x (List.mem_of_mem_drop (List.mem_of_mem_take hx))
theorem CoeL.of_eq {xs ys:List AV}(h:xs=ys):CoeL xs ys:=h▸CoeL.refl
theorem c0O {os:List Opt}{o:Opt}{p a b c:Nat}(hp:p=h0d os o.num os.length)(ha:a=p*2)(hb:b=(os.length-p)*2)(hc:c=p*2):
  (a0C os).take a++(.val (.int .i64 o.num)::roB o.val::((a0C os).drop c).take b)=a0C (c0H os o):=by
 subst ha
 subst hb
 subst hc
 rw[c0H,←hp,i0b,i0b,←l0d,←l0e,List.take_of_length_le (l:=(a0C os).drop (p*2)) (by rw[List.length_drop,m0X];omega)]
 rfl
theorem g0F {os:List Opt}{o:Opt}{p a:Nat}(hp:p=h0d os o.num os.length)(ha:a=p*2)(hb:p=os.length):
  (a0C os).take a++[.val (.int .i64 o.num),roB o.val]=a0C (c0H os o):=by
 have:=c0O (b:=0) (c:=p*2) hp ha (by omega) rfl
 simpa using this
set_option maxHeartbeats 8000000 in
theorem s0o (outer inner:Msg)(ho:l0F outer)(hi:l0F inner):Sp Tryz.prog 141 [b0n outer,b0n inner] [] (Is (v0d (c0h outer inner))):=by
 obtain⟨a1,a2,a3,a4⟩:=ho
 obtain⟨b1,b2,b3,b4⟩:=hi
 refine yH Tryz.func141 _ Tryz.ntmps141 (fun w0 R0=> ?_)
 refine zC (zq ?_)
 refine z9 ?_
 intro B1
 refine z9 ?_
 intro B2
 refine z7 ?_
 intro B3
 refine zc (zH (zn (zC (zC (zq ?_)))))
 refine zt ?_
 refine zp ?_
 refine vO (xD rfl Tryz.func152 rfl rfl rfl (g0W inner.code)) ?_
 refine xo ?_
 refine zb ?_
 refine zK ?_
 refine zT 20 ?_
 refine AO.opG rfl rfl rfl (fun hp=>wP 21 rfl (by exact hp) (xD rfl Tryz.func153 rfl rfl rfl (e0P inner.code))) ?_
 refine xf 22 ?_
 refine zN (zH (zn ?_))
 refine ym (fun h=> ?_) (fun h=> ?_)<;>(try simp only[vU]at h)
 ·have e:c0h outer inner=(Msg.none,1):=if_neg (by rw[h.1,h.2];simp)
  refine zC (zq ?_)
  refine zM ?_
  refine zm 0 ?_
  refine zc (zH (zn (y3 (xh ?_))))
  refine x9 (AQ.retCT rfl rfl rfl (by repeat(exact List.Mem.head _)) (by(dsimp only[List.set,List.append,cA,cN,a0s,a0r,a0u,a0e,a0v,AV.cells,List.map,List.map_cons,List.map_nil,List.take,List.drop,Nat.zero_add,Nat.add_zero,Nat.reduceAdd,Nat.reduceMul,Nat.zero_mul,Value.cells,List.toList_toArray,a0t,List.replicate,List.flatten,cP];done)) (by rfl) nS ⟨rfl,rfl⟩) zk (h0L e)
 have hc:rq inner.code=true∨rs inner.code=true:=by cases hq:rq inner.code<;>simp_all
 refine yU (zn (zC (zC ?_)))
 refine yo 16 ?_
 simp only[cT,cZ,cD,cO]
 refine yn ?_
 refine zO ?_
 refine vP (xD rfl Tryz.func152 rfl rfl rfl (g0W inner.code)) ?_
 refine yn ?_
 refine zO ?_
 refine vP (xD rfl Tryz.func152 rfl rfl rfl (g0W outer.code)) ?_
 refine vP (O.neqB rfl rfl rfl (by rfl)) ?_
 refine zE ?_
 refine wz ?_
 refine FA.opG rfl rfl rfl rfl (fun hp=>xz 34 rfl (by exact hp)) ?_
 refine FA.opG rfl rfl rfl rfl (fun hp=>wP 35 rfl (by exact hp) (xD rfl Tryz.func153 rfl rfl rfl (e0P inner.code))) ?_
 refine wz ?_
 refine FA.opG rfl rfl rfl rfl (fun hp=>xz 37 rfl (by exact hp)) ?_
 refine FA.opG rfl rfl rfl rfl (fun hp=>wP 38 rfl (by exact hp) (xD rfl Tryz.func153 rfl rfl rfl (e0P outer.code))) ?_
 refine FA.opG rfl rfl rfl rfl (fun hp=>wP 36 rfl (by exact hp) (wP 39 rfl (by exact hp) (O.neqB rfl rfl rfl (by rfl)))) ?_
 refine vP zL ?_
 refine vf ?_
 simp only[a0g,cN,cA,cP]
 refine zH (zn ?_)
 refine ym (fun hm=> ?_) (fun hm=> ?_)<;>(try simp only[vU]at hm)
 ·have e:c0h outer inner=(Msg.none,18):=by
   rw[c0h,if_pos hc,if_neg]
   rintro⟨k1,k2⟩
   rw[k1,k2]at hm
   simp at hm
  refine zC (zq ?_)
  refine zM ?_
  refine zm 0 ?_
  refine zc (zH (zn (y3 (xh ?_))))
  refine x9 (AQ.retCT rfl rfl rfl (by repeat(exact List.Mem.head _)) (by(dsimp only[List.set,List.append,cA,cN,a0s,a0r,a0u,a0e,a0v,AV.cells,List.map,List.map_cons,List.map_nil,List.take,List.drop,Nat.zero_add,Nat.add_zero,Nat.reduceAdd,Nat.reduceMul,Nat.zero_mul,Value.cells,List.toList_toArray,a0t,List.replicate,List.flatten,cP];done)) (by rfl) nS ⟨rfl,rfl⟩) zk (h0L e)
 have hm2:rq inner.code=rq outer.code∧rs inner.code=rs outer.code:=by simpa using hm
 refine yU (zn (zC ?_))
 refine yo 14 ?_
 simp only[cT,cZ,cD,cO]
 refine yn ?_
 refine zO ?_
 refine yn ?_
 refine zO ?_
 refine yn ?_
 refine zO ?_
 refine vJ ?_
 refine yn ?_
 refine zO ?_
 refine yn ?_
 refine zO ?_
 refine vJ ?_
 refine xN ?_
 refine FA.opN zY rfl rfl rfl rfl ?_
 refine vf ?_
 simp only[a0g,cN,cA,cP]
 rintro _ _ ⟨B4,rfl,rfl⟩
 simp only[cA,cN]
 refine zm 0 (zH (zn (zC (zq ?_))))
 refine zc (zH (zn (zC (zC (zq ?_)))))
 refine zt ?_
 refine zp ?_
 refine zZ ?_
 refine zb (zH (zn (xb ?_)))
 refine AW.g ?_
 refine G.nilRow 96 2 ?_
 refine AW.u ?_
 refine xZ [(2,_),(4,_),(6,_),(57,_),(58,_)] (fun nn E H=> ∃(k:Nat) (V:Value),(k≤inner.opts.length)∧(V.oneCell'=true)∧(p0R (inner.opts.take k)=false)∧nn=inner.opts.length-k∧E= [(7,.val V),(59,.val (.int .i64 (k:Int)))]∧H= [.row V 96 2 (inner.opts.take k).length (a0C (inner.opts.take k)),.blk B4 29 6 [.val (.int .i64 outer.ty),.val (.int .i64 inner.code),.val (.int .i64 outer.id),roB outer.tok,.val (.slice none 0 0),roB inner.pay],.blk B3 29 6 [.val (.int .i64 0),.val (.int .i64 0),.val (.int .i64 0),.val (.slice none 0 0),.val (.slice none 0 0),.val (.slice none 0 0)],.blk B1 29 6 [.val (.int .i64 outer.ty),.val (.int .i64 outer.code),.val (.int .i64 outer.id),roB outer.tok,roO outer.opts,roB outer.pay]]) _ (⟨0,_,by omega,rfl,rfl,rfl,rfl,rfl⟩) ?_
 rintro nn E H ⟨k,V,hk,hV,hb,rfl,rfl,rfl⟩
 dsimp only[cA,cN]
 have hlk:(inner.opts.take k).length=k:=by rw[List.length_take];omega
 refine zC (zq ?_)
 refine zR (zH (zn (zC ?_)))
 refine ym (fun h2=> ?_) (fun h2=> ?_)<;>(try simp only[vU]at h2)
 ·have hkk:k<inner.opts.length:=by omega
  have hv4:=b4 k hkk
  have hts:inner.opts.take (k+1)=inner.opts.take k++[oat inner.opts k]:=a0i Opt.none hkk
  refine yU (zn (zC (xb (zC (zq ?_)))))
  refine yf ?_
  refine yV ?_
  refine z7 ?_
  intro B5
  refine zm 0 (zH (zn (zC (zC (zq ?_)))))
  refine zt ?_
  refine zA ?_
  refine vO (xD rfl Tryz.func154 rfl rfl rfl (k0y _)) ?_
  refine yi (zH (zn ?_))
  refine ym (fun h3=> ?_) (fun h3=> ?_)<;>(try simp only[vU]at h3)
  ·have e:c0h outer inner=(Msg.none,4):=by
    rw[c0h,if_pos hc,if_pos hm2,if_pos]
    exact List.any_eq_true.2 ⟨oat inner.opts k,b0d _ hkk,by simpa using h3⟩
   refine zC (zq ?_)
   refine zM ?_
   refine zm 3 ?_
   refine zc (zH (zn (y3 (xh ?_))))
   refine wg (xh ?_)
   refine AQ.loopR ?_
   refine wg (xh ?_)
   refine x9 vN zk (h0L e)
  have hb':p0R (inner.opts.take (k+1))=false:=by
   rw[hts];unfold p0R at hb⊢;rw[List.any_append,hb];simp only[List.any_cons,List.any_nil,Bool.false_or,Bool.or_false];exact decide_eq_false h3
  refine yU (zn (zq ?_))
  refine zb ?_
  refine xL ?_
  refine vO (xD rfl Tryz.func155 rfl rfl rfl (i0v (oat inner.opts k) hv4)) ?_
  refine zU ?_
  intro B6
  refine AO.g ?_
  refine yr 0 71 ?_
  refine wH 71 ?_
  refine AO.u ?_
  dsimp only[List.eraseIdx]
  refine yW 1 ?_
  intro V7 hV7
  refine zc (zH (xA (zn (zq ?_))))
  refine zx ?_
  refine zb (zH ?_)
  refine zJ _ _ _ (by omega) (⟨k+1,_,by omega,‹_›,hb',rfl,rfl,by rw[hts,a0M,cH]⟩)
 obtain rfl:k=inner.opts.length:=by omega
 rw[List.take_length]at hb⊢
 have hnc: ¬p0R inner.opts=true:=by rw[hb];simp
 have e:c0h outer inner=(⟨outer.ty,inner.code,outer.id,outer.tok,b0L (inner.opts++g0a outer.opts),inner.pay⟩,0):=by rw[c0h,if_pos hc,if_pos hm2,if_neg hnc]
 refine wm ?_
 refine xY ?_
 refine wa ?_
 refine xq (zn (zC (zC (zq ?_))))
 refine zt ?_
 refine zp ?_
 refine zZ ?_
 refine zb (zH (zn (xb ?_)))
 refine zh [(4,_),(6,_),(75,_),(76,_)] (fun nn E H=> ∃(k:Nat) (V:Value),(k≤outer.opts.length)∧(V.oneCell'=true)∧nn=outer.opts.length-k∧E= [(7,.val V),(77,.val (.int .i64 (k:Int)))]∧H= [.row V 96 2 (inner.opts++g0a (outer.opts.take k)).length (a0C (inner.opts++g0a (outer.opts.take k))),.blk B4 29 6 [.val (.int .i64 outer.ty),.val (.int .i64 inner.code),.val (.int .i64 outer.id),roB outer.tok,.val (.slice none 0 0),roB inner.pay],.blk B3 29 6 [.val (.int .i64 0),.val (.int .i64 0),.val (.int .i64 0),.val (.slice none 0 0),.val (.slice none 0 0),.val (.slice none 0 0)]]) _ (⟨0,V,by omega,hV,rfl,rfl,by rw[show inner.opts++g0a (outer.opts.take 0)=inner.opts by simp[g0a]]⟩) ?_
 rintro nn E H ⟨k,V,hk,hV,rfl,rfl,rfl⟩
 dsimp only[cA,cN]
 have hl2:=h0g (outer.opts.take k)
 rw[List.length_take]at hl2
 have hl3:(inner.opts++g0a (outer.opts.take k)).length=inner.opts.length+(g0a (outer.opts.take k)).length:=List.length_append
 refine zC (zq ?_)
 refine zR (zH (zn (zC ?_)))
 refine ym (fun h4=> ?_) (fun h4=> ?_)<;>(try simp only[vU]at h4)
 ·have hkk:k<outer.opts.length:=by omega
  have hv4:=a4 k hkk
  have hsc:=i0a (outer.opts.take k) (oat outer.opts k)
  rw[←a0i Opt.none hkk]at hsc
  refine yU (zn (zC (xb (zC (zq ?_)))))
  refine yf ?_
  refine yV ?_
  refine z7 ?_
  intro B8
  refine zm 0 (zH (zn (zC (zq ?_))))
  refine zt ?_
  refine zA ?_
  refine vO (xD rfl Tryz.func154 rfl rfl rfl (k0y _)) ?_
  refine yi ?_
  refine zb ?_
  refine zK ?_
  refine zu 86 ?_
  refine xF 87 ?_
  refine zN (zH (zn ?_))
  refine ym (fun h5=> ?_) (fun h5=> ?_)<;>(try simp only[vU]at h5)
  ·rw[if_pos h5,]at hsc
   refine zq ?_
   refine zb ?_
   refine xL ?_
   refine vO (xD rfl Tryz.func155 rfl rfl rfl (i0v (oat outer.opts k) hv4)) ?_
   refine zU ?_
   intro B9
   refine AO.g ?_
   refine yr 0 93 ?_
   refine wH 93 ?_
   refine AO.u ?_
   dsimp only[List.eraseIdx]
   refine yW 1 ?_
   intro V10 hV10
   refine zc (zH (xA (zn (zq ?_))))
   refine zx ?_
   refine zb (zH ?_)
   refine zJ _ _ _ (by omega) (⟨k+1,_,by omega,‹_›,rfl,rfl,by rw[hsc,←List.append_assoc,a0M,List.length_append (bs:= [_])]⟩)
  rw[if_neg (fun hh=>hh.2 (h5 hh.1))]at hsc
  refine yU (xA (zn (zq ?_)))
  refine zx ?_
  refine zb (zH ?_)
  refine zJ _ _ _ (by omega) (⟨k+1,V,by omega,hV,rfl,rfl,by rw[hsc]⟩)
 obtain rfl:k=outer.opts.length:=by omega
 rw[List.take_length]at hl2 hl3⊢
 refine AW.g ?_
 refine yj 0 [7] ?_
 refine AW.u ?_
 try dsimp only[List.map,List.eraseIdx,cA,cN]
 refine wm ?_
 refine xY ?_
 refine wa ?_
 refine xq (zn (zC (zC (zq ?_))))
 refine zb ?_
 refine zZ ?_
 refine zb (zH (zn (xb ?_)))
 obtain⟨L,hL⟩: ∃L,L=inner.opts++g0a outer.opts:=⟨_,rfl⟩
 rw[←hL]at hl3 e⊢
 refine AW.g ?_
 refine G.nilRow 96 2 ?_
 refine AW.u ?_
 refine zh [(4,_),(6,_),(96,_),(97,_)] (fun nn E H=> ∃(k:Nat) (os:List Opt) (V:Value),(k≤L.length)∧(os=b0L (L.take k))∧(V.oneCell'=true)∧(os= []→V= .slice none 0 0)∧nn=L.length-k∧E= [(98,.val (.int .i64 (k:Int)))]∧H= [.row V 96 2 (os).length (a0C (os)),.blk B4 29 6 [.val (.int .i64 outer.ty),.val (.int .i64 inner.code),.val (.int .i64 outer.id),roB outer.tok,.val V,roB inner.pay],.blk B3 29 6 [.val (.int .i64 0),.val (.int .i64 0),.val (.int .i64 0),.val (.slice none 0 0),.val (.slice none 0 0),.val (.slice none 0 0)]]) _ (⟨0,[],_,by omega,rfl,rfl,fun _=>rfl,rfl,rfl,rfl⟩) ?_
 rintro nn E H ⟨k,os,V,hk,hos,hV,h0,rfl,rfl,rfl⟩
 dsimp only[cA,cN]
 have hosl:os.length=k:=by rw[hos,e0k,List.length_take];omega
 refine zC (zq ?_)
 refine zR (zH (zn (zC ?_)))
 refine ym (fun h6=> ?_) (fun h6=> ?_)<;>(try simp only[vU]at h6)
 ·have hkk:k<L.length:=by omega
  have hsc:b0L (L.take (k+1))=c0H os (oat L k):=by rw[a0i Opt.none hkk,f0x,hos]
  rcases Nat.eq_zero_or_pos os.length with hz|hz
  ·obtain rfl:os= []:=List.eq_nil_of_length_eq_zero hz
   obtain rfl:=h0 rfl
   refine yU (zn (zC (xb (zC (zq ?_)))))
   refine yf ?_
   refine yV ?_
   refine z7 ?_
   intro B11
   refine zm 0 (zH (zn (zC (zq ?_))))
   refine zt ?_
   refine zp ?_
   refine vO (O.lenV rfl rfl) ?_
   refine zc (zH (zn (zC (xb ?_))))
   refine zh [(4,_),(6,_),(13,_),(96,_),(97,_),(98,_)] (fun nn E H=> ∃(i:Nat),(i=0)∧i=nn∧E= [(14,.val (.int .i64 (i:Int)))]∧H= [.blk B11 96 2 [.val (.int .i64 (oat L k).num),roB (oat L k).val],.row (.slice none 0 0) 96 2 0 [],.blk B4 29 6 [.val (.int .i64 outer.ty),.val (.int .i64 inner.code),.val (.int .i64 outer.id),roB outer.tok,.val (.slice none 0 0),roB inner.pay],.blk B3 29 6 [.val (.int .i64 0),.val (.int .i64 0),.val (.int .i64 0),.val (.slice none 0 0),.val (.slice none 0 0),.val (.slice none 0 0)]]) _ (⟨0,rfl,rfl,rfl,rfl⟩) ?_
   rintro nn E H ⟨i,hi,rfl,rfl,rfl⟩
   dsimp only[cA,cN]
   subst hi
   refine zC (zC ?_)
   refine yo 14 ?_
   simp only[cT,cZ,cD,cO]
   refine zE ?_
   refine vP (O.gtr rfl rfl rfl (by exact c0p (by omega))) ?_
   refine zE ?_
   refine wz ?_
   refine FA.opG rfl rfl rfl rfl (fun hp=>xz 108 rfl (by exact hp)) ?_
   refine FA.opG rfl rfl rfl rfl (fun hp=>zf) ?_
   refine FA.opG rfl rfl rfl rfl (fun hp=>vI 110 rfl (by exact hp)) ?_
   refine FA.no rfl rfl rfl rfl ?_
   refine FA.no rfl rfl rfl rfl ?_
   refine FA.no rfl rfl rfl rfl ?_
   refine wz ?_
   refine FA.opG rfl rfl rfl rfl (fun hp=>wP 115 rfl (by exact hp) zl) ?_
   refine FA.no rfl rfl rfl rfl ?_
   refine vP (O.pickF rfl rfl rfl) ?_
   refine vf ?_
   simp only[a0g,cN,cA,cP]
   refine zH (zn ?_)
   refine ym (fun hq=> ?_) (fun hq=> ?_)
   ·simp at hq
   refine wm ?_
   refine xY ?_
   refine wa ?_
   refine xq (zn ?_)
   refine AW.regionS [[(0,false),(1,false),(2,false),(3,false),(4,false),(6,false),(7,false),(8,false),(9,false),(5,true),(10,true)],[(11,true)],[(12,false)],[(13,true)]] (by kernel_rfl) (by kernel_rfl) ?_
   refine AMS.go (by exact(b0b 1 rfl a0c)) ?_
   try dsimp only[List.eraseIdx]
   refine xl ?_
   refine yY ?_
   refine y0 ?_
   refine vQ rfl (O.sliceN rfl rfl rfl rfl ⟨by omega,by omega,by omega⟩) ?_
   refine xx ?_
   refine xl ?_
   refine yY ?_
   refine y0 ?_
   refine vQ rfl (O.sliceN rfl rfl rfl rfl ⟨by omega,by omega,by omega⟩) ?_
   refine xU _ (fun w0 R0=> ?_)
   refine zU ?_
   intro B12
   refine AO.g ?_
   refine xK B12 1 1 0 rfl rfl rfl (Nat.le_refl _) ?_
   refine AO.u ?_
   dsimp only[List.set]
   refine AM.ok ?_
   dsimp only[a0w]
   refine xU _ (fun w0 R0=> ?_)
   refine AO.append' (i:=0) rfl rfl rfl rfl (by rfl) (by rfl) rfl rfl rfl (by exact SrcA.nil TyD.ax) (by rfl) (by(unfold maxLen;omega)) (by omega) (by(dsimp only[List.set,List.append,cA,cN,a0s,a0r,a0u,a0e,a0v,AV.cells,List.map,List.map_cons,List.map_nil,List.take,List.drop,Nat.zero_add,Nat.add_zero,Nat.reduceAdd,Nat.reduceMul,Nat.zero_mul,Value.cells,List.toList_toArray,a0t,List.replicate,List.flatten,cP];done)) (fun _=>by(dsimp only[List.set];done)) ?_
   intro V13 hV13
   refine AM.ok ?_
   dsimp only[a0w]
   refine vn ?_
   try dsimp only[cA,cN]
   refine vp ?_
   try dsimp only[List.eraseIdx]
   refine xU _ (fun w0 R0=> ?_)
   refine AO.append' (i:=1) rfl rfl rfl rfl (by rfl) (by rfl) rfl rfl rfl (by exact SrcA.row TyD.ax (by repeat(exact List.Mem.head _)) (by rfl)) (by rfl) (by(unfold maxLen;omega)) (by omega) (by(dsimp only[List.set,List.append,cA,cN,a0s,a0r,a0u,a0e,a0v,AV.cells,List.map,List.map_cons,List.map_nil,List.take,List.drop,Nat.zero_add,Nat.add_zero,Nat.reduceAdd,Nat.reduceMul,Nat.zero_mul,Value.cells,List.toList_toArray,a0t,List.replicate,List.flatten,cP];done)) (fun _=>by(dsimp only[List.set];done)) ?_
   intro V14 hV14
   refine AM.ok ?_
   dsimp only[a0w]
   refine vn ?_
   try dsimp only[cA,cN]
   refine AMS.go (by exact a0c) ?_
   try dsimp only[List.eraseIdx]
   refine xl ?_
   refine vn ?_
   try dsimp only[cA,cN]
   refine AMS.go (by exact(by exact a0h 133 3 rfl rfl a0c)) ?_
   try dsimp only[List.eraseIdx]
   refine xU _ (fun w0 R0=> ?_)
   refine yq 0 (AM.okN ?_)
   dsimp only[a0w]
   refine vn ?_
   try dsimp only[cA,cN]
   refine AMS.nil (xA (zn (zq ?_)))
   refine zx ?_
   refine zb (zH ?_)
   refine AQ.g ?_
   refine G.coeRow 2 (c0H [] (oat L k)).length (a0C (c0H [] (oat L k))) rfl rfl (CoeL.of_eq rfl) ?_
   refine AQ.u ?_
   refine wF _ _ _ (by omega) (⟨k+1,c0H [] (oat L k),_,by omega,hsc.symm,‹_›,fun hh=>absurd (congrArg List.length hh) (by rw[a0X];simp),rfl,rfl,rfl⟩)
  refine AW.g ?_
  refine G.openRow 0 rfl hz (fun b' cap hc1 hc2 hxs hVe=> ?_)
  refine AW.u ?_
  subst hVe
  have hc3:=hc2
  unfold maxLen at hc3
  refine yU (zn (zC (xb (zC (zq ?_)))))
  refine yf ?_
  refine yV ?_
  refine z7 ?_
  intro B11
  refine zm 0 (zH (zn (zC (zq ?_))))
  refine zt ?_
  refine zp ?_
  refine vO (O.lenV rfl rfl) ?_
  refine zc (zH (zn (zC (xb ?_))))
  refine zh [(4,_),(6,_),(13,_),(96,_),(97,_),(98,_)] (fun nn E H=> ∃(i:Nat),(i≤os.length)∧(h0d os (oat L k).num i=h0d os (oat L k).num os.length)∧i=nn∧E= [(14,.val (.int .i64 (i:Int)))]∧H= [.blk B11 96 2 [.val (.int .i64 (oat L k).num),roB (oat L k).val],.blk b' 96 (cap*2) (a0C os),.blk B4 29 6 [.val (.int .i64 outer.ty),.val (.int .i64 inner.code),.val (.int .i64 outer.id),roB outer.tok,.val (.slice (some ⟨b',0,none⟩) os.length cap),roB inner.pay],.blk B3 29 6 [.val (.int .i64 0),.val (.int .i64 0),.val (.int .i64 0),.val (.slice none 0 0),.val (.slice none 0 0),.val (.slice none 0 0)]]) _ (⟨os.length,Nat.le_refl _,rfl,rfl,rfl,rfl⟩) ?_
  rintro nn E H ⟨i,hi,hp,rfl,rfl,rfl⟩
  dsimp only[cA,cN]
  rcases i with _|i
  ·refine zC (zC ?_)
   refine yo 14 ?_
   simp only[cT,cZ,cD,cO]
   refine zE ?_
   refine vP (O.gtr rfl rfl rfl (by exact c0p (by omega))) ?_
   refine zE ?_
   refine wz ?_
   refine FA.opG rfl rfl rfl rfl (fun hp=>xz 108 rfl (by exact hp)) ?_
   refine FA.opG rfl rfl rfl rfl (fun hp=>zf) ?_
   refine FA.opG rfl rfl rfl rfl (fun hp=>vI 110 rfl (by exact hp)) ?_
   refine FA.no rfl rfl rfl rfl ?_
   refine FA.no rfl rfl rfl rfl ?_
   refine FA.no rfl rfl rfl rfl ?_
   refine wz ?_
   refine FA.opG rfl rfl rfl rfl (fun hp=>wP 115 rfl (by exact hp) zl) ?_
   refine FA.no rfl rfl rfl rfl ?_
   refine vP (O.pickF rfl rfl rfl) ?_
   refine vf ?_
   simp only[a0g,cN,cA,cP]
   refine zH (zn ?_)
   refine ym (fun hq=> ?_) (fun hq=> ?_)
   ·simp at hq
   obtain⟨p,hp0⟩: ∃p:Nat,p=0:=⟨_,rfl⟩
   refine AW.g ?_
   refine G.re 14 (.val (.int .i64 (p:Int))) (by rw[hp0];rfl) ?_
   refine AW.u ?_
   have hpp:p=h0d os (oat L k).num os.length:=by rw[hp0,←hp];rfl
   have hpl:p<os.length:=by omega
   clear hp0 hp
   refine wm ?_
   refine xY ?_
   refine wa ?_
   refine xq (zn ?_)
   refine AW.regionS [[(0,false),(1,false),(2,false),(3,false),(4,false),(6,false),(7,false),(8,false),(9,false),(5,true),(10,true)],[(11,true)],[(12,false)],[(13,true)]] (by kernel_rfl) (by kernel_rfl) ?_
   refine AMS.go (by exact(b0b 1 rfl a0c)) ?_
   try dsimp only[List.eraseIdx]
   refine xl ?_
   refine yY ?_
   refine y0 ?_
   refine wV ?_
   refine xx ?_
   refine xl ?_
   refine yY ?_
   refine y0 ?_
   refine wV ?_
   refine xU _ (fun w0 R0=> ?_)
   refine zU ?_
   intro B12
   refine AO.g ?_
   refine xK B12 1 1 0 rfl rfl rfl (Nat.le_refl _) ?_
   refine AO.u ?_
   dsimp only[List.set]
   refine AM.ok ?_
   dsimp only[a0w]
   refine xU _ (fun w0 R0=> ?_)
   refine vc 0 ?_
   intro V13 hV13
   refine AM.ok ?_
   dsimp only[a0w]
   refine vn ?_
   try dsimp only[cA,cN]
   refine vp ?_
   try dsimp only[List.eraseIdx]
   refine xU _ (fun w0 R0=> ?_)
   refine AO.appendCut (i:=1) rfl rfl rfl rfl (by rfl) (by rfl) rfl rfl rfl (by omega) (by exact SrcA.row TyD.ax (by repeat(exact List.Mem.head _)) (by(simp;omega))) (by exact c0w (b0T _) _ _) (by(unfold maxLen;omega)) (by omega) ⟨by omega,by assumption⟩ (by(dsimp only[List.set,List.append,cA,cN,a0s,a0r,a0u,a0e,a0v,AV.cells,List.map,List.map_cons,List.map_nil,List.take,List.drop,Nat.zero_add,Nat.add_zero,Nat.reduceAdd,Nat.reduceMul,Nat.zero_mul,Value.cells,List.toList_toArray,a0t,List.replicate,List.flatten,cP];done)) (fun _=>by(dsimp only[List.set];done)) ?_
   intro V14 hV14
   refine AM.ok ?_
   dsimp only[a0w]
   refine vn ?_
   try dsimp only[cA,cN]
   refine AMS.go (by exact a0c) ?_
   try dsimp only[List.eraseIdx]
   refine xl ?_
   refine vn ?_
   try dsimp only[cA,cN]
   refine AMS.go (by exact(by exact a0h 133 3 rfl rfl a0c)) ?_
   try dsimp only[List.eraseIdx]
   refine xU _ (fun w0 R0=> ?_)
   refine yq 0 (AM.okN ?_)
   dsimp only[a0w]
   refine vn ?_
   try dsimp only[cA,cN]
   refine AMS.nil (xA (zn (zq ?_)))
   refine zx ?_
   refine zb (zH ?_)
   refine AQ.g ?_
   refine G.coeRow 2 (c0H os (oat L k)).length (a0C (c0H os (oat L k))) rfl (by rw[a0X];omega) (CoeL.of_eq (c0O hpp (by omega) (by omega) (by omega))) ?_
   refine AQ.u ?_
   refine wF _ _ _ (by omega) (⟨k+1,c0H os (oat L k),_,by omega,hsc.symm,‹_›,fun hh=>absurd (congrArg List.length hh) (by rw[a0X];simp),rfl,rfl,rfl⟩)
  refine zC (zC ?_)
  refine yo 14 ?_
  simp only[cT,cZ,cD,cO]
  refine zE ?_
  refine vP (O.gtr rfl rfl rfl (by exact n0X (by omega))) ?_
  refine zE ?_
  refine wz ?_
  refine FA.opG rfl rfl rfl rfl (fun hp=>xz 108 rfl (by exact hp)) ?_
  refine FA.opG rfl rfl rfl rfl (fun hp=>zf) ?_
  refine FA.opG rfl rfl rfl rfl (fun hp=>vI 110 rfl (by exact hp)) ?_
  refine FA.opG rfl rfl rfl rfl (fun hp=>wP 109 rfl (by exact hp) (wP 111 rfl (by exact hp) wn)) ?_
  refine FA.opG rfl rfl rfl rfl (fun hp=>wP 112 rfl (by exact hp) zv) ?_
  refine FA.opG rfl rfl rfl rfl (fun hp=>wP 113 rfl (by exact hp) (O.load rfl rfl mM (by exact s0r (k:=i) (by omega) (by omega)))) ?_
  refine wz ?_
  refine FA.opG rfl rfl rfl rfl (fun hp=>wP 115 rfl (by exact hp) zl) ?_
  refine FA.opG rfl rfl rfl rfl (fun hp=>wP 114 rfl (by exact hp) (wP 116 rfl (by exact hp) yI)) ?_
  refine vP yc ?_
  refine vf ?_
  simp only[a0g,cN,cA,cP]
  refine zH (zn ?_)
  refine ym (fun hq=> ?_) (fun hq=> ?_)<;>(try simp only[vU]at hq)
  ·refine yU (zn (xb (zq ?_)))
   refine zb ?_
   refine yG ?_
   refine zc (zH (xA ?_))
   rw[show((i+1:Nat):Int)-1=(i:Int) by omega]
   refine zr _ _ _ (by omega) (⟨i,by omega,by rw[←hp,h0d,if_pos hq.2],rfl,rfl,rfl⟩)
  have hpp:i+1=h0d os (oat L k).num os.length:=by rw[←hp,h0d,if_neg (by have:=hq trivial;omega)]
  clear hp
  rcases Nat.lt_or_ge (i+1) os.length with hlt|hge
  ·refine wm ?_
   refine xY ?_
   refine wa ?_
   refine xq (zn ?_)
   refine AW.regionS [[(0,false),(1,false),(2,false),(3,false),(4,false),(6,false),(7,false),(8,false),(9,false),(5,true),(10,true)],[(11,true)],[(12,false)],[(13,true)]] (by kernel_rfl) (by kernel_rfl) ?_
   refine AMS.go (by exact(b0b 1 rfl a0c)) ?_
   try dsimp only[List.eraseIdx]
   refine xl ?_
   refine yY ?_
   refine y0 ?_
   refine wV ?_
   refine xx ?_
   refine xl ?_
   refine yY ?_
   refine y0 ?_
   refine wV ?_
   refine xU _ (fun w0 R0=> ?_)
   refine zU ?_
   intro B12
   refine AO.g ?_
   refine xK B12 1 1 0 rfl rfl rfl (Nat.le_refl _) ?_
   refine AO.u ?_
   dsimp only[List.set]
   refine AM.ok ?_
   dsimp only[a0w]
   refine xU _ (fun w0 R0=> ?_)
   refine vc 0 ?_
   intro V13 hV13
   refine AM.ok ?_
   dsimp only[a0w]
   refine vn ?_
   try dsimp only[cA,cN]
   refine vp ?_
   try dsimp only[List.eraseIdx]
   refine xU _ (fun w0 R0=> ?_)
   refine AO.appendCut (i:=1) rfl rfl rfl rfl (by rfl) (by rfl) rfl rfl rfl (by omega) (by exact SrcA.row TyD.ax (by repeat(exact List.Mem.head _)) (by(simp;omega))) (by exact c0w (b0T _) _ _) (by(unfold maxLen;omega)) (by omega) ⟨by omega,by assumption⟩ (by(dsimp only[List.set,List.append,cA,cN,a0s,a0r,a0u,a0e,a0v,AV.cells,List.map,List.map_cons,List.map_nil,List.take,List.drop,Nat.zero_add,Nat.add_zero,Nat.reduceAdd,Nat.reduceMul,Nat.zero_mul,Value.cells,List.toList_toArray,a0t,List.replicate,List.flatten,cP];done)) (fun _=>by(dsimp only[List.set];done)) ?_
   intro V14 hV14
   refine AM.ok ?_
   dsimp only[a0w]
   refine vn ?_
   try dsimp only[cA,cN]
   refine AMS.go (by exact a0c) ?_
   try dsimp only[List.eraseIdx]
   refine xl ?_
   refine vn ?_
   try dsimp only[cA,cN]
   refine AMS.go (by exact(by exact a0h 133 3 rfl rfl a0c)) ?_
   try dsimp only[List.eraseIdx]
   refine xU _ (fun w0 R0=> ?_)
   refine yq 0 (AM.okN ?_)
   dsimp only[a0w]
   refine vn ?_
   try dsimp only[cA,cN]
   refine AMS.nil (xA (zn (zq ?_)))
   refine zx ?_
   refine zb (zH ?_)
   refine AQ.g ?_
   refine G.coeRow 2 (c0H os (oat L k)).length (a0C (c0H os (oat L k))) rfl (by rw[a0X];omega) (CoeL.of_eq (c0O hpp (by omega) (by omega) (by omega))) ?_
   refine AQ.u ?_
   refine wF _ _ _ (by omega) (⟨k+1,c0H os (oat L k),_,by omega,hsc.symm,‹_›,fun hh=>absurd (congrArg List.length hh) (by rw[a0X];simp),rfl,rfl,rfl⟩)
  refine wm ?_
  refine xY ?_
  refine wa ?_
  refine xq (zn ?_)
  refine AW.regionS [[(0,false),(1,false),(2,false),(3,false),(4,false),(6,false),(7,false),(8,false),(9,false),(5,true),(10,true)],[(11,true)],[(12,false)],[(13,true)]] (by kernel_rfl) (by kernel_rfl) ?_
  refine AMS.go (by exact(b0b 1 rfl a0c)) ?_
  try dsimp only[List.eraseIdx]
  refine xl ?_
  refine yY ?_
  refine y0 ?_
  refine wV ?_
  refine xx ?_
  refine xl ?_
  refine yY ?_
  refine y0 ?_
  refine vQ rfl (O.sliceV0 rfl rfl rfl rfl ⟨by omega,by omega,by omega⟩ (by omega) (by assumption)) ?_
  refine xU _ (fun w0 R0=> ?_)
  refine zU ?_
  intro B12
  refine AO.g ?_
  refine xK B12 1 1 0 rfl rfl rfl (Nat.le_refl _) ?_
  refine AO.u ?_
  dsimp only[List.set]
  refine AM.ok ?_
  dsimp only[a0w]
  refine xU _ (fun w0 R0=> ?_)
  refine yW 0 ?_
  intro V13 hV13
  refine AM.ok ?_
  dsimp only[a0w]
  refine vn ?_
  try dsimp only[cA,cN]
  refine vp ?_
  try dsimp only[List.eraseIdx]
  refine xU _ (fun w0 R0=> ?_)
  refine AO.appendCut (i:=1) rfl rfl rfl rfl (by rfl) (by rfl) rfl rfl rfl (by omega) (by exact SrcA.row TyD.ax (by repeat(exact List.Mem.head _)) (by rfl)) (by rfl) (by(unfold maxLen;omega)) (by omega) ⟨by omega,by assumption⟩ (by(dsimp only[List.set,List.append,cA,cN,a0s,a0r,a0u,a0e,a0v,AV.cells,List.map,List.map_cons,List.map_nil,List.take,List.drop,Nat.zero_add,Nat.add_zero,Nat.reduceAdd,Nat.reduceMul,Nat.zero_mul,Value.cells,List.toList_toArray,a0t,List.replicate,List.flatten,cP];done)) (fun _=>by(dsimp only[List.set];done)) ?_
  intro V14 hV14
  refine AM.ok ?_
  dsimp only[a0w]
  refine vn ?_
  try dsimp only[cA,cN]
  refine AMS.go (by exact a0c) ?_
  try dsimp only[List.eraseIdx]
  refine xl ?_
  refine vn ?_
  try dsimp only[cA,cN]
  refine AMS.go (by exact(by exact a0h 133 3 rfl rfl a0c)) ?_
  try dsimp only[List.eraseIdx]
  refine xU _ (fun w0 R0=> ?_)
  refine yq 0 (AM.okN ?_)
  dsimp only[a0w]
  refine vn ?_
  try dsimp only[cA,cN]
  refine AMS.nil (xA (zn (zq ?_)))
  refine zx ?_
  refine zb (zH ?_)
  refine AQ.g ?_
  refine G.coeRow 2 (c0H os (oat L k)).length (a0C (c0H os (oat L k))) rfl (by rw[a0X];omega) (CoeL.of_eq (g0F hpp (by omega) (by omega))) ?_
  refine AQ.u ?_
  refine wF _ _ _ (by omega) (⟨k+1,c0H os (oat L k),_,by omega,hsc.symm,‹_›,fun hh=>absurd (congrArg List.length hh) (by rw[a0X];simp),rfl,rfl,rfl⟩)
  skip
 have hoe:os=b0L L:=by rw[hos,List.take_of_length_le (by omega)]
 subst hoe
 refine AW.g ?_
 refine G.freezeCell 0 0 4 rfl rfl rfl ?_
 refine AW.u ?_
 refine wm ?_
 refine xY ?_
 refine wa ?_
 refine xq (zn (zC (zq ?_)))
 refine xL ?_
 refine zm 1 ?_
 refine zc (zH (zn (y3 ?_)))
 refine x9 vN yQ (h0L e)
theorem o0F {c:Int}(h:rq c=true):rs c=false:=by
 unfold rq at h
 unfold rs
 simp only[Bool.and_eq_true,cQ]at h
 exact decide_eq_false (by omega)
set_option maxHeartbeats 8000000 in
theorem o0M (outer inner:Msg)(ho:l0F outer)(hi:l0F inner):Sp Tryz.prog 175 [b0n outer,b0n inner] [] (Is (v0d (c0h outer inner))):=by
 obtain⟨a1,a2,a3,a4⟩:=ho
 obtain⟨b1,b2,b3,b4⟩:=hi
 refine yH Tryz.func175 _ Tryz.ntmps175 (fun w0 R0=> ?_)
 refine zC (zq ?_)
 refine z9 ?_
 intro B1
 refine z9 ?_
 intro B2
 refine zd ?_
 intro B3
 refine zc (zH (zn (zC (zC (zq ?_)))))
 refine zt ?_
 refine zp ?_
 refine vO (xD rfl Tryz.func63 rfl rfl rfl (b0M inner.code)) ?_
 refine xo ?_
 refine zb ?_
 refine zK ?_
 refine zT 22 ?_
 refine AO.opG rfl rfl rfl (fun hp=>wP 23 rfl (by exact hp) (xD rfl Tryz.func83 rfl rfl rfl (b0G inner.code))) ?_
 refine xf 24 ?_
 refine zN (zH (zn ?_))
 refine ym (fun h=> ?_) (fun h=> ?_)<;>(try simp only[vU]at h)
 ·have e:c0h outer inner=(Msg.none,1):=if_neg (by rw[h.1,h.2];simp)
  refine zC (zq ?_)
  refine zM ?_
  refine za 0 ?_
  refine zc (zH (zn (y3 (xh ?_))))
  refine x9 zP zk (h0L e)
 have hc:rq inner.code=true∨rs inner.code=true:=by cases hq:rq inner.code<;>simp_all
 refine yU (zn (zC (zC (zq ?_))))
 refine zt ?_
 refine zp ?_
 refine vO (xD rfl Tryz.func63 rfl rfl rfl (b0M inner.code)) ?_
 refine zb ?_
 refine zK ?_
 refine zT 32 ?_
 refine AO.opG rfl rfl rfl (fun hp=>wP 33 rfl (by exact hp) (xD rfl Tryz.func63 rfl rfl rfl (b0M outer.code))) ?_
 refine xf 34 ?_
 refine zN ?_
 refine zb ?_
 refine zK ?_
 refine zT 38 ?_
 refine AO.opG rfl rfl rfl (fun hp=>wP 39 rfl (by exact hp) (xD rfl Tryz.func83 rfl rfl rfl (b0G inner.code))) ?_
 refine wG 40 ?_
 refine zK ?_
 refine zT 42 ?_
 refine AO.opG rfl rfl rfl (fun hp=>wP 43 rfl (by exact hp) (xD rfl Tryz.func83 rfl rfl rfl (b0G outer.code))) ?_
 refine xf 44 ?_
 refine wI 41 ?_
 refine zG (zH (zn ?_))
 refine ym (fun hm=> ?_) (fun hm=> ?_)<;>(try simp only[vU]at hm)
 ·have e:c0h outer inner=(Msg.none,18):=by
   rw[c0h,if_pos hc,if_neg]
   rintro⟨k1,k2⟩
   rw[k1,k2]at hm
   simp at hm
  refine zC (zq ?_)
  refine zM ?_
  refine za 0 ?_
  refine zc (zH (zn (y3 (xh ?_))))
  refine x9 zP zk (h0L e)
 have hm2:rq inner.code=rq outer.code∧rs inner.code=rs outer.code:=by
  rcases hc with hc|hc
  ·have h1:=hm.1 hc
   rw[hc,h1,o0F hc,o0F h1];exact⟨rfl,rfl⟩
  have h1:=hm.2 hc
  have h2:rq inner.code=false:=by cases hq:rq inner.code;rfl;rw[o0F hq]at hc;cases hc
  have h3:rq outer.code=false:=by cases hq:rq outer.code;rfl;rw[o0F hq]at h1;cases h1
  rw[hc,h1,h2,h3];exact⟨rfl,rfl⟩
 refine yU (zn (zC ?_))
 refine yo 14 ?_
 simp only[cT,cZ,cD,cO]
 refine yn ?_
 refine zO ?_
 refine yn ?_
 refine zO ?_
 refine yn ?_
 refine zO ?_
 refine vP (xD rfl Tryz.func69 rfl rfl rfl (a0o _ (by assumption))) ?_
 refine yn ?_
 refine zO ?_
 refine yn ?_
 refine zO ?_
 refine vP (xD rfl Tryz.func69 rfl rfl rfl (a0o _ (by assumption))) ?_
 refine xN ?_
 refine yS ?_
 refine vf ?_
 simp only[a0g,cN,cA,cP]
 rintro _ _ ⟨B4,rfl,rfl⟩
 simp only[cA,cN]
 refine za 0 (zH (zn (zC (zq ?_))))
 refine zc (zH (zn (zC (zC (zq ?_)))))
 refine zt ?_
 refine zp ?_
 refine zZ ?_
 refine zb (zH (zn (xb ?_)))
 refine AW.g ?_
 refine G.nilRow 96 2 ?_
 refine AW.u ?_
 refine xZ [(2,_),(4,_),(6,_),(63,_),(64,_)] (fun nn E H=> ∃(k:Nat) (V:Value),(k≤inner.opts.length)∧(V.oneCell'=true)∧(p0R (inner.opts.take k)=false)∧nn=inner.opts.length-k∧E= [(7,.val V),(65,.val (.int .i64 (k:Int)))]∧H= [.row V 96 2 (inner.opts.take k).length (a0C (inner.opts.take k)),.blk B4 29 6 [.val (.int .i64 outer.ty),.val (.int .i64 inner.code),.val (.int .i64 outer.id),roB outer.tok,.val (.slice none 0 0),roB inner.pay],.blk B3 29 6 [.val (.int .i64 0),.val (.int .i64 0),.val (.int .i64 0),.val (.slice none 0 0),.val (.slice none 0 0),.val (.slice none 0 0)],.blk B1 29 6 [.val (.int .i64 outer.ty),.val (.int .i64 outer.code),.val (.int .i64 outer.id),roB outer.tok,roO outer.opts,roB outer.pay]]) _ (⟨0,_,by omega,rfl,rfl,rfl,rfl,rfl⟩) ?_
 rintro nn E H ⟨k,V,hk,hV,hb,rfl,rfl,rfl⟩
 dsimp only[cA,cN]
 have hlk:(inner.opts.take k).length=k:=by rw[List.length_take];omega
 refine zC (zq ?_)
 refine zR (zH (zn (zC ?_)))
 refine ym (fun h2=> ?_) (fun h2=> ?_)<;>(try simp only[vU]at h2)
 ·have hkk:k<inner.opts.length:=by omega
  have hv4:=b4 k hkk
  have hts:inner.opts.take (k+1)=inner.opts.take k++[oat inner.opts k]:=a0i Opt.none hkk
  refine yU (zn (zC (xb (zC (zq ?_)))))
  refine yf ?_
  refine yV ?_
  refine zd ?_
  intro B5
  refine za 0 (zH (zn (zC (zC (zq ?_)))))
  refine zt ?_
  refine zA ?_
  refine vO (xD rfl Tryz.func121 rfl rfl rfl (f0q _)) ?_
  refine yi (zH (zn ?_))
  refine ym (fun h3=> ?_) (fun h3=> ?_)<;>(try simp only[vU]at h3)
  ·have e:c0h outer inner=(Msg.none,4):=by
    rw[c0h,if_pos hc,if_pos hm2,if_pos]
    exact List.any_eq_true.2 ⟨oat inner.opts k,b0d _ hkk,by simpa using h3⟩
   refine zC (zq ?_)
   refine zM ?_
   refine za 3 ?_
   refine zc (zH (zn (y3 (xh ?_))))
   refine wg (xh ?_)
   refine AQ.loopR ?_
   refine wg (xh ?_)
   refine x9 zo zk (h0L e)
  have hb':p0R (inner.opts.take (k+1))=false:=by
   rw[hts];unfold p0R at hb⊢;rw[List.any_append,hb];simp only[List.any_cons,List.any_nil,Bool.false_or,Bool.or_false];exact decide_eq_false h3
  refine yU (zn (zq ?_))
  refine zb ?_
  refine zI ?_
  refine zU ?_
  intro B6
  refine AO.g ?_
  refine yr 0 76 ?_
  refine wH 76 ?_
  refine AO.u ?_
  dsimp only[List.eraseIdx]
  refine zB 1 ?_
  intro V7 hV7
  refine zc (zH (xA (zn (zq ?_))))
  refine zx ?_
  refine zb (zH ?_)
  refine zJ _ _ _ (by omega) (⟨k+1,_,by omega,‹_›,hb',rfl,rfl,by rw[hts,a0M,cH]⟩)
 obtain rfl:k=inner.opts.length:=by omega
 rw[List.take_length]at hb⊢
 have hnc: ¬p0R inner.opts=true:=by rw[hb];simp
 have e:c0h outer inner=(⟨outer.ty,inner.code,outer.id,outer.tok,b0L (inner.opts++g0a outer.opts),inner.pay⟩,0):=by rw[c0h,if_pos hc,if_pos hm2,if_neg hnc]
 refine wm ?_
 refine xY ?_
 refine wa ?_
 refine xq (zn (zC (zC (zq ?_))))
 refine zt ?_
 refine zp ?_
 refine zZ ?_
 refine zb (zH (zn (xb ?_)))
 refine zh [(4,_),(6,_),(80,_),(81,_)] (fun nn E H=> ∃(k:Nat) (V:Value),(k≤outer.opts.length)∧(V.oneCell'=true)∧nn=outer.opts.length-k∧E= [(7,.val V),(82,.val (.int .i64 (k:Int)))]∧H= [.row V 96 2 (inner.opts++g0a (outer.opts.take k)).length (a0C (inner.opts++g0a (outer.opts.take k))),.blk B4 29 6 [.val (.int .i64 outer.ty),.val (.int .i64 inner.code),.val (.int .i64 outer.id),roB outer.tok,.val (.slice none 0 0),roB inner.pay],.blk B3 29 6 [.val (.int .i64 0),.val (.int .i64 0),.val (.int .i64 0),.val (.slice none 0 0),.val (.slice none 0 0),.val (.slice none 0 0)]]) _ (⟨0,V,by omega,hV,rfl,rfl,by rw[show inner.opts++g0a (outer.opts.take 0)=inner.opts by simp[g0a]]⟩) ?_
 rintro nn E H ⟨k,V,hk,hV,rfl,rfl,rfl⟩
 dsimp only[cA,cN]
 have hl2:=h0g (outer.opts.take k)
 rw[List.length_take]at hl2
 have hl3:(inner.opts++g0a (outer.opts.take k)).length=inner.opts.length+(g0a (outer.opts.take k)).length:=List.length_append
 refine zC (zq ?_)
 refine zR (zH (zn (zC ?_)))
 refine ym (fun h4=> ?_) (fun h4=> ?_)<;>(try simp only[vU]at h4)
 ·have hkk:k<outer.opts.length:=by omega
  have hv4:=a4 k hkk
  have hsc:=i0a (outer.opts.take k) (oat outer.opts k)
  rw[←a0i Opt.none hkk]at hsc
  refine yU (zn (zC (xb (zC (zq ?_)))))
  refine yf ?_
  refine yV ?_
  refine zd ?_
  intro B8
  refine za 0 (zH (zn (zC (zq ?_))))
  refine zt ?_
  refine zA ?_
  refine vO (xD rfl Tryz.func121 rfl rfl rfl (f0q _)) ?_
  refine yi ?_
  refine zb ?_
  refine zK ?_
  refine zu 91 ?_
  refine xF 92 ?_
  refine zN (zH (zn ?_))
  refine ym (fun h5=> ?_) (fun h5=> ?_)<;>(try simp only[vU]at h5)
  ·rw[if_pos h5,]at hsc
   refine zq ?_
   refine zb ?_
   refine zI ?_
   refine zU ?_
   intro B9
   refine AO.g ?_
   refine yr 0 97 ?_
   refine wH 97 ?_
   refine AO.u ?_
   dsimp only[List.eraseIdx]
   refine zB 1 ?_
   intro V10 hV10
   refine zc (zH (xA (zn (zq ?_))))
   refine zx ?_
   refine zb (zH ?_)
   refine zJ _ _ _ (by omega) (⟨k+1,_,by omega,‹_›,rfl,rfl,by rw[hsc,←List.append_assoc,a0M,List.length_append (bs:= [_])]⟩)
  rw[if_neg (fun hh=>hh.2 (h5 hh.1))]at hsc
  refine yU (xA (zn (zq ?_)))
  refine zx ?_
  refine zb (zH ?_)
  refine zJ _ _ _ (by omega) (⟨k+1,V,by omega,hV,rfl,rfl,by rw[hsc]⟩)
 obtain rfl:k=outer.opts.length:=by omega
 rw[List.take_length]at hl2 hl3⊢
 refine AW.g ?_
 refine yj 0 [7] ?_
 refine AW.u ?_
 try dsimp only[List.map,List.eraseIdx,cA,cN]
 refine wm ?_
 refine xY ?_
 refine wa ?_
 refine xq (zn (zC (zC (zq ?_))))
 refine zb ?_
 refine zZ ?_
 refine zb (zH (zn (xb ?_)))
 obtain⟨L,hL⟩: ∃L,L=inner.opts++g0a outer.opts:=⟨_,rfl⟩
 have hLv: ∀o∈L,o.val.length≤140737488355328:=fun o hoL=>by
  rw[hL]at hoL
  rcases List.mem_append.1 hoL with hoL|hoL
  ·obtain⟨j,hj,rfl⟩:=List.getElem_of_mem hoL
   have:=b4 j hj
   simpa[hj]using this
  obtain⟨j,hj,rfl⟩:=List.getElem_of_mem (List.mem_filter.1 hoL).1
  have:=a4 j hj
  simpa[hj]using this
 rw[←hL]at hl3 e⊢
 refine AW.g ?_
 refine G.nilRow 96 2 ?_
 refine AW.u ?_
 refine zh [(4,_),(6,_),(100,_),(101,_)] (fun nn E H=> ∃(k:Nat) (os:List Opt) (V:Value),(k≤L.length)∧(os=b0L (L.take k))∧(V.oneCell'=true)∧(os= []→V= .slice none 0 0)∧nn=L.length-k∧E= [(102,.val (.int .i64 (k:Int)))]∧H= [.row V 96 2 (os).length (a0C (os)),.blk B4 29 6 [.val (.int .i64 outer.ty),.val (.int .i64 inner.code),.val (.int .i64 outer.id),roB outer.tok,.val V,roB inner.pay],.blk B3 29 6 [.val (.int .i64 0),.val (.int .i64 0),.val (.int .i64 0),.val (.slice none 0 0),.val (.slice none 0 0),.val (.slice none 0 0)]]) _ (⟨0,[],_,by omega,rfl,rfl,fun _=>rfl,rfl,rfl,rfl⟩) ?_
 rintro nn E H ⟨k,os,V,hk,hos,hV,h0,rfl,rfl,rfl⟩
 dsimp only[cA,cN]
 have hosl:os.length=k:=by rw[hos,e0k,List.length_take];omega
 refine zC (zq ?_)
 refine zR (zH (zn (zC ?_)))
 refine ym (fun h6=> ?_) (fun h6=> ?_)<;>(try simp only[vU]at h6)
 ·have hkk:k<L.length:=by omega
  have hvL:(oat L k).val.length≤140737488355328:=hLv _ (b0d _ hkk)
  have hsc:b0L (L.take (k+1))=c0H os (oat L k):=by rw[a0i Opt.none hkk,f0x,hos]
  rcases Nat.eq_zero_or_pos os.length with hz|hz
  ·obtain rfl:os= []:=List.eq_nil_of_length_eq_zero hz
   obtain rfl:=h0 rfl
   refine yU (zn (zC (xb (zC (zq ?_)))))
   refine yf ?_
   refine yV ?_
   refine zd ?_
   intro B11
   refine za 0 (zH (zn (zC ?_)))
   refine yo 7 ?_
   simp only[cT,cZ,cD,cO]
   refine yn ?_
   refine yM ?_
   refine yn ?_
   refine yM ?_
   refine vP (xD rfl Tryz.func69 rfl rfl rfl (a0o _ (by assumption))) ?_
   refine xN ?_
   refine yS ?_
   refine vf ?_
   simp only[a0g,cN,cA,cP]
   rintro _ _ ⟨B12,rfl,rfl⟩
   simp only[cA,cN]
   refine za 0 (zH (zn (zC (zq ?_))))
   refine zt ?_
   refine zp ?_
   refine vO (O.lenV rfl rfl) ?_
   refine zc (zH (zn (zC (xb ?_))))
   refine zh [(4,_),(6,_),(13,_),(14,_),(100,_),(101,_),(102,_)] (fun nn E H=> ∃(i:Nat),(i=0)∧i=nn∧E= [(15,.val (.int .i64 (i:Int)))]∧H= [.blk B12 96 2 [.val (.int .i64 (oat L k).num),roB (oat L k).val],.blk B11 96 2 [.val (.int .i64 (oat L k).num),roB (oat L k).val],.row (.slice none 0 0) 96 2 0 [],.blk B4 29 6 [.val (.int .i64 outer.ty),.val (.int .i64 inner.code),.val (.int .i64 outer.id),roB outer.tok,.val (.slice none 0 0),roB inner.pay],.blk B3 29 6 [.val (.int .i64 0),.val (.int .i64 0),.val (.int .i64 0),.val (.slice none 0 0),.val (.slice none 0 0),.val (.slice none 0 0)]]) _ (⟨0,rfl,rfl,rfl,rfl⟩) ?_
   rintro nn E H ⟨i,hi,rfl,rfl,rfl⟩
   dsimp only[cA,cN]
   subst hi
   refine zC (zC ?_)
   refine yo 14 ?_
   simp only[cT,cZ,cD,cO]
   refine zE ?_
   refine vP (O.gtr rfl rfl rfl (by exact c0p (by omega))) ?_
   refine zE ?_
   refine wz ?_
   refine FA.opG rfl rfl rfl rfl (fun hp=>xz 118 rfl (by exact hp)) ?_
   refine FA.opG rfl rfl rfl rfl (fun hp=>zf) ?_
   refine FA.opG rfl rfl rfl rfl (fun hp=>vI 120 rfl (by exact hp)) ?_
   refine FA.no rfl rfl rfl rfl ?_
   refine FA.no rfl rfl rfl rfl ?_
   refine FA.no rfl rfl rfl rfl ?_
   refine wz ?_
   refine FA.opG rfl rfl rfl rfl (fun hp=>xz 125 rfl (by exact hp)) ?_
   refine FA.no rfl rfl rfl rfl ?_
   refine vP (O.pickF rfl rfl rfl) ?_
   refine vf ?_
   simp only[a0g,cN,cA,cP]
   refine zH (zn ?_)
   refine ym (fun hq=> ?_) (fun hq=> ?_)
   ·simp at hq
   refine wm ?_
   refine xY ?_
   refine wa ?_
   refine xq (zn (zC (zq ?_)))
   refine zt ?_
   refine zp ?_
   refine zb ?_
   refine vO (O.sliceN rfl rfl rfl rfl ⟨by omega,by omega,by omega⟩) ?_
   refine vS (O.appendNil rfl (by rfl) (by rfl) rfl rfl (by exact SrcA.nil TyD.ax) (by rfl) (by(unfold maxLen;omega)) (by omega)) ?_
   intro V13 hV13
   refine zc (zH (zn ?_))
   refine AW.regionS [[(0,false),(1,false),(2,false),(3,false),(4,false),(5,false),(7,false),(6,true)],[(8,true)],[(9,false)],[(10,true)]] (by kernel_rfl) (by kernel_rfl) ?_
   refine AMS.go (by exact(b0b 3 rfl a0c)) ?_
   try dsimp only[List.eraseIdx]
   refine xl ?_
   refine yY ?_
   refine y0 ?_
   refine vQ rfl (O.sliceN rfl rfl rfl rfl ⟨by omega,by omega,by omega⟩) ?_
   refine zV ?_
   refine xp ?_
   refine y0 ?_
   refine xU _ (fun w0 R0=> ?_)
   refine zB 0 ?_
   intro V14 hV14
   refine AM.ok ?_
   dsimp only[a0w]
   refine vn ?_
   try dsimp only[cA,cN]
   refine vp ?_
   try dsimp only[List.eraseIdx]
   refine xU _ (fun w0 R0=> ?_)
   refine AO.append' (i:=0) rfl rfl rfl rfl (by rfl) (by rfl) rfl rfl rfl (by exact SrcA.row TyD.ax mM (by rfl)) (by rfl) (by(unfold maxLen;omega)) (by omega) (by(dsimp only[List.set,cA,cN,List.take,List.drop];done)) (fun _=>by(dsimp only[List.set];done)) ?_
   intro V15 hV15
   refine AM.ok ?_
   dsimp only[a0w]
   refine vn ?_
   try dsimp only[cA,cN]
   refine AMS.go (by exact a0c) ?_
   try dsimp only[List.eraseIdx]
   refine xl ?_
   refine vn ?_
   try dsimp only[cA,cN]
   refine AMS.go (by exact(by exact a0h 145 4 rfl rfl a0c)) ?_
   try dsimp only[List.eraseIdx]
   refine xU _ (fun w0 R0=> ?_)
   refine y2 0 (AM.okN ?_)
   dsimp only[a0w]
   refine vn ?_
   try dsimp only[cA,cN]
   refine AMS.nil (xA (zn (zq ?_)))
   refine zx ?_
   refine zb (zH ?_)
   refine AQ.g ?_
   refine G.coeRow 1 (c0H [] (oat L k)).length (a0C (c0H [] (oat L k))) rfl rfl (CoeL.of_eq rfl) ?_
   refine AQ.u ?_
   refine wu _ _ _ (by omega) (⟨k+1,c0H [] (oat L k),_,by omega,hsc.symm,‹_›,fun hh=>absurd (congrArg List.length hh) (by rw[a0X];simp),rfl,rfl,rfl⟩)
  refine AW.g ?_
  refine G.openRow 0 rfl hz (fun b' cap hc1 hc2 hxs hVe=> ?_)
  refine AW.u ?_
  subst hVe
  have hc3:=hc2
  unfold maxLen at hc3
  refine yU (zn (zC (xb (zC (zq ?_)))))
  refine yf ?_
  refine yV ?_
  refine zd ?_
  intro B11
  refine za 0 (zH (zn (zC ?_)))
  refine yo 7 ?_
  simp only[cT,cZ,cD,cO]
  refine yn ?_
  refine yM ?_
  refine yn ?_
  refine yM ?_
  refine vP (xD rfl Tryz.func69 rfl rfl rfl (a0o _ (by assumption))) ?_
  refine xN ?_
  refine yS ?_
  refine vf ?_
  simp only[a0g,cN,cA,cP]
  rintro _ _ ⟨B12,rfl,rfl⟩
  simp only[cA,cN]
  refine za 0 (zH (zn (zC (zq ?_))))
  refine zt ?_
  refine zp ?_
  refine vO (O.lenV rfl rfl) ?_
  refine zc (zH (zn (zC (xb ?_))))
  refine zh [(4,_),(6,_),(13,_),(14,_),(100,_),(101,_),(102,_)] (fun nn E H=> ∃(i:Nat),(i≤os.length)∧(h0d os (oat L k).num i=h0d os (oat L k).num os.length)∧i=nn∧E= [(15,.val (.int .i64 (i:Int)))]∧H= [.blk B12 96 2 [.val (.int .i64 (oat L k).num),roB (oat L k).val],.blk B11 96 2 [.val (.int .i64 (oat L k).num),roB (oat L k).val],.blk b' 96 (cap*2) (a0C os),.blk B4 29 6 [.val (.int .i64 outer.ty),.val (.int .i64 inner.code),.val (.int .i64 outer.id),roB outer.tok,.val (.slice (some ⟨b',0,none⟩) os.length cap),roB inner.pay],.blk B3 29 6 [.val (.int .i64 0),.val (.int .i64 0),.val (.int .i64 0),.val (.slice none 0 0),.val (.slice none 0 0),.val (.slice none 0 0)]]) _ (⟨os.length,Nat.le_refl _,rfl,rfl,rfl,rfl⟩) ?_
  rintro nn E H ⟨i,hi,hp,rfl,rfl,rfl⟩
  dsimp only[cA,cN]
  rcases i with _|i
  ·refine zC (zC ?_)
   refine yo 14 ?_
   simp only[cT,cZ,cD,cO]
   refine zE ?_
   refine vP (O.gtr rfl rfl rfl (by exact c0p (by omega))) ?_
   refine zE ?_
   refine wz ?_
   refine FA.opG rfl rfl rfl rfl (fun hp=>xz 118 rfl (by exact hp)) ?_
   refine FA.opG rfl rfl rfl rfl (fun hp=>zf) ?_
   refine FA.opG rfl rfl rfl rfl (fun hp=>vI 120 rfl (by exact hp)) ?_
   refine FA.no rfl rfl rfl rfl ?_
   refine FA.no rfl rfl rfl rfl ?_
   refine FA.no rfl rfl rfl rfl ?_
   refine wz ?_
   refine FA.opG rfl rfl rfl rfl (fun hp=>xz 125 rfl (by exact hp)) ?_
   refine FA.no rfl rfl rfl rfl ?_
   refine vP (O.pickF rfl rfl rfl) ?_
   refine vf ?_
   simp only[a0g,cN,cA,cP]
   refine zH (zn ?_)
   refine ym (fun hq=> ?_) (fun hq=> ?_)
   ·simp at hq
   obtain⟨p,hp0⟩: ∃p:Nat,p=0:=⟨_,rfl⟩
   refine AW.g ?_
   refine G.re 15 (.val (.int .i64 (p:Int))) (by rw[hp0];rfl) ?_
   refine AW.u ?_
   have hpp:p=h0d os (oat L k).num os.length:=by rw[hp0,←hp];rfl
   have hpl:p<os.length:=by omega
   clear hp0 hp
   refine wm ?_
   refine xY ?_
   refine wa ?_
   refine xq (zn (zC (zq ?_)))
   refine zt ?_
   refine zp ?_
   refine zb ?_
   refine vO wD ?_
   refine vS (O.appendNil rfl (by rfl) (by rfl) rfl rfl (by exact SrcA.blk TyD.ax mM (by(dsimp only[List.set,cA,cN,List.take,List.drop];done)) (by(simp;omega))) (by exact c0w (b0T _) _ _) (by(unfold maxLen;omega)) (by omega)) ?_
   intro V13 hV13
   refine zc (zH (zn ?_))
   refine AW.regionS [[(0,false),(1,false),(2,false),(3,false),(4,false),(5,false),(7,false),(6,true)],[(8,true)],[(9,false)],[(10,true)]] (by kernel_rfl) (by kernel_rfl) ?_
   refine AMS.go (by exact(b0b 3 rfl a0c)) ?_
   try dsimp only[List.eraseIdx]
   refine xl ?_
   refine yY ?_
   refine y0 ?_
   refine wV ?_
   refine zV ?_
   refine xp ?_
   refine y0 ?_
   refine xU _ (fun w0 R0=> ?_)
   refine AO.appendCut (i:=0) rfl rfl rfl rfl (by rfl) (by rfl) rfl rfl rfl (by omega) (by exact SrcA.ro TyD.ax (by rfl) (lB rfl)) (by rfl) (by(unfold maxLen;omega)) (by omega) ⟨by omega,by assumption⟩ (by(dsimp only[List.set,cA,cN,List.take,List.drop];done)) (fun _=>by(dsimp only[List.set];done)) ?_
   intro V14 hV14
   refine AM.ok ?_
   dsimp only[a0w]
   refine vn ?_
   try dsimp only[cA,cN]
   refine vp ?_
   try dsimp only[List.eraseIdx]
   refine xU _ (fun w0 R0=> ?_)
   refine AO.append' (i:=0) rfl rfl rfl rfl (by rfl) (by rfl) rfl rfl rfl (by exact SrcA.row TyD.ax mM (by(simp;omega))) (by exact c0w (b0T _) _ _) (by(unfold maxLen;omega)) (by omega) (by(dsimp only[List.set,cA,cN,List.take,List.drop];done)) (fun _=>by(dsimp only[List.set];done)) ?_
   intro V15 hV15
   refine AM.ok ?_
   dsimp only[a0w]
   refine vn ?_
   try dsimp only[cA,cN]
   refine AMS.go (by exact a0c) ?_
   try dsimp only[List.eraseIdx]
   refine xl ?_
   refine vn ?_
   try dsimp only[cA,cN]
   refine AMS.go (by exact(by exact a0h 145 4 rfl rfl a0c)) ?_
   try dsimp only[List.eraseIdx]
   refine xU _ (fun w0 R0=> ?_)
   refine y2 0 (AM.okN ?_)
   dsimp only[a0w]
   refine vn ?_
   try dsimp only[cA,cN]
   refine AMS.nil (xA (zn (zq ?_)))
   refine zx ?_
   refine zb (zH ?_)
   refine AQ.g ?_
   refine G.coeRow 1 (c0H os (oat L k)).length (a0C (c0H os (oat L k))) rfl (by rw[a0X];omega) (CoeL.of_eq ((List.append_assoc _ _ _).trans (c0O hpp (by omega) (by omega) (by omega)))) ?_
   refine AQ.u ?_
   refine wu _ _ _ (by omega) (⟨k+1,c0H os (oat L k),_,by omega,hsc.symm,‹_›,fun hh=>absurd (congrArg List.length hh) (by rw[a0X];simp),rfl,rfl,rfl⟩)
  refine zC (zC ?_)
  refine yo 14 ?_
  simp only[cT,cZ,cD,cO]
  refine zE ?_
  refine vP (O.gtr rfl rfl rfl (by exact n0X (by omega))) ?_
  refine zE ?_
  refine wz ?_
  refine FA.opG rfl rfl rfl rfl (fun hp=>xz 118 rfl (by exact hp)) ?_
  refine FA.opG rfl rfl rfl rfl (fun hp=>zf) ?_
  refine FA.opG rfl rfl rfl rfl (fun hp=>vI 120 rfl (by exact hp)) ?_
  refine FA.opG rfl rfl rfl rfl (fun hp=>wP 119 rfl (by exact hp) (wP 121 rfl (by exact hp) wn)) ?_
  refine FA.opG rfl rfl rfl rfl (fun hp=>wP 122 rfl (by exact hp) zv) ?_
  refine FA.opG rfl rfl rfl rfl (fun hp=>wP 123 rfl (by exact hp) (O.load rfl rfl mM (by exact s0r (k:=i) (by omega) (by omega)))) ?_
  refine wz ?_
  refine FA.opG rfl rfl rfl rfl (fun hp=>xz 125 rfl (by exact hp)) ?_
  refine FA.opG rfl rfl rfl rfl (fun hp=>wP 124 rfl (by exact hp) (wP 126 rfl (by exact hp) yI)) ?_
  refine vP yc ?_
  refine vf ?_
  simp only[a0g,cN,cA,cP]
  refine zH (zn ?_)
  refine ym (fun hq=> ?_) (fun hq=> ?_)<;>(try simp only[vU]at hq)
  ·refine yU (zn (xb (zq ?_)))
   refine zb ?_
   refine yG ?_
   refine zc (zH (xA ?_))
   rw[show((i+1:Nat):Int)-1=(i:Int) by omega]
   refine zr _ _ _ (by omega) (⟨i,by omega,by rw[←hp,h0d,if_pos hq.2],rfl,rfl,rfl⟩)
  have hpp:i+1=h0d os (oat L k).num os.length:=by rw[←hp,h0d,if_neg (by have:=hq trivial;omega)]
  clear hp
  rcases Nat.lt_or_ge (i+1) os.length with hlt|hge
  ·refine wm ?_
   refine xY ?_
   refine wa ?_
   refine xq (zn (zC (zq ?_)))
   refine zt ?_
   refine zp ?_
   refine zb ?_
   refine vO wD ?_
   refine vS (O.appendNil rfl (by rfl) (by rfl) rfl rfl (by exact SrcA.blk TyD.ax mM (by(dsimp only[List.set,cA,cN,List.take,List.drop];done)) (by(simp;omega))) (by exact c0w (b0T _) _ _) (by(unfold maxLen;omega)) (by omega)) ?_
   intro V13 hV13
   refine zc (zH (zn ?_))
   refine AW.regionS [[(0,false),(1,false),(2,false),(3,false),(4,false),(5,false),(7,false),(6,true)],[(8,true)],[(9,false)],[(10,true)]] (by kernel_rfl) (by kernel_rfl) ?_
   refine AMS.go (by exact(b0b 3 rfl a0c)) ?_
   try dsimp only[List.eraseIdx]
   refine xl ?_
   refine yY ?_
   refine y0 ?_
   refine wV ?_
   refine zV ?_
   refine xp ?_
   refine y0 ?_
   refine xU _ (fun w0 R0=> ?_)
   refine AO.appendCut (i:=0) rfl rfl rfl rfl (by rfl) (by rfl) rfl rfl rfl (by omega) (by exact SrcA.ro TyD.ax (by rfl) (lB rfl)) (by rfl) (by(unfold maxLen;omega)) (by omega) ⟨by omega,by assumption⟩ (by(dsimp only[List.set,cA,cN,List.take,List.drop];done)) (fun _=>by(dsimp only[List.set];done)) ?_
   intro V14 hV14
   refine AM.ok ?_
   dsimp only[a0w]
   refine vn ?_
   try dsimp only[cA,cN]
   refine vp ?_
   try dsimp only[List.eraseIdx]
   refine xU _ (fun w0 R0=> ?_)
   refine AO.append' (i:=0) rfl rfl rfl rfl (by rfl) (by rfl) rfl rfl rfl (by exact SrcA.row TyD.ax mM (by(simp;omega))) (by exact c0w (b0T _) _ _) (by(unfold maxLen;omega)) (by omega) (by(dsimp only[List.set,cA,cN,List.take,List.drop];done)) (fun _=>by(dsimp only[List.set];done)) ?_
   intro V15 hV15
   refine AM.ok ?_
   dsimp only[a0w]
   refine vn ?_
   try dsimp only[cA,cN]
   refine AMS.go (by exact a0c) ?_
   try dsimp only[List.eraseIdx]
   refine xl ?_
   refine vn ?_
   try dsimp only[cA,cN]
   refine AMS.go (by exact(by exact a0h 145 4 rfl rfl a0c)) ?_
   try dsimp only[List.eraseIdx]
   refine xU _ (fun w0 R0=> ?_)
   refine y2 0 (AM.okN ?_)
   dsimp only[a0w]
   refine vn ?_
   try dsimp only[cA,cN]
   refine AMS.nil (xA (zn (zq ?_)))
   refine zx ?_
   refine zb (zH ?_)
   refine AQ.g ?_
   refine G.coeRow 1 (c0H os (oat L k)).length (a0C (c0H os (oat L k))) rfl (by rw[a0X];omega) (CoeL.of_eq ((List.append_assoc _ _ _).trans (c0O hpp (by omega) (by omega) (by omega)))) ?_
   refine AQ.u ?_
   refine wu _ _ _ (by omega) (⟨k+1,c0H os (oat L k),_,by omega,hsc.symm,‹_›,fun hh=>absurd (congrArg List.length hh) (by rw[a0X];simp),rfl,rfl,rfl⟩)
  refine wm ?_
  refine xY ?_
  refine wa ?_
  refine xq (zn (zC (zq ?_)))
  refine zt ?_
  refine zp ?_
  refine zb ?_
  refine vO (O.sliceV0 rfl rfl rfl rfl ⟨by omega,by omega,by omega⟩ (by omega) (by assumption)) ?_
  refine vS (O.appendNil rfl (by rfl) (by rfl) rfl rfl (by exact SrcA.ro TyD.ax (by rfl) (lB rfl)) (by rfl) (by(unfold maxLen;omega)) (by omega)) ?_
  intro V13 hV13
  refine zc (zH (zn ?_))
  refine AW.regionS [[(0,false),(1,false),(2,false),(3,false),(4,false),(5,false),(7,false),(6,true)],[(8,true)],[(9,false)],[(10,true)]] (by kernel_rfl) (by kernel_rfl) ?_
  refine AMS.go (by exact(b0b 3 rfl a0c)) ?_
  try dsimp only[List.eraseIdx]
  refine xl ?_
  refine yY ?_
  refine y0 ?_
  refine wV ?_
  refine zV ?_
  refine xp ?_
  refine y0 ?_
  refine xU _ (fun w0 R0=> ?_)
  refine AO.appendCut (i:=0) rfl rfl rfl rfl (by rfl) (by rfl) rfl rfl rfl (by omega) (by exact SrcA.ro TyD.ax (by rfl) (lB rfl)) (by rfl) (by(unfold maxLen;omega)) (by omega) ⟨by omega,by assumption⟩ (by(dsimp only[List.set,cA,cN,List.take,List.drop];done)) (fun _=>by(dsimp only[List.set];done)) ?_
  intro V14 hV14
  refine AM.ok ?_
  dsimp only[a0w]
  refine vn ?_
  try dsimp only[cA,cN]
  refine vp ?_
  try dsimp only[List.eraseIdx]
  refine xU _ (fun w0 R0=> ?_)
  refine AO.append' (i:=0) rfl rfl rfl rfl (by rfl) (by rfl) rfl rfl rfl (by exact SrcA.row TyD.ax mM (by rfl)) (by rfl) (by(unfold maxLen;omega)) (by omega) (by(dsimp only[List.set,cA,cN,List.take,List.drop];done)) (fun _=>by(dsimp only[List.set];done)) ?_
  intro V15 hV15
  refine AM.ok ?_
  dsimp only[a0w]
  refine vn ?_
  try dsimp only[cA,cN]
  refine AMS.go (by exact a0c) ?_
  try dsimp only[List.eraseIdx]
  refine xl ?_
  refine vn ?_
  try dsimp only[cA,cN]
  refine AMS.go (by exact(by exact a0h 145 4 rfl rfl a0c)) ?_
  try dsimp only[List.eraseIdx]
  refine xU _ (fun w0 R0=> ?_)
  refine y2 0 (AM.okN ?_)
  dsimp only[a0w]
  refine vn ?_
  try dsimp only[cA,cN]
  refine AMS.nil (xA (zn (zq ?_)))
  refine zx ?_
  refine zb (zH ?_)
  refine AQ.g ?_
  refine G.coeRow 1 (c0H os (oat L k)).length (a0C (c0H os (oat L k))) rfl (by rw[a0X];omega) (CoeL.of_eq ((List.append_nil _).trans (g0F hpp (by omega) (by omega)))) ?_
  refine AQ.u ?_
  refine wu _ _ _ (by omega) (⟨k+1,c0H os (oat L k),_,by omega,hsc.symm,‹_›,fun hh=>absurd (congrArg List.length hh) (by rw[a0X];simp),rfl,rfl,rfl⟩)
  skip
 have hoe:os=b0L L:=by rw[hos,List.take_of_length_le (by omega)]
 subst hoe
 refine AW.g ?_
 refine G.freezeCell 0 0 4 rfl rfl rfl ?_
 refine AW.u ?_
 refine wm ?_
 refine xY ?_
 refine wa ?_
 refine xq (zn (zC (zq ?_)))
 refine zI ?_
 refine za 1 ?_
 refine zc (zH (zn (y3 ?_)))
 refine x9 zo yQ (h0L e)
end Go.Proofs.YtojomcdjcpmnkaaGreat.By
namespace Go.Proofs.YtojomcdjcpmnkaaGreat.By
open Go.RowKit L A
theorem i0H (a b:UInt8):a^^^b^^^b=a:=by rw[UInt8.xor_assoc,UInt8.xor_self,UInt8.xor_zero]
theorem l0X (w:Nat→UInt8)(nonce t:List UInt8)(i:Nat)(h:i<t.length):e0N w nonce (fnB t.length (e0N w nonce t)) i=kf t i:=by
 rw[e0N,i0i h,e0N,i0H]
theorem o0q (w:Nat→UInt8)(nonce t:List UInt8):fnB t.length (e0N w nonce (fnB t.length (e0N w nonce t)))=t:=by
 rw[c0P (fun i hi=>l0X w nonce t i hi),n0w rfl]
theorem n0x {n:Nat}{f g:Nat→UInt8}(h:fnB n f=fnB n g): ∀q,q<n→f q=g q:=fun q hq=>by
 have:=congrArg (fun l=>kf l q) h
 simpa only[i0i hq]using this
def p0E (cipher:List UInt8)(n T:Nat)(q:Nat):UInt8:=if q<T then kf cipher (n+q)else 0
theorem r0Z {key nonce aad cipher:List UInt8}{tag:Int}{n T:Nat}(hcv:cvB key nonce tag=true)(hT:tag=(T:Int))(hl:cipher.length=n+T)(ha:aad.length≤4096)(hn:n≤4096):
  g0e key nonce aad cipher tag=decide (fnB T (e0F (wK key) nonce (p0E cipher n T))=fnB T (l0k (wK key) nonce aad (e0i key nonce cipher tag) tag)):=by
 have hct:(cipher.take n).length=n:=by rw[List.length_take];omega
 have hPT:e0i key nonce cipher tag=fnB n (e0N (wK key) nonce (cipher.take n)):=by rw[e0i,hT,show cipher.length-(T:Int).toNat=n by omega]
 obtain⟨PT,hP⟩: ∃PT,PT=e0i key nonce cipher tag:=⟨_,rfl⟩
 have hPl:PT.length=n:=by rw[hP,hPT,a0D]
 have hso:d0p aad PT=true:=by
  simp only[d0p,Bool.and_eq_true,cQ];omega
 have hb:fnB n (e0N (wK key) nonce PT)=cipher.take n:=by
  have:=o0q (wK key) nonce (cipher.take n)
  rw[hct]at this
  rw[hP,hPT];exact this
 obtain⟨M,hM⟩: ∃M,M=l0k (wK key) nonce aad PT tag:=⟨_,rfl⟩
 have hs:f0l key nonce aad PT tag=cipher.take n++fnB T (e0F (wK key) nonce M):=by
  rw[(h0H hcv hso).1,hPl,hb,←hM,hT];rfl
 rw[g0e,←hP,hs,←hM]
 have hd:cipher.drop n=fnB T (fun q=>kf cipher (n+q)):=by
  apply List.ext_getElem
  ·rw[List.length_drop,a0D];omega
  intro q h1 h2
  rw[a0D]at h2
  have g: ∀(N:Nat) (f:Nat→UInt8) (q:Nat) (h:q<(fnB N f).length),(fnB N f)[q]=f q:=fun N f q h=>by simp[fnB]
  rw[g,List.getElem_drop,kf,List.getD_eq_getElem?_getD,List.getElem?_eq_getElem (by omega)];rfl
 rw[Bool.eq_iff_iff,beq_iff_eq,cQ]
 have h3:(cipher.take n++fnB T (e0F (wK key) nonce M)=cipher)↔fnB T (e0F (wK key) nonce M)=cipher.drop n:=by
  constructor
  ·intro h
   have:=congrArg (List.drop n) h
   rw[List.drop_left' hct]at this;exact this
  intro h;rw[h,List.take_append_drop]
 rw[h3,hd]
 constructor
 ·intro h
  have h4:=n0x h
  exact c0P fun q hq=>by
   rw[e0F,p0E,if_pos hq,←h4 q hq,e0F,i0H]
 intro h
 have h4:=n0x h
 exact c0P fun q hq=>by
  have:=h4 q hq
  rw[e0F,p0E,if_pos hq]at this
  rw[e0F,←this,i0H]
attribute [local irreducible] AW AQ AO
attribute [local simp] a0b
theorem s0x {cipher:List UInt8}{n T:Nat}(hl:cipher.length=n+T)(hT:T≤16):a0e (arB 16 fun _=>0) (0+0*1) ((a0a (cipher.drop n)).take (min (cipher.drop n).length (16-0)))=arB 16 (p0E cipher n T):=by
 have hd:(cipher.drop n).length=T:=by rw[List.length_drop];omega
 have e:a0a (cipher.drop n)=arB T (p0E cipher n T):=by
  rw[e0E,hd]
  exact a0d fun q hq=>by
   rw[p0E,if_pos hq];simp[kf,List.getElem?_drop]
 rw[e,List.take_of_length_le (by rw[a0b];omega)]
 rw[d0i (by omega)]
 exact a0d fun q hq=>by
  by_cases h:q<T
  ·rw[if_pos (by omega),show q-(0+0*1)=q by omega]
  rw[if_neg (by omega),p0E,if_neg h]
theorem n0y (x y:List UInt8):Sp Tryz.prog 172 [roB x,roB y] [] (Is (.val (.bool (decide (x=y))))):=by
 refine yH Tryz.func172 _ Tryz.ntmps172 (fun w0 R0=> ?_)
 refine zC (zq ?_)
 refine zc (zH (zn (zC (zq ?_))))
 refine zb ?_
 refine vx ?_
 refine zb ?_
 refine vx ?_
 refine vO (O.eqlS rfl rfl rfl (by rfl)) ?_
 refine zc (zH (zn (y3 ?_)))
 have e:decide (x=y)=(x==y):=g0K (by simp)
 refine vm rfl rfl nS (⟨by rw[a0L,a0L,e],rfl⟩)
theorem q0a (n:Nat)(f:Nat→UInt8):o0h (Is (.agg (arB n f))):=by
 rintro r Hn ⟨rfl,rfl⟩
 refine⟨fun R R' W u h=> ?_,fun e he=>by cases he⟩
 cases h with
 |agg _ cs hs hc=>exact .agg _ cs hs fun j hj=>(hc j hj).plain (j0F n f _ (List.getElem_mem hj))
theorem r0Y (key nonce aad cipher:List UInt8)(tag:Int)(ha:aad.length≤1000000)(hp:cipher.length≤1000000):Sp Tryz.prog 139 [roB key,roB nonce,roB aad,roB cipher,.val (.int .i64 tag)] [] (Is (.tup [roB (b0x key nonce aad cipher tag),.val (.int .i64 (b0K key nonce aad cipher tag))])):=by
 refine yH Tryz.func139 _ Tryz.ntmps139 (fun w0 R0=> ?_)
 refine zC (zq ?_)
 refine zc ?_
 refine zc (zH (zn (zC (xb (zC (zq ?_))))))
 refine zb ?_
 refine zb ?_
 refine zb ?_
 refine vO (xD rfl Tryz.func156 rfl rfl rfl (p0U key nonce _)) ?_
 refine xo ?_
 refine zc (zH (zn ?_))
 refine ym (fun h=> ?_) (fun h=> ?_)<;>(try simp only[vU]at h)
 ·have hb:cvB key nonce tag=false:=by simpa using h
  have e1:b0x key nonce aad cipher tag= []:=by simp[b0x,hb]
  have e2:b0K key nonce aad cipher tag=1:=by simp[b0K,hb]
  rw[e1,e2]
  refine zC (zq ?_)
  refine zc ?_
  refine zc (zH (zn (y3 ?_)))
  refine wg (xh ?_)
  refine x9 yP yu (⟨rfl,rfl⟩)
 obtain⟨hk,hn7,hn13,ht4,ht16,ht2⟩:=n0K h
 refine zC (zq ?_)
 refine zb ?_
 refine zZ ?_
 refine yN ?_
 refine zb ?_
 refine yl ?_
 refine yg 29 ?_
 refine yl ?_
 refine AO.opG rfl rfl rfl (fun hp=>wP 31 rfl (by exact hp) zD) ?_
 refine AO.opG rfl rfl rfl (fun hp=>wP 30 rfl (by exact hp) (wP 32 rfl (by exact hp) yI)) ?_
 refine zG ?_
 refine zc (zH (zn ?_))
 refine ym (fun h2=> ?_) (fun h2=> ?_)<;>(try simp only[vU]at h2)
 ·have hb:d0t aad cipher tag=false:=by
   simp only[d0t,Bool.and_eq_false_iff,decide_eq_false_iff_not]
   omega
  have e1:b0x key nonce aad cipher tag= []:=by simp[b0x,hb]
  have e2:b0K key nonce aad cipher tag=8:=by simp[b0K,h,hb]
  rw[e1,e2]
  refine zC (zq ?_)
  refine zc ?_
  refine zc (zH (zn (y3 ?_)))
  refine wg (xh ?_)
  refine x9 yP yu (⟨rfl,rfl⟩)
 have hb:d0t aad cipher tag=true:=by
  simp only[d0t,Bool.and_eq_true,cQ]
  omega
 refine zC (zq ?_)
 refine zb ?_
 refine zZ ?_
 refine zb ?_
 refine zR ?_
 refine zc (zH (zn ?_))
 refine ym (fun h3=> ?_) (fun h3=> ?_)<;>(try simp only[vU]at h3)
 ·have e1:b0x key nonce aad cipher tag= []:=by simp[b0x,show ¬tag≤(cipher.length:Int) by omega]
  have e2:b0K key nonce aad cipher tag=2:=by simp[b0K,h,hb,show ¬tag≤(cipher.length:Int) by omega]
  rw[e1,e2]
  refine zC (zq ?_)
  refine zc ?_
  refine zc (zH (zn (y3 ?_)))
  refine wg (xh ?_)
  refine x9 yP yu (⟨rfl,rfl⟩)
 have h3':tag≤(cipher.length:Int):=by omega
 obtain⟨T,hT⟩: ∃T:Nat,tag=(T:Int):=⟨tag.toNat,by omega⟩
 obtain⟨n,hn⟩: ∃n:Nat,n=cipher.length-T:=⟨_,rfl⟩
 have hl:cipher.length=n+T:=by omega
 have hT16:T≤16:=by omega
 have hn':(cipher.length:Int)-tag=(n:Int):=by omega
 have hct:(cipher.take n).length=n:=by rw[List.length_take];omega
 have hopt:e0i key nonce cipher tag=fnB n (e0N (wK key) nonce (cipher.take n)):=by rw[e0i,hT,show cipher.length-(T:Int).toNat=n by omega]
 have heq:=r0Z (aad:=aad) h hT hl (by omega) (by omega)
 obtain⟨PT,hPT⟩: ∃PT,PT=e0i key nonce cipher tag:=⟨_,rfl⟩
 have hPl:PT.length=n:=by rw[hPT,hopt,a0D]
 have eP:arB (cipher.take n).length (e0N (wS (kf key)) nonce (cipher.take n))=a0a PT:=by rw[hPT,hopt,hct];rfl
 refine AW.g ?_
 refine G.re 0 (.ro false 16 (arB 16 (kf key))) (congrArg some (j0V hk)) ?_
 refine AW.u ?_
 have hst:=l0V (wS (kf key)) nonce (cipher.take n) (p0E cipher n T) hn13 (by omega)
 have eL:(cipher.take n).length=PT.length:=by rw[hct,hPl]
 rw[eP,eL]at hst
 have hq:=n0y (fnB T (e0F (wS (kf key)) nonce (p0E cipher n T))) (fnB T (l0k (wS (kf key)) nonce aad PT tag))
 rw[b0D,b0D]at hq
 refine yU (xA (zn (zC (zq ?_))))
 refine zb ?_
 refine zZ ?_
 refine zb ?_
 refine yG ?_
 refine zc (zH (zn (zC (zq ?_))))
 refine zb ?_
 refine AO.opB (xD rfl Tryz.func157 rfl rfl rfl (o0d _)) rfl rfl rfl ?_
 intro B1
 refine zc ?_
 refine AO.g ?_
 refine G.freezePtr 0 13 rfl rfl ?_
 refine AO.u ?_
 dsimp only[List.eraseIdx]
 refine zH (zn (zC (zq ?_)))
 refine zd ?_
 intro B2
 refine zH (zn (zC ?_))
 refine yo 4 ?_
 simp only[cT,cZ,cD,cO]
 refine vP (O.sliceArrK (p:=0) rfl rfl rfl rfl (by rfl) (by rfl) ⟨by omega,by omega⟩ (by omega)) ?_
 refine zE ?_
 refine zE ?_
 refine vP (O.sliceFromB (k:=n) rfl rfl rfl (by omega) (by omega)) ?_
 refine vf ?_
 simp only[a0g,cN,cA,cP]
 refine AO.copyIn (i:=0) rfl rfl rfl rfl (by exact c0z _) (by exact g0N _) rfl (by show 0+0*1+min (cipher.drop n).length (16-0)≤16;omega) (by exact s0x hl hT16) rfl rfl (fun q h=>by cases h;exact lB rfl) ?_
 rintro _ rfl
 dsimp only[List.set]
 refine zH (zn (zC ?_))
 refine AW.regionA _ (Al.mk' (i:=10) (d:=16) (T:=171) _ rfl rfl rfl rfl rfl (by(dsimp only[List.set,cA,cN,List.take,List.drop];done)) (by rfl)) [(0,false),(1,false),(2,false),(3,false),(4,false),(5,false),(6,true),(7,false),(8,false),(9,false),(10,true),(11,false),(12,true)] (by kernel_rfl) (by kernel_rfl) (by exact a0c) ?_
 dsimp only[List.eraseIdx]
 refine wW ?_
 refine wW ?_
 refine wW ?_
 refine wW ?_
 refine vR rfl (O.sliceToB (k:=n) rfl rfl rfl (by omega) (by omega)) ?_
 refine vR rfl (O.loadK rfl rfl (by repeat(exact List.Mem.head _)) (by exact n0Z _) (by exact a0b _ _)) ?_
 refine AN.main _ rfl rfl (fun w0 R0=> ?_)
 refine AO.opN (xD rfl Tryz.func158 rfl rfl rfl hst) rfl rfl rfl ?_
 rintro _ _ ⟨V443,hV443,rfl,rfl⟩
 simp only[cA,cN]
 refine AM.ok ?_
 dsimp only[a0w]
 refine wW ?_
 refine vR rfl yB ?_
 refine vR rfl yB ?_
 refine AN.box rfl ?_
 intro B4
 dsimp only[Al.he]
 refine vR rfl zi ?_
 refine AN.main _ rfl rfl (fun w0 R0=> ?_)
 refine xk 0 (AM.okN ?_)
 dsimp only[a0w]
 refine AN.nil ?_
 dsimp only[cA,cN]
 refine zn (zC (zq ?_))
 refine zb ?_
 refine AO.g ?_
 refine G.freezePtr 0 16 rfl rfl ?_
 refine AO.u ?_
 dsimp only[List.eraseIdx]
 refine zb ?_
 refine zb ?_
 refine zb ?_
 refine zb ?_
 refine AO.opN (O.callLP rfl Tryz.func159 rfl rfl rfl (by repeat(exact List.Mem.head _)) (s0E (wS (kf key)) nonce aad PT tag hn13 ⟨ht4,ht16⟩ (by omega) (by omega)) (q0a _ _) (by(repeat(first|exact LendL.nil|refine LendL.same ?_|refine LendL.lend ?_));done)) rfl rfl rfl ?_
 rintro _ _ ⟨rfl,rfl⟩
 simp only[cA,cN]
 refine zd ?_
 intro B6
 refine xk 0 ?_
 refine AO.g ?_
 refine G.freezePtr 0 17 rfl rfl ?_
 refine AO.u ?_
 dsimp only[List.eraseIdx]
 refine zH (zn (zC (zC ?_)))
 refine yo 6 ?_
 simp only[cT,cZ,cD,cO]
 refine zE ?_
 refine vP (O.sliceArrRK (p:=0) (q:=T) rfl rfl rfl rfl (by rfl) (by omega) ⟨by omega,by omega⟩ (by omega) (by(unfold maxLen;omega)) (by exact s0F (by omega) _)) ?_
 refine zE ?_
 refine vP (O.sliceArrRK (p:=0) (q:=T) rfl rfl rfl rfl (by rfl) (by omega) ⟨by omega,by omega⟩ (by omega) (by(unfold maxLen;omega)) (by exact s0F (by omega) _)) ?_
 refine vP (xD rfl Tryz.func172 rfl rfl rfl hq) ?_
 refine vP xy ?_
 refine vf ?_
 simp only[a0g,cN,cA,cP]
 refine zH (zn ?_)
 rw[←hPT]at heq
 refine ym (fun h72=> ?_) (fun h72=> ?_)<;>(try simp only[vU]at h72)
 ·have hB:g0e key nonce aad cipher tag=false:=by rw[heq];simpa using h72
  have e1:b0x key nonce aad cipher tag= []:=by simp[b0x,hB]
  have e2:b0K key nonce aad cipher tag=11:=by simp[b0K,h,hb,h3',hB]
  rw[e1,e2]
  refine zC (zq ?_)
  refine zc ?_
  refine zc (zH (zn (y3 (xh ?_))))
  refine x9 yP yu (⟨rfl,rfl⟩)
 have hB:g0e key nonce aad cipher tag=true:=by rw[heq];simpa using h72
 have e1:b0x key nonce aad cipher tag=PT:=by simp[b0x,h,hb,h3',hB,hPT]
 have e2:b0K key nonce aad cipher tag=0:=by simp[b0K,h,hb,h3',hB]
 rw[e1,e2]
 refine yU (zn (zC (zq ?_)))
 refine zb ?_
 refine zc ?_
 refine zc (zH (zn (y3 ?_)))
 refine AQ.g ?_
 refine yj 0 [10] ?_
 refine AQ.u ?_
 try dsimp only[List.map,List.eraseIdx,cA,cN]
 refine x9 yP yQ (⟨rfl,rfl⟩)
end Go.Proofs.YtojomcdjcpmnkaaGreat.By
namespace Go.Proofs.YtojomcdjcpmnkaaGreat.By
open Go.RowKit L A Dk
theorem l0C: ∀(k:Nat) (s out:List UInt8),s.length=k→s≠ []→bt s 0≠0→l0D (beVal s) out=s++out:=by
 intro k
 induction k with
 |zero=>intro s out h hne;exact absurd (List.eq_nil_of_length_eq_zero h) hne
 | succ k ih=>
  intro s out h hne h0
  obtain⟨t,x,rfl⟩: ∃r x,s=r++[x]:=⟨s.dropLast,s.getLast hne,(List.dropLast_concat_getLast hne).symm⟩
  have hx:=x.toNat_lt
  have hd:(beVal t*256+x.toNat)/256=beVal t:=by omega
  have hu:u8 ((beVal t*256+x.toNat:Nat):Int)=x:=by
   have h9:=g0T x
   rw[t0e _ (x.toNat:Int) (by omega)];exact h9
  by_cases ht:t= []
  ·subst ht
   have hx0:x.toNat≠0:=fun e=>h0 (by show x=0;exact UInt8.toNat_inj.1 e)
   have:beVal ([]++[x])=x.toNat:=by simp[beVal]
   rw[this,a0T hx0,show x.toNat/256=0 by omega,a0U,g0T];rfl
  have ht0:bt t 0≠0:=by
   cases t with
   |nil=>exact absurd rfl ht
   |cons y t=>exact h0
  have hpos:beVal t≠0:=fun e=>by
   have h9:=ih t [] (by simp at h;exact h) ht ht0
   rw[e,a0U]at h9
   exact ht (by simpa using h9.symm)
  rw[d0h,a0T (by omega),hd,hu,ih t _ (by simp at h;exact h) ht ht0];simp
theorem m0O {s:List UInt8}(h:(d0d s).2=0):b0N (d0d s).1=s∧0≤(d0d s).1∧(d0d s).1≤1099511627775:=by
 unfold d0d at h⊢
 split at h
 ·simp at h
 rename_i h0
 rw[if_neg h0]
 split at h
 ·simp at h
 rename_i h1
 rw[if_neg h1]
 split at h
 ·simp at h
 rename_i h2
 rw[if_neg h2]
 have hlt:=p0X s.length s rfl
 have hlt5:beVal s<1099511627776:=Nat.lt_of_lt_of_le hlt (Nat.le_trans (Nat.pow_le_pow_right (by decide) (show s.length≤5 by omega)) (by decide))
 refine⟨?_,by simp only;omega,by simp only;omega⟩
 simp only
 have hne:s≠ []:=fun e=>h0 (by rw[e];rfl)
 unfold b0N
 rw[if_neg (by omega),Int.toNat_natCast]
 by_cases hb:bt s 0=0
 ·have h9:s.length=1:=by
   rcases Nat.lt_or_ge 1 s.length with h3|h3
   ·exact absurd ⟨h3,hb⟩ h2
   omega
  match s,h9 with
  | [x],_=>
   have:x=0:=hb
   subst this
   have:beVal [0]=0:=rfl
   rw[this,a0U];rfl
 have h9:=l0C s.length s [] rfl hne hb
 by_cases hz:beVal s=0
 ·rw[hz,a0U]at h9;exact absurd (by simpa using h9.symm) hne
 rw[a0T hz]at h9
 simpa using h9
theorem l0r: ∀f:Nat,f<64→f%8+(if f&&&8=0 then 0 else 8)+(if f&&&16=0 then 0 else 16)+(if(((f&&&32:Nat):Int) !=0)=true then 32 else 0)=f:=by decide
theorem p0N {r:List UInt8}{y:Cmp}(h:n0J r=(y,0)):g0j y=(r,0):=by
 unfold n0J at h
 split at h
 ·rename_i h0
  have:r= []:=List.eq_nil_of_length_eq_zero h0
  subst this
  simp only[Prod.mk.injEq,and_true]at h
  subst h
  unfold g0j
  rw[if_neg (by decide)]
  have e:flg ⟨-1,false,[],false,[],false⟩=0:=by
   unfold flg
   have:b0N (-1)= []:=by unfold b0N;rw[if_pos (by omega)]
   rw[this];rfl
  rw[if_pos e]
 rename_i h0
 split at h
 ·simp at h
 rename_i h1
 split at h
 ·simp at h
 rename_i h2
 obtain⟨x,t,rfl⟩: ∃x t,r=x::t:=by
  cases r with
  |nil=>simp at h0
  |cons x t=>exact⟨x,t,rfl⟩
 have hb0:bt (x::t) 0=x:=rfl
 rw[hb0]at h2 h
 simp only[cD,cO]at h
 obtain⟨f,hf⟩: ∃f,f=x.toNat:=⟨_,rfl⟩
 rw[←hf]at h2 h
 have hfb:=l0r f (by omega)
 have fin: ∀(p:Int) (pb:List UInt8),b0N p=pb→pb.length=f%8→ -1≤p→p≤1099511627775→ ∀(hc:Bool) (cx s:List UInt8),cx.length≤16→(hc=true∨cx= [])→(f&&&16=0↔hc=false)→q0E f p hc cx s=(y,0)→
   g0j y=(x::pb++(if hc then u8 cx.length::cx else [])++s,0):=by
  intro p pb hp hpl hp1 hp2 hc cx s hcl hcx h16 hd
  have hff: ∀hk:Bool,(f&&&8=0↔hk=false)→flg ⟨p,hk,s,hc,cx,(((f&&&32:Nat):Int) !=0)⟩=(f:Int):=fun hk h8=>by
   unfold flg
   rw[hp,hpl]
   have e8:(if hk=true then(8:Int)else 0)=((if f&&&8=0 then 0 else 8:Nat):Int):=by
    cases hk with
    |false=>rw[if_pos (h8.2 rfl)];rfl
    |true=>rw[if_pos rfl,if_neg (fun e=>by have:=h8.1 e;cases this)];rfl
   have e16:(if hc=true then(16:Int)else 0)=((if f&&&16=0 then 0 else 16:Nat):Int):=by
    cases hc with
    |false=>rw[if_pos (h16.2 rfl)];rfl
    |true=>rw[if_pos rfl,if_neg (fun e=>by have:=h16.1 e;cases this)];rfl
   have e32:(if(((f&&&32:Nat):Int) !=0)=true then(32:Int)else 0)=((if(((f&&&32:Nat):Int) !=0)=true then 32 else 0:Nat):Int):=by split<;>rfl
   simp only[e8,e16,e32]
   omega
  have hfu:u8 (f:Int)=x:=by rw[hf];exact g0T x
  have build: ∀hk:Bool,(f&&&8=0↔hk=false)→(hk=true∨s= [])→s.length≤7→g0j ⟨p,hk,s,hc,cx,(((f&&&32:Nat):Int) !=0)⟩=(x::pb++(if hc then u8 cx.length::cx else [])++s,0):=fun hk h8 hs hs7=>by
   have hv:o0f ⟨p,hk,s,hc,cx,(((f&&&32:Nat):Int) !=0)⟩:=by
    refine⟨⟨hp1,hp2,by simp only;omega,by simp only;omega⟩,?_,?_⟩
    ·rcases hs with hs|hs
     ·exact .inl hs
     exact .inr (by rw[hs];rfl)
    rcases hcx with hs|hs
    ·exact .inl hs
    exact .inr (by rw[hs];rfl)
   unfold g0j
   rw[if_neg (by simpa using hv),hff hk h8,if_neg (by omega)]
   unfold u0b
   rw[hff hk h8,hfu,hp]
  unfold q0E at hd
  split at hd
  ·rename_i h8
   split at hd
   ·simp at hd
   rename_i hs
   have:s= []:=List.eq_nil_of_length_eq_zero (by omega)
   subst this
   simp only[Prod.mk.injEq,and_true]at hd
   subst hd
   exact build false ⟨fun _=>rfl,fun _=>h8⟩ (.inr rfl) (by simp)
  rename_i h8
  split at hd
  ·simp at hd
  rename_i hs
  simp only[Prod.mk.injEq,and_true]at hd
  subst hd
  exact build true ⟨fun e=>absurd e h8,fun e=>by cases e⟩ (.inl rfl) (by omega)
 have mid: ∀(p:Int) (pb:List UInt8),b0N p=pb→pb.length=f%8→ -1≤p→p≤1099511627775→ ∀s,i0C f p s=(y,0)→g0j y=(x::pb++s,0):=by
  intro p pb hp hpl hp1 hp2 s hd
  unfold i0C at hd
  split at hd
  ·rename_i h16
   have:=fin p pb hp hpl hp1 hp2 false [] s (by simp) (.inr rfl) ⟨fun _=>rfl,fun _=>h16⟩ hd
   simpa using this
  rename_i h16
  split at hd
  ·simp at hd
  rename_i hs0
  obtain⟨m,q,rfl⟩: ∃m q,s=m::q:=by
   cases s with
   |nil=>simp at hs0
   |cons x t=>exact⟨x,t,rfl⟩
  have hbm:bt (m::q) 0=m:=rfl
  rw[hbm]at hd
  split at hd
  ·simp at hd
  rename_i hm
  split at hd
  ·simp at hd
  rename_i hq
  simp only[cD,cO]at hd
  have hql:m.toNat≤q.length:=by simp at hq;omega
  have ht:(q.take m.toNat).length=m.toNat:=by simp;omega
  have:=fin p pb hp hpl hp1 hp2 true (q.take m.toNat) _ (by omega) (.inl rfl) ⟨fun e=>absurd e h16,fun e=>by cases e⟩ hd
  rw[this,ht]
  have e1:u8 ((m.toNat:Nat):Int)=m:=g0T m
  have e2:(m::q).drop (1+m.toNat)=q.drop m.toNat:=by rw[Nat.add_comm];rfl
  rw[e2,if_pos rfl,e1]
  simp[List.take_append_drop]
 unfold u0E at h
 split at h
 ·simp at h
 rename_i hl
 split at h
 ·rename_i hpos
  split at h
  ·rename_i he
   simp only[Prod.mk.injEq]at h
   exact absurd h.2 he
  rename_i he
  obtain⟨g1,g2,g3⟩:=m0O (s:=t.take (f%8)) (by simpa using he)
  have:=mid _ _ g1 (by simp;omega) (by omega) g3 _ h
  rw[this]
  simp[List.take_append_drop]
 rename_i hpos
 have h8:f%8=0:=by omega
 have:=mid (-1) [] (by unfold b0N;rw[if_pos (by omega)]) (by simp[h8]) (by omega) (by omega) _ h
 rw[this,h8];rfl
end Go.Proofs.YtojomcdjcpmnkaaGreat.By
namespace Go.Proofs.YtojomcdjcpmnkaaGreat.By
open Go.RowKit L A
attribute [local irreducible] AW AQ AO
noncomputable def r0a (m:Msg)(p:List UInt8)(q:Bool):Msg×Int:=
 if(a0A p).2≠0 then(Msg.none,(a0A p).2)else if q≠rq (a0A p).1.code then(Msg.none,4)else c0h m (a0A p).1
theorem q0i {m:Msg}{p:List UInt8}{q:Bool}(h:(a0A p).2≠0):r0a m p q=(Msg.none,(a0A p).2):=if_pos h
theorem q0h {m:Msg}{p:List UInt8}{q:Bool}(h:(a0A p).2=0)(h2:q≠rq (a0A p).1.code):r0a m p q=(Msg.none,4):=(if_neg (fun g=>g h)).trans (if_pos h2)
theorem q0g {m:Msg}{p:List UInt8}{q:Bool}(h:(a0A p).2=0)(h2:q=rq (a0A p).1.code):r0a m p q=c0h m (a0A p).1:=(if_neg (fun g=>g h)).trans (if_neg (fun g=>g h2))
noncomputable def h0h (key:List UInt8)(m:Msg)(nonce aad:List UInt8)(q:Bool):Msg×Int:=
 if b0K key nonce aad m.pay 8≠0 then(Msg.none,11)else r0a m (b0x key nonce aad m.pay 8) q
theorem n0a {key:List UInt8}{m:Msg}{nonce aad:List UInt8}{q:Bool}(h:b0K key nonce aad m.pay 8≠0):h0h key m nonce aad q=(Msg.none,11):=if_pos h
theorem m0Z {key:List UInt8}{m:Msg}{nonce aad:List UInt8}{q:Bool}(h:b0K key nonce aad m.pay 8=0):h0h key m nonce aad q=r0a m (b0x key nonce aad m.pay 8) q:=if_neg (fun g=>g h)
theorem i0c (key nonce aad cipher:List UInt8)(tag:Int):(b0x key nonce aad cipher tag).length≤cipher.length:=by
 unfold b0x
 split
 ·unfold e0i;rw[a0D];omega
 simp
theorem j0G {m:Msg}(h:ValM m):l0F m:=by
 obtain⟨h1,h2,h3,h4⟩:=ValM.sm h
 exact⟨by omega,by omega,by omega,fun k hk=>by have:=h4 k hk;omega⟩
theorem e0b {b:List UInt8}(h:(a0A b).2=0):ValM (a0A b).1∧(rq (a0A b).1.code=true∨rs (a0A b).1.code=true):=by
 unfold a0A at h⊢
 by_cases h1:b= []
 ·rw[if_pos h1]at h;cases h
 rw[if_neg h1]at h⊢
 by_cases h2:rq ((bt b 0).toNat:Int)=true∨rs ((bt b 0).toNat:Int)=true
 ·rw[if_pos h2]at h⊢
  have hd:=n0H h
  refine⟨hd.1,?_⟩
  obtain⟨⟨⟨-, -,c0,c1, -⟩, -⟩, -⟩:=hd.1
  have e:bt (raw (b0W (unB b)).1) 1=u8 (b0W (unB b)).1.code:=rfl
  rw[hd.2]at e
  have e2:bt (unB b) 1=bt b 0:=rfl
  have e3:=a0I (x:=(b0W (unB b)).1.code) (by omega)
  rw[←e,e2]at e3
  rw[←e3];exact h2
 rw[if_neg h2]at h;cases h
theorem j0K {m:Msg}(h:SmS m):l0F m:=by
 obtain⟨h1,h2,h3,h4⟩:=h
 refine⟨by omega,by omega,h3,fun k hk=> ?_⟩
 have:=h4 (oat m.opts k) (b0d Opt.none hk)
 omega
theorem t0k {m:Msg}(h:SmS m):SmO m:=⟨by have:=h.2.2.1;omega,fun o ho=>by have:=h.2.2.2 o ho;omega⟩
theorem i0L (m:Msg)(p:List UInt8)(q:Bool)(hm:SmS m)(hp:p.length≤900000):Sp Tryz.prog 143 [b0n m,roB p,.val (.bool q)] [] (Is (h0O (r0a m p q))):=by
 have hmt:=j0K hm
 refine yH Tryz.func143 _ Tryz.ntmps143 (fun w0 R0=> ?_)
 refine zC (zq ?_)
 refine z9 ?_
 intro B1
 refine zd ?_
 intro B2
 refine zc (zH (zn (zC (zq ?_))))
 refine zb ?_
 refine vO (xD rfl Tryz.func174 rfl rfl rfl (k0S p (by omega))) ?_
 refine zb ?_
 refine zW ?_
 refine zW ?_
 refine zd ?_
 intro B3
 refine za 0 ?_
 refine zc (zH (zn (zC (zC (zq ?_)))))
 refine zb ?_
 refine y8 (zH (zn ?_))
 refine ym (fun h1=> ?_) (fun h1=> ?_)<;>(try simp only[vU]at h1)
 ·rw[q0i h1]
  refine zC (zq ?_)
  refine zM ?_
  refine zb ?_
  refine za 1 ?_
  refine zc (zH (zn (y3 (xh ?_))))
  refine x9 zo zk (⟨rfl,rfl⟩)
 have hut:=j0G (e0b h1).1
 refine yU (zn (zC (zC (zq ?_))))
 refine zb ?_
 refine zt ?_
 refine zA ?_
 refine vO (xD rfl Tryz.func63 rfl rfl rfl (b0M _)) ?_
 refine vO (O.neqB rfl rfl rfl (by rfl)) (zH (zn ?_))
 refine ym (fun h2=> ?_) (fun h2=> ?_)<;>(try simp only[vU]at h2)
 ·rw[q0h h1 h2]
  refine zC (zq ?_)
  refine zM ?_
  refine za 1 ?_
  refine zc (zH (zn (y3 (xh ?_))))
  refine x9 zo zk (⟨rfl,rfl⟩)
 rw[q0g h1 h2]
 refine yU (zn (zC (zq ?_)))
 refine zw ?_
 refine zI ?_
 refine vO (xD rfl Tryz.func175 rfl rfl rfl (o0M m (a0A p).1 hmt hut)) ?_
 refine zW ?_
 refine zW ?_
 refine za 1 ?_
 refine zc (zH (zn (y3 ?_)))
 refine AQ.retCT rfl rfl rfl mM (by rfl) rfl nS (⟨rfl,rfl⟩)
theorem m0Y (m:Msg)(key nonce aad:List UInt8)(q:Bool)(hm:SmS m)(ha:aad.length≤1000000)(hpy:m.pay.length≤900000):Sp Tryz.prog 94 [b0n m,roB m.pay,roB key,roB nonce,roB aad,.val (.bool q)] [] (Is (h0O (h0h key m nonce aad q))):=by
 have hpl:m.pay.length≤1000000:=by omega
 have hol:=i0c key nonce aad m.pay 8
 refine yH Tryz.func94 _ Tryz.ntmps94 (fun w0 R0=> ?_)
 refine zC (zq ?_)
 refine z9 ?_
 intro B1
 refine zd ?_
 intro B2
 refine zc (zH (zn (zC (zq ?_))))
 refine zb ?_
 refine zb ?_
 refine zb ?_
 refine zb ?_
 refine vO (xD rfl Tryz.func142 rfl rfl rfl (o0I key nonce aad m.pay 8 ha hpl)) ?_
 refine zb ?_
 refine zW ?_
 refine zW ?_
 refine zc ?_
 refine zc (zH (zn (zC (zC (zq ?_)))))
 refine zb ?_
 refine y8 (zH (zn ?_))
 refine ym (fun h1=> ?_) (fun h1=> ?_)<;>(try simp only[vU]at h1)
 ·rw[n0a h1]
  refine zC (zq ?_)
  refine zM ?_
  refine za 0 ?_
  refine zc (zH (zn (y3 (xh ?_))))
  refine x9 zP zk (⟨rfl,rfl⟩)
 rw[m0Z h1]
 refine yU (zn (zC (zq ?_)))
 refine zw ?_
 refine zb ?_
 refine zb ?_
 refine vO (xD rfl Tryz.func143 rfl rfl rfl (i0L m (b0x key nonce aad m.pay 8) q hm (by omega))) ?_
 refine zW ?_
 refine zW ?_
 refine za 0 ?_
 refine zc (zH (zn (y3 ?_)))
 refine AQ.retCT rfl rfl rfl (by repeat(exact List.Mem.head _)) (by rfl) rfl nS (⟨rfl,rfl⟩)
theorem j0R {n:Int}(h:rq n=true∨rs n=true):(false=rq n)↔64≤n:=by
 unfold rq rs at*
 simp only[Bool.and_eq_true,cQ]at h
 constructor
 ·intro g
  rcases h with h|h
  ·simp[h.1,h.2]at g
  exact h
 intro g
 have: ¬n≤31:=by omega
 simp[this]
theorem l0f (c:Cx)(m:Msg)(nonce aad:List UInt8)(hm:SmS m)(ha:aad.length≤1000000)(hpy:m.pay.length≤900000):Sp Tryz.prog 93 [h0w c,b0n m,roB nonce,roB aad,.fn (.func 91) []] [] (Is (h0O (h0h c.rk m nonce aad false))):=by
 have hpl:m.pay.length≤1000000:=by omega
 have hol:=i0c c.rk nonce aad m.pay 8
 have hmt:=j0K hm
 refine yH Tryz.func93 _ Tryz.ntmps93 (fun w0 R0=> ?_)
 refine zC (zq ?_)
 refine z9 ?_
 intro B1
 refine z9 ?_
 intro B2
 refine zd ?_
 intro B3
 refine zc (zH (zn (zC (zq ?_))))
 refine zt ?_
 refine zp ?_
 refine zb ?_
 refine zb ?_
 refine zt ?_
 refine zp ?_
 refine vO (xD rfl Tryz.func139 rfl rfl rfl (r0Y c.rk nonce aad m.pay 8 ha hpl)) ?_
 refine zb ?_
 refine zW ?_
 refine zW ?_
 refine zc ?_
 refine zc (zH (zn (zC (zC (zq ?_)))))
 refine zb ?_
 refine y8 (zH (zn ?_))
 refine ym (fun h1=> ?_) (fun h1=> ?_)<;>(try simp only[vU]at h1)
 ·rw[n0a h1]
  refine zC (zq ?_)
  refine zM ?_
  refine za 0 ?_
  refine zc (zH (zn (y3 (xh ?_))))
  refine x9 zP zk (⟨rfl,rfl⟩)
 rw[m0Z h1]
 refine yU (zn (zC (zq ?_)))
 refine zb ?_
 refine vO (xD rfl Tryz.func140 rfl rfl rfl (l0Q (b0x c.rk nonce aad m.pay 8) (by omega))) ?_
 refine zb ?_
 refine zW ?_
 refine zW ?_
 refine zd ?_
 intro B4
 refine za 0 ?_
 refine zc (zH (zn (zC (zC (zq ?_)))))
 refine zb ?_
 refine y8 (zH (zn ?_))
 refine ym (fun h2=> ?_) (fun h2=> ?_)<;>(try simp only[vU]at h2)
 ·rw[q0i h2]
  refine zC (zq ?_)
  refine zM ?_
  refine zb ?_
  refine za 1 ?_
  refine zc (zH (zn (y3 (xh ?_))))
  refine x9 zo zk (⟨rfl,rfl⟩)
 have huo:=e0b h2
 have hut:=j0G huo.1
 refine yU (zn (zC (zC (zq ?_))))
 refine zb ?_
 refine zt ?_
 refine zA ?_
 refine vO (O.callV rfl rfl Tryz.func91 rfl rfl rfl (p0g _)) ?_
 refine xo (zH (zn ?_))
 refine ym (fun h3=> ?_) (fun h3=> ?_)<;>(try simp only[vU]at h3)
 ·rw[q0h h2 (fun g=>by have:=(j0R huo.2).1 g;omega)]
  refine zC (zq ?_)
  refine zM ?_
  refine za 1 ?_
  refine zc (zH (zn (y3 (xh ?_))))
  refine x9 zo zk (⟨rfl,rfl⟩)
 rw[q0g h2 ((j0R huo.2).2 (by omega))]
 refine yU (zn (zC (zq ?_)))
 refine zw ?_
 refine zI ?_
 refine vO (xD rfl Tryz.func141 rfl rfl rfl (s0o m (a0A (b0x c.rk nonce aad m.pay 8)).1 hmt hut)) ?_
 refine zW ?_
 refine zW ?_
 refine za 1 ?_
 refine zc (zH (zn (y3 ?_)))
 refine AQ.retCT rfl rfl rfl mM (by rfl) rfl nS (⟨rfl,rfl⟩)
end Go.Proofs.YtojomcdjcpmnkaaGreat.By
namespace Go.Proofs.YtojomcdjcpmnkaaGreat.W
open Go.RowKit
def v0k (n:Int):Nat:=if 64≤n then 2^64-1 else 2^n.toNat-1
def f0u (s t:Int)(b:Nat):Bool:=(List.range 64).all fun i=> !b.testBit i||(decide ((i:Int)<s)&&decide ((i:Int)≤t))
def d0C (s t:Int)(b:Nat)(l:Bool):Bool:=
  decide (1≤s∧s≤64∧ -1≤t∧t≤1099511627775)&&
    (if l then decide (b=0)&&decide (t= -1)
     else f0u s t b&&(decide (t= -1)||b.testBit 0))
end Go.Proofs.YtojomcdjcpmnkaaGreat.W
namespace Go.Proofs.YtojomcdjcpmnkaaGreat.W
open Go.RowKit L
abbrev u0K (s t:Int)(b:Nat)(l:Bool):Value:= .agg #[.int .i64 s,.int .i64 t,.int .u64 (b:Int),.bool l]
def p0y (n:Int):Prop:= -9223372036854775808≤n∧n≤9223372036854775807
theorem n0U (b:Nat)(hb:b<2^64):bits .and .u64 (b:Int) 1=((b%2:Nat):Int):=by
 rw[show(1:Int)=((1:Nat):Int)from rfl,u64_and_nat _ _ hb (by decide),Nat.and_one_is_mod]
theorem p0V (a b:Nat):(((a:Nat):Int)==((b:Nat):Int))=decide (a=b):=by
 by_cases h:a=b
 ·simp[h]
 ·have: ¬((a:Int)=(b:Int)):=by omega
  simp[h,this]
def e0A (s t:Int)(b:Nat)(l:Bool)(n:Int):Bool:=d0C s t b l&&(decide (0≤n)&&decide (n≤1099511627775))
def u0j (s t:Int)(b:Nat)(l:Bool)(n:Int):Int:=
 if e0A s t b l n=false then 1 else if l then 34 else if n≤t-s∨(n≤t∧b.testBit (t-n).toNat=true)then 33 else 0
theorem r0o (b k:Nat)(hb:b<2^64):(bits .and .u64 ((b:Int)/2^k) 1==1)=b.testBit k:=by
 have e:((b:Int)/2^k)=((b/2^k:Nat):Int):=by simp
 have h:b/2^k<2^64:=Nat.lt_of_le_of_lt (Nat.div_le_self _ _) hb
 rw[e,n0U _ h,Nat.testBit_eq_decide_div_mod_eq]
 exact p0V _ 1
def v0z (s:Int)(b k:Nat):Nat:=((b*2^k%2^64)&&&v0k s)|||1
def v0y (b k:Nat):Nat:=b|||2^k
def x0f (t n:Int):Int:=if t<n then n else t
def x0g (s t:Int)(b:Nat)(n:Int):Nat:=if t<n then v0z s b (n-t).toNat else v0y b (t-n).toNat
def o0l (b:Nat)(i:Int):Bool:=decide (0≤i)&&(decide (i<64)&&b.testBit i.toNat)
theorem o0T (s t:Int)(b:Nat)(l:Bool)(i:Int)(w:World)(hb:b<2^64):
  Calls Tryz.prog 148 #[u0K s t b l,.int .i64 i] w fun e w'=>e= .returned (.bool (o0l b i))∧Ext w w':=by
 by_cases h1:0≤i
 ·by_cases h2:i<64
  ·have V:=Lib.hid (show o0l b i=(bits .and .u64 ((b:Int)/2^i.toNat) 1==1) by rw[r0o b _ hb];simp[o0l,h1,h2])
   rw[V.out]
   go_enter Tryz.func148,Tryz.ntmps148
   go_wp2
   all_goals(go_ret;refine⟨rfl,?_⟩)
   repeat(first|(with_reducible exact Mods.refl _ _)|(with_reducible refine Mods.alloc ?_ _)|(with_reducible refine Mods.drew ?_)|(with_reducible refine Mods.setCell ?_ (fun hlt=>(by first|(simp at hlt;done)|(simp at hlt;omega)|(show _≤_;omega)|(show _<_;omega))) _))
  ·have V:=Lib.hid (show o0l b i=false by simp[o0l,h2])
   rw[V.out]
   go_enter Tryz.func148,Tryz.ntmps148
   go_wp2
   all_goals(go_ret;refine⟨rfl,?_⟩)
   repeat(first|(with_reducible exact Mods.refl _ _)|(with_reducible refine Mods.alloc ?_ _)|(with_reducible refine Mods.drew ?_)|(with_reducible refine Mods.setCell ?_ (fun hlt=>(by first|(simp at hlt;done)|(simp at hlt;omega)|(show _≤_;omega)|(show _<_;omega))) _))
 ·have V:=Lib.hid (show o0l b i=false by simp[o0l,h1])
  rw[V.out]
  go_enter Tryz.func148,Tryz.ntmps148
  go_wp2
  all_goals(go_ret;refine⟨rfl,?_⟩)
  repeat(first|(with_reducible exact Mods.refl _ _)|(with_reducible refine Mods.alloc ?_ _)|(with_reducible refine Mods.drew ?_)|(with_reducible refine Mods.setCell ?_ (fun hlt=>(by first|(simp at hlt;done)|(simp at hlt;omega)|(show _≤_;omega)|(show _<_;omega))) _))
def s0V (s t:Int)(b k:Nat):Bool:=(List.range k).all fun i=> !b.testBit i||(decide ((i:Int)<s)&&decide ((i:Int)≤t))
theorem n0b (s t:Int)(b k:Nat):s0V s t b (k+1)=(s0V s t b k&&(!b.testBit k||(decide ((k:Int)<s)&&decide ((k:Int)≤t)))):=by
 simp[s0V,List.range_succ]
theorem l0g {s t:Int}{b k:Nat}(hk:k<64)(h:(!b.testBit k||(decide ((k:Int)<s)&&decide ((k:Int)≤t)))=false):f0u s t b=false:=by
 unfold f0u
 rw[List.all_eq_false]
 exact⟨k,List.mem_range.2 hk,by rw[h];simp⟩
theorem k0A (b k:Nat)(hk:k<64):o0l b (k:Int)=b.testBit k:=by
 have h:(k:Int)<64:=by omega
 simp[o0l,h]
theorem k0Q (s t:Int)(b:Nat)(w:World)(hb:b<2^64)(g1:1≤s)(g2:s≤64)(g3: -1≤t)(g4:t≤1099511627775):
  Calls Tryz.prog 102 #[u0K s t b false] w fun e w'=>e= .returned (.bool (f0u s t b&&(decide (t= -1)||b.testBit 0)))∧Ext w w':=by
 have hbit:=fun i w=>o0T s t b false i w hb
 have H:=Lib.hid hbit
 clear hbit
 go_enter Tryz.func102,Tryz.ntmps102
 go_wp2
 go_loopw [3] (fun i wr=> ∃k:Nat,k≤64∧i= .int .i64 k∧s0V s t b k=true∧Ext (w.alloc (.cells #[.int .i64 s,.int .i64 t,.int .u64 (b:Int),.bool false] 90)) wr) (fun i _=>(64-intOf i).toNat)
 case atStart=>exact⟨0,by omega,rfl,rfl,Mods.refl _ _⟩
 case round=>
  obtain⟨k,hk,rfl,hok,hE⟩:=hrel
  have HOK:=Lib.hid hok
  clear hok
  obtain⟨hc1,hc2,hc3⟩:=hE.cells
  have hz:w.heap.size<wr.heap.size:=by simp at hc3;omega
  have c0:World.cell? wr ⟨w.heap.size,0,none⟩=some (.int .i64 s):=by simp[go_sem,hc1,hc2]
  have c1:World.cell? wr ⟨w.heap.size,1,none⟩=some (.int .i64 t):=by simp[go_sem,hc1,hc2]
  have c2:World.cell? wr ⟨w.heap.size,2,none⟩=some (.int .u64 (b:Int)):=by simp[go_sem,hc1,hc2]
  have c3:World.cell? wr ⟨w.heap.size,3,none⟩=some (.bool false):=by simp[go_sem,hc1,hc2]
  have cf: ∀o,World.frozen? wr ⟨w.heap.size,o,none⟩=false:=fun o=>by simp[go_sem,hc1,hc2]
  clear hc1 hc2 hc3
  by_cases hlt:k<64
  ·have hkz:(k:Int)<64:=by omega
   have HB:=Lib.hid (k0A b k hlt)
   have hsucc:=n0b s t b k
   have hbad:=fun h=>l0g (s:=s) (t:=t) (b:=b) hlt h
   rw[HOK.out]at hsucc
   generalize hx:b.testBit k=x at*
   have HX:=Lib.hid hx
   clear hx
   cases x
   ·have HS:=Lib.hid (show s0V s t b (k+1)=true by rw[hsucc];rfl)
    clear hsucc hbad
    go_wp2_with fail
    refine(H.out _ _).mono ?_
    rintro e w' ⟨rfl,hE2⟩
    rw[HB.out]
    obtain⟨hc1,hc2,hc3⟩:=hE2.cells
    go_wp2
    go_roundw
    case rel=>exact⟨k+1,by omega,by go_num,HS.out,hE.trans hE2⟩
    case measure=>simp[intOf];omega
   ·by_cases h1:(k:Int)<s
    ·by_cases h2:(k:Int)≤t
     ·have HS:=Lib.hid (show s0V s t b (k+1)=true by rw[hsucc];simp[h1,h2])
      clear hsucc hbad
      go_wp2_with fail
      refine(H.out _ _).mono ?_
      rintro e w' ⟨rfl,hE2⟩
      rw[HB.out]
      obtain⟨hc1,hc2,hc3⟩:=hE2.cells
      go_wp2
      go_roundw
      case rel=>exact⟨k+1,by omega,by go_num,HS.out,hE.trans hE2⟩
      case measure=>simp[intOf];omega
     ·have HS:=Lib.hid (hbad (by simp[h2]))
      clear hsucc hbad
      go_wp2_with fail
      refine(H.out _ _).mono ?_
      rintro e w' ⟨rfl,hE2⟩
      rw[HB.out]
      obtain⟨hc1,hc2,hc3⟩:=hE2.cells
      go_wp2
      go_ret
      refine⟨by rw[HS.out];rfl,?_⟩
      repeat(first|(with_reducible exact Mods.refl _ _)|(with_reducible refine Mods.alloc ?_ _)|(with_reducible refine Mods.drew ?_)|(with_reducible refine Mods.setCell ?_ (fun hlt=>(by first|(simp at hlt;done)|(simp at hlt;omega)|(show _≤_;omega)|(show _<_;omega))) _)|(with_reducible refine Mods.trans ?_ hE2)|(with_reducible refine Mods.trans ?_ hE))
    ·have HS:=Lib.hid (hbad (by simp[h1]))
     clear hsucc hbad
     go_wp2_with fail
     refine(H.out _ _).mono ?_
     rintro e w' ⟨rfl,hE2⟩
     rw[HB.out]
     obtain⟨hc1,hc2,hc3⟩:=hE2.cells
     go_wp2
     go_ret
     refine⟨by rw[HS.out];rfl,?_⟩
     repeat(first|(with_reducible exact Mods.refl _ _)|(with_reducible refine Mods.alloc ?_ _)|(with_reducible refine Mods.drew ?_)|(with_reducible refine Mods.setCell ?_ (fun hlt=>(by first|(simp at hlt;done)|(simp at hlt;omega)|(show _≤_;omega)|(show _<_;omega))) _)|(with_reducible refine Mods.trans ?_ hE2)|(with_reducible refine Mods.trans ?_ hE))
  ·obtain rfl:k=64:=by omega
   have HS:=Lib.hid (show f0u s t b=true from HOK.out)
   by_cases ht1:t= -1
   ·subst ht1
    go_wp2
    go_ret
    refine⟨by rw[HS.out];rfl,?_⟩
    repeat(first|(with_reducible exact Mods.refl _ _)|(with_reducible refine Mods.alloc ?_ _)|(with_reducible refine Mods.drew ?_)|(with_reducible refine Mods.setCell ?_ (fun hlt=>(by first|(simp at hlt;done)|(simp at hlt;omega)|(show _≤_;omega)|(show _<_;omega))) _)|(with_reducible refine Mods.trans ?_ hE))
   ·have hz1:(t== -1)=false:=by simpa using ht1
    have HT:=Lib.hid (show(f0u s t b&&(decide (t= -1)||b.testBit 0))=b.testBit 0 by rw[HS.out];simp[ht1])
    have HB:=Lib.hid (show o0l b 0=b.testBit 0 from k0A b 0 (by omega))
    clear ht1
    go_wp2_with fail
    refine(H.out _ _).mono ?_
    rintro e w' ⟨rfl,hE2⟩
    rw[HB.out]
    go_wp2
    all_goals(go_ret;refine⟨by rw[HT.out];first|rfl|(simp[*];done),?_⟩)
    repeat(first|(with_reducible exact Mods.refl _ _)|(with_reducible refine Mods.alloc ?_ _)|(with_reducible refine Mods.drew ?_)|(with_reducible refine Mods.setCell ?_ (fun hlt=>(by first|(simp at hlt;done)|(simp at hlt;omega)|(show _≤_;omega)|(show _<_;omega))) _)|(with_reducible refine Mods.trans ?_ hE2)|(with_reducible refine Mods.trans ?_ hE))
theorem k0R (s t:Int)(b:Nat)(l:Bool)(w:World)(hs:p0y s)(ht:p0y t)(hb:b<2^64):
  Calls Tryz.prog 102 #[u0K s t b l] w fun e w'=>e= .returned (.bool (d0C s t b l))∧Ext w w':=by
 obtain⟨hs,hs'⟩:=hs
 obtain⟨ht,ht'⟩:=ht
 by_cases hg:1≤s∧s≤64∧ -1≤t∧t≤1099511627775
 ·have hg':=hg
  obtain⟨g1,g2,g3,g4⟩:=hg
  cases l
  ·have V:d0C s t b false=(f0u s t b&&(decide (t= -1)||b.testBit 0)):=by simp[d0C,hg']
   rw[V]
   exact k0Q s t b w hb g1 g2 g3 g4
  ·have V:=Lib.hid (show d0C s t b true=(decide (b=0)&&(t== -1)) by simp only[d0C,g1,g2,g3,g4];rw[show(t== -1)=decide (t= -1)from by rw[Bool.eq_iff_iff];simp];simp)
   rw[V.out]
   by_cases h0:b=0
   ·subst h0
    go_enter Tryz.func102,Tryz.ntmps102
    go_wp2
    all_goals(go_ret;refine⟨?_,(Mods.refl _ _).alloc _⟩;simp;try omega)
   ·have h0':((b:Int)==0)=false:=by simp[h0]
    go_enter Tryz.func102,Tryz.ntmps102
    go_wp2
    all_goals(go_ret;refine⟨?_,(Mods.refl _ _).alloc _⟩;simp[h0];try omega)
 ·have V:=Lib.hid (show d0C s t b l=false by simp only[d0C,hg];simp)
  rw[V.out]
  clear V
  by_cases g1:s<1
  ·go_enter Tryz.func102,Tryz.ntmps102
   go_wp2
   all_goals(go_ret;exact⟨rfl,(Mods.refl _ _).alloc _⟩)
  ·by_cases g2:64<s
   ·go_enter Tryz.func102,Tryz.ntmps102
    go_wp2
    all_goals(go_ret;exact⟨rfl,(Mods.refl _ _).alloc _⟩)
   ·by_cases g3:t< -1
    ·go_enter Tryz.func102,Tryz.ntmps102
     go_wp2
     all_goals(go_ret;exact⟨rfl,(Mods.refl _ _).alloc _⟩)
    ·have g4:1099511627775<t:=by omega
     clear hg
     go_enter Tryz.func102,Tryz.ntmps102
     go_wp2
     all_goals(go_ret;exact⟨rfl,(Mods.refl _ _).alloc _⟩)
end Go.Proofs.YtojomcdjcpmnkaaGreat.W
namespace Go.Proofs.YtojomcdjcpmnkaaGreat.L
open Go.RowKit
def g0n (Q:Act→World→Prop):Exit→Act→World→Prop
 | .normal,a,w=>Q a w
 |_,_,_=>False
@[go_sem] theorem q0x (Q:Act→World→Prop) (a:Act) (w:World):g0n Q .normal a w=Q a w:=rfl
@[go_sem] theorem s0d (Q:Act→World→Prop) (c:List PanicEntry) (a:Act) (w:World):g0n Q (.panic c) a w=False:=rfl
def b0A (P:Program)(ops:Array Oper)(w0:World)(wv:Nat→Bool)(Q:Act→World→Prop):Nat→Array Bool→Act→World→Prop
 |0,listed,a,w=>Region.ready .any ops listed= []∧Q a w
 |fuel+1,listed,a,w=>(Region.ready .any ops listed= []→Q a w)∧
  ∀i∈Region.ready .any ops listed,wpOp P ops (g0n Q) i (fun a' w'=>(wv i=false→Ext w0 w')∧b0A P ops w0 wv Q fuel (listed.setIfInBounds i true) a' w') a w
section
variable {P:Program}{ops:Array Oper}{Q:Act→World→Prop}{w0:World}{wv:Nat→Bool}
def c0f (o:Oper)(j:Nat):Bool:=o.after.any fun e=>Region.binds .any e&&e.on==j
theorem c0b {o:Oper}{j:Nat}(h:c0f o j=true): ∃x∈o.after,Region.binds .any x=true∧x.on=j:=by
 obtain⟨x,hx,hx2⟩:=f0U h
 simp only[Bool.and_eq_true,beq_iff_eq]at hx2
 exact⟨x,hx,hx2.1,hx2.2⟩
def g0U (ops:Array Oper)(listed:Array Bool)(wv:Nat→Bool)(E before:List Nat)(size i:Nat):Bool:=
 (ops[i]?).any fun o=>e0g o&& !listed.getD i true&&(match o.dst with
  | some d=>decide (d<size)&& !(o.looksAt ops).contains d&&
   (o.after.all fun e=> !Region.binds .any e||listed.getD e.on false||before.contains e.on)&&
   (List.range ops.size).all fun j=>j==i||listed.getD j true||(ops[j]?).all fun oj=>
    oj.dst !=some d&&(match oj.dst with|some dj=> !(o.looksAt ops).contains dj||(before.contains j&&c0f o j)|none=>true)&&
    (E.contains j||((!(oj.looksAt ops).contains d||c0f oj i)&&(!wv j||c0f oj i)))
  |none=>false)
def d0o (ops:Array Oper)(listed:Array Bool)(wv:Nat→Bool)(E:List Nat)(size:Nat):List Nat→List Nat→Bool
 |_,[]=>true
 |before,i::rest=>g0U ops listed wv E before size i&& !before.contains i&&d0o ops listed wv E size (before++[i]) rest
def b0P (ops:Array Oper)(i:Nat):Tmp:=((ops[i]?).bind (·.dst)).getD 0
structure Took (ops:Array Oper) (listed:Array Bool) (wv:Nat→Bool) (E:List Nat) (size i:Nat):Prop where
 ex: ∃o,ops[i]? =some o∧e0g o=true∧o.dst=some (b0P ops i)∧b0P ops i∉o.looksAt ops
 free:listed.getD i true=false
 lt:b0P ops i<size
 own: ∀j oj,ops[j]? =some oj→j≠i→listed.getD j true=false→oj.dst≠some (b0P ops i)
 looks: ∀o j oj dj,ops[i]? =some o→ops[j]? =some oj→j≠i→listed.getD j true=false→oj.dst=some dj→dj∈o.looksAt ops→j∈E∧c0f o j=true
 read: ∀j oj,ops[j]? =some oj→j≠i→listed.getD j true=false→j∉E→(b0P ops i∈oj.looksAt ops→c0f oj i=true)∧(wv j=true→c0f oj i=true)
theorem c0s {listed:Array Bool}{E before:List Nat}{size i:Nat}(h:g0U ops listed wv E before size i=true)(hb: ∀j∈before,j∈E):
  Took ops listed wv E size i∧ ∀o,ops[i]? =some o→ ∀e∈o.after,Region.binds .any e=true→listed.getD e.on false=true∨e.on∈before:=by
 unfold g0U at h
 cases ho:ops[i]?with
 |none=>rw[ho]at h;cases h
 |some o=>
 rw[ho]at h
 simp only[Option.any_some]at h
 simp only[Bool.and_eq_true,Bool.not_eq_true']at h
 obtain⟨⟨hpl,hfr⟩,h⟩:=h
 split at h
 ·rename_i d hd
  simp only[Bool.and_eq_true,cQ,Bool.not_eq_true',List.contains_eq_mem,decide_eq_false_iff_not,List.all_eq_true,List.mem_range]at h
  obtain⟨⟨⟨hlt,hself⟩,hback⟩,hall⟩:=h
  have hdi:b0P ops i=d:=by simp[b0P,ho,hd]
  have pair: ∀j oj,ops[j]? =some oj→j≠i→listed.getD j true=false→
    oj.dst≠some d∧(∀dj,oj.dst=some dj→dj∈o.looksAt ops→j∈before∧c0f o j=true)∧(j∉E→(d∈oj.looksAt ops→c0f oj i=true)∧(wv j=true→c0f oj i=true)):=by
   intro j oj hoj hji hlj
   have hjs:j<ops.size:=(Array.getElem?_eq_some_iff.1 hoj).1
   have:=hall j hjs
   simp only[hoj,hlj,Option.all_some,Bool.or_eq_true,beq_iff_eq,hji,false_or,Bool.and_eq_true,bne_iff_ne,ne_eq,cF,or_false,cQ,Bool.not_eq_true',decide_eq_false_iff_not]at this
   obtain⟨⟨h1,h2⟩,h3⟩:=this
   refine⟨h1,fun dj hdj hm=> ?_,fun hjE=> ?_⟩
   ·rw[hdj]at h2
    simp only[Bool.or_eq_true,Bool.and_eq_true,Bool.not_eq_true',decide_eq_false_iff_not,cQ]at h2
    exact h2.resolve_left fun hn=>hn hm
   ·have h4:=h3.resolve_left hjE
    refine⟨fun hm=>h4.1.resolve_left fun hn=>hn hm,fun hw=>h4.2.resolve_left fun hn=>by rw[hw]at hn;cases hn⟩
  refine⟨⟨⟨o,ho,hpl,by rw[hdi];exact hd,by rw[hdi];exact hself⟩,hfr,by rw[hdi];exact hlt,fun j oj hoj hji hlj=>by rw[hdi];exact(pair j oj hoj hji hlj).1,?_,?_⟩,?_⟩
  ·intro o' j oj dj ho' hoj hji hlj hdj hm
   obtain rfl:o=o':=by rw[ho]at ho';exact Option.some.inj ho'
   have:=(pair j oj hoj hji hlj).2.1 dj hdj hm
   exact⟨hb j this.1,this.2⟩
  ·intro j oj hoj hji hlj hjE
   rw[hdi];exact(pair j oj hoj hji hlj).2.2 hjE
  ·intro o' ho' e he hbe
   obtain rfl:o=o':=Option.some.inj ho'
   have:=Array.all_eq_true_iff_forall_mem.1 hback e he
   simp only[hbe,Bool.not_true,Bool.false_or,Bool.or_eq_true,cQ]at this
   simpa using this
 ·cases h
theorem c0M {listed:Array Bool}{E:List Nat}{size k:Nat}: ∀(l2 b2:List Nat),d0o ops listed wv E size b2 l2=true→k∈b2→k∉l2:=by
 intro l2
 induction l2 with
 |nil=>intro b2 _ _ hm;cases hm
 |cons x l2 ih2=>
  intro b2 hk hb hm
  simp only[d0o,Bool.and_eq_true,Bool.not_eq_true',List.contains_eq_mem,decide_eq_false_iff_not]at hk
  rcases List.mem_cons.1 hm with e|hm
  ·exact hk.1.2 (e▸hb)
  ·exact ih2 _ hk.2 (List.mem_append_left _ hb) hm
theorem e0y {o:Oper}{A B:Act}(hsz:A.tmps.size=B.tmps.size)(hag: ∀t∈o.looksAt ops,A.eval (.tmp t)=B.eval (.tmp t)):
  Region.wanted o (yielded ops A.tmps)=Region.wanted o (yielded ops B.tmps):=by
 unfold Region.wanted
 cases hg:o.guard with
 |none=>rfl
 | some gw=>
  obtain⟨g,want⟩:=gw
  have hy:yielded ops A.tmps g=yielded ops B.tmps g:=by
   unfold yielded
   cases ht:(ops[g]?).bind (·.dst)with
   |none=>rfl
   | some t=>
    have he:=hag t (List.mem_append_right _ (by simp[hg,ht]))
    by_cases hts:t<A.tmps.size
    ·have hts':t<B.tmps.size:=by rw[←hsz];exact hts
     simp[Act.eval,Array.getD,hts,hts']at he
     simp[hts,hts',he]
    ·have hts': ¬t<B.tmps.size:=by rw[←hsz];exact hts
     simp[hts,hts']
  simp only[hy]
theorem l0t {o:Oper}{A B:Act}(hns: ∀cs b,o.op≠ .select cs b)(hag: ∀t∈o.looksAt ops,A.eval (.tmp t)=B.eval (.tmp t)):execOp A.eval o=execOp B.eval o:=
 execOp_congr o hns fun x hx=>by
  cases x with
  |tmp t=>exact hag t (List.mem_append_left _ (List.mem_filterMap.2 ⟨.tmp t,by simpa using hx,rfl⟩))
  |_=>rfl
theorem k0Z {listed:Array Bool}{E:List Nat}{C:World→Prop}{Q':Act→Prop}: ∀(is before:List Nat) (l:List Oper) (a:Act),d0o ops listed wv E a.tmps.size before is=true→(∀j∈before++is,j∈E)→
  is.map (fun i=>ops[i]?)=l.map some→wpQuiet P ops C Q' l a→
  ∃a1:Act,Q' a1∧a1.tmps.size=a.tmps.size∧a1.defers=a.defers∧(∀t,(∀i∈is,b0P ops i≠t)→a1.eval (.tmp t)=a.eval (.tmp t))∧
   (∀i∈is,Took ops listed wv E a.tmps.size i)∧(∀i∈is,∀o,ops[i]? =some o→YieldsIn P ops C o (a1.eval (.tmp (b0P ops i))) a1):=by
 intro is
 induction is with
 |nil=>
  intro before l a _ _ hl h
  cases l with
  |nil=>exact⟨a,h,rfl,rfl,fun _ _=>rfl,fun i hi=>(by cases hi),fun i hi=>(by cases hi)⟩
  |cons o l=>simp at hl
 | cons i is ih=>
  intro before l a hok hsub hl h
  cases l with
  |nil=>simp at hl
  | cons o l=>
   simp only[List.map_cons,List.cons.injEq]at hl
   obtain⟨ho,hl⟩:=hl
   simp only[d0o,Bool.and_eq_true]at hok
   obtain⟨⟨hat,hnb⟩,hok⟩:=hok
   obtain⟨hT,_⟩:=c0s hat fun j hj=>hsub j (List.mem_append_left _ hj)
   obtain⟨o',ho',hpl,hd,hself⟩:=hT.ex
   obtain rfl:o=o':=by rw[ho]at ho';exact Option.some.inj ho'
   have hstep: ∃v,YieldsIn P ops C o v a∧wpQuiet P ops C Q' l (a.put o.dst v):=by
    unfold wpQuiet at h
    split at h
    ·rename_i hw
     obtain⟨v,h1,h2⟩:=h
     exact⟨v,.inl ⟨hw,h1⟩,h2⟩
    ·rename_i hw
     exact⟨undef,.inr ⟨by simpa using hw,rfl⟩,h⟩
   obtain⟨v,hy,hq⟩:=hstep
   rw[hd]at hq
   have hsz:(a.put (some (b0P ops i)) v).tmps.size=a.tmps.size:=by simp[Act.put]
   obtain⟨a1,hQ,h1,h2,h3,h4,h5⟩:=ih (before++[i]) l _ (by rw[hsz];exact hok) (fun j hj=>hsub j (by simpa using hj)) hl hq
   rw[hsz]at h1 h4
   have hne: ∀j∈is,b0P ops j≠b0P ops i:=fun j hj e=>by
    have hTj:=h4 j hj
    obtain⟨oj,hoj,_,hdj,_⟩:=hTj.ex
    by_cases hji:i=j
    ·
     subst hji
     exact c0M is (before++[i]) hok (by simp) hj
    ·exact hTj.own i o ho hji hT.free (by rw[hd,e])
   refine⟨a1,hQ,h1,by rw[h2];simp[Act.put],?_,?_,?_⟩
   ·intro t ht
    rw[h3 t fun j hj=>ht j (List.mem_cons_of_mem _ hj),a0j (ht i (List.mem_cons_self ..))]
   ·intro j hj
    rcases List.mem_cons.1 hj with rfl|hj
    ·exact hT
    ·exact h4 j hj
   ·intro j hj oj hoj
    rcases List.mem_cons.1 hj with rfl|hj
    ·obtain rfl:o=oj:=by rw[ho]at hoj;exact Option.some.inj hoj
     have hv:a1.eval (.tmp (b0P ops j))=v:=by rw[h3 _ hne,a0G hT.lt]
     rw[hv]
     have hag: ∀t∈o.looksAt ops,a1.eval (.tmp t)=a.eval (.tmp t):=fun t ht=>by
      have hjt:b0P ops j≠t:=fun e=>hself (by rw[e];exact ht)
      have hkt: ∀k∈is,b0P ops k≠t:=fun k hk e=>by
       have hTk:=h4 k hk
       obtain⟨ok,hok',_,hdk,_⟩:=hTk.ex
       by_cases hkj:k=j
       ·subst hkj;exact hjt e
       ·have:=hT.looks o k ok _ ho hok' hkj hTk.free hdk (by rw[e];exact ht)
        obtain⟨x,hx,hxb,hxo⟩:=c0b this.2
        have hb2:=(c0s hat fun j hj=>hsub j (List.mem_append_left _ hj)).2 o ho x hx hxb
        rw[hxo]at hb2
        rcases hb2 with hb2|hb2
        ·have hf:=hTk.free
         by_cases hks:k<listed.size
         ·rw[b0p hks,hb2]at hf;cases hf
         ·simp[Array.getD,hks]at hf
        ·exact c0M is (before++[j]) hok (List.mem_append_left _ hb2) hk
      rw[h3 t hkt,a0j hjt]
     refine hy.of_same (execOp_congr o ?_ fun x hx=> ?_) ?_
     ·intro cs b e;simp[e0g,e]at hpl
     ·cases x with
      |tmp t=>exact hag t (List.mem_append_left _ (List.mem_filterMap.2 ⟨.tmp t,by simpa using hx,rfl⟩))
      |_=>rfl
     ·exact e0y h1 hag
    ·exact h5 j hj oj hoj
theorem k0q {listed:Array Bool}{i:Nat}(h:listed.getD i true=false):i<listed.size∧listed.getD i false=false:=by
 by_cases hs:i<listed.size
 ·exact⟨hs,by rw[←b0p hs];exact h⟩
 ·simp[Array.getD,hs]at h
theorem e0C {listed:Array Bool}{i:Nat}(hs:i<listed.size)(h:listed.getD i false=false):listed.getD i true=false:=by rw[b0p hs];exact h
theorem h0D {listed:Array Bool}{E:List Nat}{size:Nat}: ∀(l1 before:List Nat) (i:Nat) (l2:List Nat),d0o ops listed wv E size before (l1++i::l2)=true→(∀j∈before++(l1++i::l2),j∈E)→
  ∀o,ops[i]? =some o→ ∀e∈o.after,Region.binds .any e=true→listed.getD e.on false=true∨e.on∈before++l1:=by
 intro l1
 induction l1 with
 |nil=>
  intro before i l2 h hsub
  simp only[cN,d0o,Bool.and_eq_true]at h
  have:=(c0s h.1.1 fun j hj=>hsub j (List.mem_append_left _ hj)).2
  simpa using this
 |cons x l1 ih=>
  intro before i l2 h hsub
  simp only[cA,d0o,Bool.and_eq_true]at h
  have:=ih (before++[x]) i l2 h.2 (fun j hj=>hsub j (by simpa using hj))
  simpa using this
structure GInv (P:Program) (ops:Array Oper) (w0:World) (wv:Nat→Bool) (E:List Nat) (listed0 listed:Array Bool) (A:Act) (W:World) (listedB:Array Bool) (B:Act):Prop where
 s1:listed.size=ops.size
 s2:listedB.size=ops.size
 mono: ∀i,listed0.getD i false=true→listed.getD i false=true
 both: ∀i,i<ops.size→listedB.getD i false=(listed.getD i false||decide (i∈E))
 tmps:A.tmps.size=B.tmps.size
 defers:A.defers=B.defers
 same: ∀t,(∀i∈E,listed.getD i false=false→b0P ops i≠t)→A.eval (.tmp t)=B.eval (.tmp t)
 pend: ∀i∈E,listed.getD i false=false→ ∀o,ops[i]? =some o→YieldsIn P ops (fun w=> ∃x:SW w0,w=x.w) o (B.eval (.tmp (b0P ops i))) B
 ext:(∃i∈E,listed.getD i false=false)→Ext w0 W
theorem v0F {E:List Nat}{listed0:Array Bool}{size0:Nat}(hsel: ∀(j:Nat) (o:Oper) cs b,ops[j]? =some o→o.op≠ .select cs b)(hs0:listed0.size=ops.size)
  (hT: ∀i∈E,Took ops listed0 wv E size0 i) (hord:d0o ops listed0 wv E size0 [] E=true):
  ∀(fuel:Nat) (listed:Array Bool) (A:Act) (W:World) (fuelB:Nat) (listedB:Array Bool) (B:Act),fuel=listed.toList.count false→fuelB=listedB.toList.count false→B.tmps.size=size0→
   GInv P ops w0 wv E listed0 listed A W listedB B→b0A P ops w0 wv Q fuelB listedB B W→b0A P ops w0 wv Q fuel listed A W:=by
 intro fuel
 induction fuel with
 | zero=>
  intro listed A W fuelB listedB B hc hcB hBs hI hK
  have hall: ∀i,i<ops.size→listed.getD i false=true:=by
   intro i hi
   have hi':i<listed.size:=by rw[hI.s1];exact hi
   cases hb:listed.getD i false with
   |true=>rfl
   |false=>
    exfalso
    have hm:false∈listed.toList:=by rw[←hb];simp[Array.getD,hi']
    have:=List.count_pos_iff.2 hm
    omega
  have hAB:A=B:=o0e hI.tmps hI.defers fun t=>hI.same t fun i hi hl=>by
   obtain⟨o,ho,_⟩:=(hT i hi).ex
   rw[hall i (Array.getElem?_eq_some_iff.1 ho).1]at hl;cases hl
  have hLB:listedB=listed:=by
   apply Array.ext (by rw[hI.s1,hI.s2])
   intro i h1 h2
   have h3:i<ops.size:=by rw[←hI.s1];exact h2
   have:=hI.both i h3
   rw[hall i h3]at this
   have h4:=hall i h3
   simp[Array.getD,h1,h2]at this h4
   rw[this,h4]
  subst hAB
  subst hLB
  have:fuelB=0:=by omega
  subst this
  exact hK
 | succ fuel ih=>
  intro listed A W fuelB listedB B hc hcB hBs hI hK
  have hready_lt: ∀{L:Array Bool} {i:Nat},i∈Region.ready .any ops L→i<ops.size:=fun hi=>by
   obtain⟨_,o,ho,_⟩:=mem_ready.1 hi
   exact(Array.getElem?_eq_some_iff.1 ho).1
  have hun0: ∀j,j<ops.size→listed.getD j false=false→listed0.getD j true=false:=fun j hj hl=>by
   rw[b0p (by rw[hs0];exact hj)]
   cases hb:listed0.getD j false with
   |false=>rfl
   |true=>rw[hI.mono j hb]at hl;cases hl
  have hfirst:(∃i∈E,listed.getD i false=false)→Region.ready .any ops listed≠ []:=by
   rintro⟨i,hiE,hil⟩ hempty
   have key: ∀(l2 l1:List Nat),E=l1++l2→(∀j∈l1,listed.getD j false=true)→ ∀j∈l2,listed.getD j false=true:=by
    intro l2
    induction l2 with
    |nil=>intro _ _ _ j hj;cases hj
    | cons x l2 ih2=>
     intro l1 hE hl1
     have hx:listed.getD x false=true:=by
      cases hb:listed.getD x false with
      |true=>rfl
      | false=>
       exfalso
       obtain⟨o,ho,_⟩:=(hT x (by rw[hE];simp)).ex
       have hxs:=(Array.getElem?_eq_some_iff.1 ho).1
       have hr:x∈Region.ready .any ops listed:=mem_ready.2 ⟨e0C (by rw[hI.s1];exact hxs) hb,o,ho,fun e he hbe=>by
        have:=h0D l1 [] x l2 (by rw[←hE];exact hord) (fun j hj=>by rw[hE];simpa using hj) o ho e he hbe
        rcases this with h|h
        ·exact hI.mono _ h
        ·exact hl1 _ (by simpa using h)⟩
       rw[hempty]at hr;cases hr
     intro j hj
     rcases List.mem_cons.1 hj with rfl|hj
     ·exact hx
     ·exact ih2 (l1++[x]) (by rw[hE];simp) (fun k hk=>by
       rcases List.mem_append.1 hk with hk|hk
       ·exact hl1 k hk
       ·rw[List.mem_singleton.1 hk];exact hx) j hj
   have:=key E [] rfl (fun j hj=>by cases hj) i hiE
   rw[hil]at this;cases this
  have hdone:(¬ ∃i∈E,listed.getD i false=false)→A=B∧listedB=listed:=fun hno=>by
   have hAB:A=B:=o0e hI.tmps hI.defers fun t=>hI.same t fun i hi hl=>absurd ⟨i,hi,hl⟩ hno
   refine⟨hAB,Array.ext (by rw[hI.s1,hI.s2]) fun i h1 h2=> ?_⟩
   have h3:i<ops.size:=by rw[←hI.s1];exact h2
   have:=hI.both i h3
   cases hb:listed.getD i false with
   |true=>
    rw[hb]at this
    simp[Array.getD,h1,h2]at this hb
    rw[this,hb]
   |false=>
    have hnE:i∉E:=fun hE=>hno ⟨i,hE,hb⟩
    rw[hb]at this
    simp[Array.getD,h1,h2,hnE]at this hb
    rw[this,hb]
  have hfuelB:(∃j,j<ops.size∧listedB.getD j false=false)→ ∃f,fuelB=f+1:=by
   rintro⟨j,hj,hl⟩
   have hj':j<listedB.size:=by rw[hI.s2];exact hj
   have hm:false∈listedB.toList:=by rw[←hl];simp[Array.getD,hj']
   have:=List.count_pos_iff.2 hm
   exact⟨fuelB-1,by omega⟩
  refine⟨fun hempty=> ?_,fun i hi=> ?_⟩
  ·have hno: ¬ ∃i∈E,listed.getD i false=false:=fun h=>hfirst h hempty
   obtain⟨hAB,hLB⟩:=hdone hno
   subst hAB
   subst hLB
   cases fuelB with
   |zero=>exact hK.2
   |succ f=>exact hK.1 hempty
  ·obtain⟨h0,o,ho,hdeps⟩:=mem_ready.1 hi
   obtain⟨hil,hif⟩:=k0q h0
   have hio:=hready_lt hi
   have hcs:=a0Z listed.toList i (by simpa using hil) (by simpa[Array.getD,hil]using hif)
   have hlook: ∀j∈E,listed.getD j false=false→j≠i→b0P ops j∉o.looksAt ops:=fun j hjE hjl hji hm=>by
    obtain⟨oj,hoj,_,hdj,_⟩:=(hT j hjE).ex
    have hjs:=(Array.getElem?_eq_some_iff.1 hoj).1
    by_cases hiE:i∈E
    ·have:=(hT i hiE).looks o j oj _ ho hoj hji (hun0 j hjs hjl) hdj hm
     obtain⟨x,hx,hxb,hxo⟩:=c0b this.2
     have:=hdeps x hx hxb
     rw[hxo,hjl]at this;cases this
    ·have:=((hT j hjE).read i o ho (Ne.symm hji) (hun0 i hio hif) hiE).1 hm
     obtain⟨x,hx,hxb,hxo⟩:=c0b this
     have:=hdeps x hx hxb
     rw[hxo,hjl]at this;cases this
   have hag: ∀t∈o.looksAt ops,A.eval (.tmp t)=B.eval (.tmp t):=fun t ht=>hI.same t fun j hjE hjl e=>by
    by_cases hji:j=i
    ·subst hji
     obtain⟨o',ho',_,_,hself⟩:=(hT j hjE).ex
     obtain rfl:o=o':=by rw[ho]at ho';exact Option.some.inj ho'
     exact hself (by rw[e];exact ht)
    ·exact hlook j hjE hjl hji (by rw[e];exact ht)
   have hexec:=l0t (fun cs b=>hsel i o cs b ho) hag
   have hwant:=e0y (ops:=ops) hI.tmps hag
   by_cases hiE:i∈E
   ·
    obtain⟨o',ho',hpl,hd,hself⟩:=(hT i hiE).ex
    obtain rfl:o=o':=by rw[ho]at ho';exact Option.some.inj ho'
    have hW:=hI.ext ⟨i,hiE,hif⟩
    have hlt:=(hT i hiE).lt
    have hnext:b0A P ops w0 wv Q fuel (listed.setIfInBounds i true) (A.put o.dst (B.eval (.tmp (b0P ops i)))) W:=by
     refine ih _ _ _ fuelB listedB B (by simp only[Array.toList_setIfInBounds];omega) hcB hBs ⟨by simpa using hI.s1,hI.s2,?_,?_,?_,?_,?_,?_,?_⟩ hK
     ·intro j hj
      by_cases hji:j=i
      ·subst hji;simp[Array.getD,hil]
      ·rw[getD_set_ne false (Ne.symm hji)];exact hI.mono j hj
     ·intro j hj
      by_cases hji:j=i
      ·subst hji;rw[hI.both j hj];simp[Array.getD,hil,hiE]
      ·rw[getD_set_ne false (Ne.symm hji)];exact hI.both j hj
     ·rw[hd];simp[Act.put,hI.tmps]
     ·rw[hd];simp[Act.put,hI.defers]
     ·intro t ht
      rw[hd]
      by_cases e:b0P ops i=t
      ·subst e;rw[a0G (by rw[hI.tmps,hBs];exact hlt)]
      ·rw[a0j e]
       refine hI.same t fun j hjE hjl=> ?_
       by_cases hji:j=i
       ·subst hji;exact e
       ·exact ht j hjE (by rw[getD_set_ne false (Ne.symm hji)];exact hjl)
     ·intro j hjE hjl oj hoj
      by_cases hji:j=i
      ·subst hji;simp[Array.getD,hil]at hjl
      ·rw[getD_set_ne false (Ne.symm hji)]at hjl;exact hI.pend j hjE hjl oj hoj
     ·rintro⟨j,hjE,hjl⟩
      exact hW
    have hy:=hI.pend i hiE hif o ho
    unfold wpOp
    rw[ho]
    show if Region.wanted o (yielded ops A.tmps)=true then _ else _
    rw[hwant]
    rcases hy with⟨hw,hq⟩|⟨hw,hv⟩
    ·rw[if_pos hw]
     refine .inl ?_
     have hq1:=hq W ⟨⟨W,hW⟩,rfl⟩
     have hne:=fun f args W'=>j0b (P:=P) hpl B.eval (W:=W) (W':=W') (f:=f) (args:=args)
     unfold Oper.quietAt at hq1
     unfold Oper.wp
     rw[hexec]
     generalize(execOp B.eval o).run P W=r at*
     cases r with
     | ok nx w'=>
      cases nx<;>simp only[Oper.quietUpon]at hq1<;>simp only[Oper.upon]
      case value u=>
       obtain⟨e1,e2⟩:=hq1
       rw[e1,e2];exact⟨fun _=>hW,hnext⟩
      case skip=>
       obtain⟨e1,e2⟩:=hq1
       rw[e1,←e2];exact⟨fun _=>hW,hnext⟩
      case enter f args=>exact absurd rfl (hne f args w')
     |halt x w'=>simp only[Oper.quietUpon]at hq1
    ·rw[if_neg (by rw[hw];simp)]
     rw[hv]at hnext
     exact⟨fun _=>hW,hnext⟩
   ·
    have hiB:listedB.getD i false=false:=by rw[hI.both i hio,hif];simp[hiE]
    obtain⟨f,rfl⟩:=hfuelB ⟨i,hio,hiB⟩
    have hiBl:i<listedB.size:=by rw[hI.s2];exact hio
    have hcsB:=a0Z listedB.toList i (by simpa using hiBl) (by simpa[Array.getD,hiBl]using hiB)
    have hrB:i∈Region.ready .any ops listedB:=mem_ready.2 ⟨e0C hiBl hiB,o,ho,fun e he hbe=>by
     have h1:=hdeps e he hbe
     by_cases hes:e.on<ops.size
     ·rw[hI.both _ hes,h1];rfl
     ·simp[Array.getD,show ¬e.on<listed.size by rw[hI.s1];exact hes]at h1⟩
    have hop:=hK.2 i hrB
    have hnext: ∀(ds:List Deferred) v w',((wv i=false→Ext w0 w')∧b0A P ops w0 wv Q f (listedB.setIfInBounds i true) (({B with defers:=ds}:Act).put o.dst v) w')→
      ((wv i=false→Ext w0 w')∧b0A P ops w0 wv Q fuel (listed.setIfInBounds i true) (({A with defers:=ds}:Act).put o.dst v) w'):=by
     rintro ds v w' ⟨hE',hK'⟩
     have evA: ∀t,(({A with defers:=ds}:Act).put o.dst v).eval (.tmp t)=(A.put o.dst v).eval (.tmp t):=fun t=>by cases o.dst<;>rfl
     have evB: ∀t,(({B with defers:=ds}:Act).put o.dst v).eval (.tmp t)=(B.put o.dst v).eval (.tmp t):=fun t=>by cases o.dst<;>rfl
     refine⟨hE',ih _ _ _ f _ (({B with defers:=ds}:Act).put o.dst v) (by simp only[Array.toList_setIfInBounds];omega) (by simp only[Array.toList_setIfInBounds];omega) ?_ ⟨by simpa using hI.s1,by simpa using hI.s2,?_,?_,?_,?_,?_,?_,?_⟩ hK'⟩
     ·rw[←hBs];cases o.dst<;>simp[Act.put]
     ·intro j hj
      by_cases hji:j=i
      ·subst hji;simp[Array.getD,hil]
      ·rw[getD_set_ne false (Ne.symm hji)];exact hI.mono j hj
     ·intro j hj
      by_cases hji:j=i
      ·subst hji;simp[Array.getD,hil,hiBl]
      ·rw[getD_set_ne false (Ne.symm hji),getD_set_ne false (Ne.symm hji)];exact hI.both j hj
     ·cases o.dst<;>simp[Act.put,hI.tmps]
     ·cases o.dst<;>simp[Act.put]
     ·intro t ht
      rw[evA,evB]
      have hold:(∀d,o.dst=some d→d≠t)→(A.put o.dst v).eval (.tmp t)=(B.put o.dst v).eval (.tmp t):=fun hd=>by
       have h1:A.eval (.tmp t)=B.eval (.tmp t):=hI.same t fun j hjE hjl=>by
        by_cases hji:j=i
        ·exact absurd (hji▸hjE) hiE
        ·exact ht j hjE (by rw[getD_set_ne false (Ne.symm hji)];exact hjl)
       cases hdd:o.dst with
       |none=>exact h1
       |some d=>rw[a0j (hd d hdd),a0j (hd d hdd)];exact h1
      cases hdd:o.dst with
      |none=>rw[hdd]at hold;exact hold fun d hd=>by cases hd
      | some d=>
       by_cases e:d=t
       ·subst e
        by_cases hds:d<A.tmps.size
        ·rw[a0G hds,a0G (by rw[←hI.tmps];exact hds)]
        ·have hds': ¬d<B.tmps.size:=by rw[←hI.tmps];exact hds
         simp[Act.eval,Act.put,Array.getD,hds,hds']
       ·rw[hdd]at hold
        exact hold fun d' hd'=>by cases hd';exact e
     ·intro j hjE hjl oj hoj
      have hji:j≠i:=fun e=>hiE (e▸hjE)
      rw[getD_set_ne false (Ne.symm hji)]at hjl
      have hy:=hI.pend j hjE hjl oj hoj
      have hjs:=(Array.getElem?_eq_some_iff.1 hoj).1
      have hnl: ∀d,o.dst=some d→d∉oj.looksAt ops:=fun d hd hm=>hiE ((hT j hjE).looks oj i o d hoj ho (Ne.symm hji) (hun0 i hio hif) hd hm).1
      have hnd: ∀d,o.dst=some d→d≠b0P ops j:=fun d hd e=>(hT j hjE).own i o ho (Ne.symm hji) (hun0 i hio hif) (by rw[hd,e])
      have hv:(B.put o.dst v).eval (.tmp (b0P ops j))=B.eval (.tmp (b0P ops j)):=Act.eval_put fun d hd e=>hnd d hd (by injection e with e;exact e.symm)
      rw[evB,hv]
      have hyd:YieldsIn P ops (fun w=> ∃x:SW w0,w=x.w) oj (B.eval (.tmp (b0P ops j))) ({B with defers:=ds}:Act):=hy.of_same rfl rfl
      refine hyd.of_same (execOp_put oj (fun cs b=>hsel j oj cs b hoj) _ o.dst v hnl) (wanted_put oj _ o.dst v hnl)
     ·rintro⟨j,hjE,hjl⟩
      have hji:j≠i:=fun e=>hiE (e▸hjE)
      rw[getD_set_ne false (Ne.symm hji)]at hjl
      refine hE' ?_
      cases hwi:wv i with
      |false=>rfl
      |true=>
       exfalso
       have:=((hT j hjE).read i o ho (Ne.symm hji) (hun0 i hio hif) hiE).2 hwi
       obtain⟨x,hx,hxb,hxo⟩:=c0b this
       have:=hdeps x hx hxb
       rw[hxo,hjl]at this;cases this
    unfold wpOp at hop⊢
    rw[ho]at hop⊢
    show if Region.wanted o (yielded ops A.tmps)=true then _ else _
    have hop':if Region.wanted o (yielded ops B.tmps)=true then _ else _:=hop
    rw[hwant]
    split
    ·rename_i hw
     rw[if_pos hw]at hop'
     refine .inl ?_
     have hop2:=hop'.resolve_right (by rintro⟨_,_,_,hh⟩;exact(hh:False).elim)
     unfold Oper.wp at hop2⊢
     rw[hexec]
     generalize(execOp B.eval o).run P W=r at*
     cases r with
     | ok nx w'=>
      cases nx<;>simp only[Oper.upon]at hop2⊢
      case value u=>exact hnext B.defers u w' hop2|>fun h=>by have hd:=hI.defers;rw[←hd]at h;exact h
      case skip=>exact hnext B.defers undef w' hop2|>fun h=>by have hd:=hI.defers;rw[←hd]at h;exact h
      case defer dd=>exact hnext (dd::B.defers) undef w' hop2|>fun h=>by have hd:=hI.defers;rw[←hd]at h;exact h
      case enter g args=>
       refine Calls.mono hop2 fun e W' he=> ?_
       cases e with
       |returned u=>exact hnext B.defers u W' he|>fun h=>by have hd:=hI.defers;rw[←hd]at h;exact h
       |panicked ch=>exact(he:False).elim
       |outgrown=>obtain⟨_,_,hh⟩:=he;exact(hh:False).elim
      case row row args=>exact Rows.mono hop2 fun u W' he=>hnext B.defers u W' he|>fun h=>by have hd:=hI.defers;rw[←hd]at h;exact h
     |halt x w'=>cases x<;>simp only[Oper.upon]at hop2⊢ <;>exact(hop2:False).elim
    ·rename_i hw
     rw[if_neg hw]at hop'
     exact hnext B.defers undef W hop'|>fun h=>by have hd:=hI.defers;rw[←hd]at h;exact h
def d0F (listed:Array Bool)(E:List Nat):Array Bool:=E.foldl (fun L i=>L.setIfInBounds i true) listed
theorem i0Q (E:List Nat): ∀listed:Array Bool,(d0F listed E).size=listed.size:=by
 induction E with
 |nil=>intro _;rfl
 |cons i E ih=>intro L;rw[show d0F L (i::E)=d0F (L.setIfInBounds i true) E from rfl,ih];simp
theorem k0N (E:List Nat): ∀(listed:Array Bool) (j:Nat),j<listed.size→(d0F listed E).getD j false=(listed.getD j false||decide (j∈E)):=by
 induction E with
 |nil=>intro L j _;simp[d0F]
 |cons i E ih=>
  intro L j hj
  rw[show d0F L (i::E)=d0F (L.setIfInBounds i true) E from rfl,ih _ _ (by simpa using hj)]
  by_cases hji:j=i
  ·subst hji;simp[Array.getD,hj]
  ·rw[getD_set_ne false (Ne.symm hji)];simp[hji]
def h0e (l:List Oper):List Nat→List Oper
 | []=> []
 |i::is=>match l[i]?with
  |some o=>o::h0e l is
  |none=>h0e l is
theorem h0W (l:List Oper): ∀(is:List Nat),(is.all fun i=>decide (i<l.length))=true→is.map (fun i=>l.toArray[i]?)=(h0e l is).map some
 | [],_=>rfl
 |i::is,h=>by
  simp only[List.all_cons,Bool.and_eq_true,cQ]at h
  have hi:l[i]? =some l[i]:=by simp[h.1]
  simp only[List.map_cons,h0e,hi,List.map_cons,h0W l is h.2]
  simp[h.1]
theorem G.take {l:List Oper}{a:Act}{w:World}{fuel:Nat}{listed:Array Bool}(E:List Nat)(listed':Array Bool)(fuel':Nat)(hns:Region.noSelect l.toArray=true)(hin:(E.all fun i=>decide (i<l.length))=true)
  (hok:d0o l.toArray listed wv E a.tmps.size [] E=true) (hsz:listed.size=l.toArray.size) (hf:fuel=listed.toList.count false) (hl':d0F listed E=listed') (hf':fuel'=listed'.toList.count false) (hE:Ext w0 w)
  (h:wpQuiet P l.toArray (fun w=> ∃x:SW w0,w=x.w) (fun a1=>b0A P l.toArray w0 wv Q fuel' listed' a1 w) (h0e l E) a):b0A P l.toArray w0 wv Q fuel listed a w:=by
 obtain⟨a1,hK,h1,h2,h3,h4,h5⟩:=k0Z E [] (h0e l E) a hok (fun j hj=>by simpa using hj) (h0W l E hin) h
 subst hl'
 refine v0F (size0:=a.tmps.size) (E:=E) (listed0:=listed) (Region.noSelect_spec hns) hsz h4 hok fuel listed a w fuel' (d0F listed E) a1 hf hf' h1 ⟨hsz,by rw[i0Q];exact hsz,fun _ h=>h,fun i hi=>k0N E listed i (by rw[hsz];exact hi),h1.symm,h2.symm,?_,fun i hi _ o ho=>h5 i hi o ho,fun _=>hE⟩ hK
 intro t ht
 refine(h3 t fun i hi=>ht i hi ?_).symm
 have hfr:=(h4 i hi).free
 exact(k0q hfr).2
theorem G.one {a:Act}{w:World}{fuel:Nat}{listed:Array Bool}(i:Nat){o:Oper}(listed':Array Bool)(ho:ops[i]? =some o)(hr:Region.ready .any ops listed= [i])(hl':listed.setIfInBounds i true=listed')(hw:Region.wanted o (yielded ops a.tmps)=true)
  (h:o.wp P a w (fun a' w'=>(wv i=false→Ext w0 w')∧b0A P ops w0 wv Q fuel listed' a' w') (g0n Q)):b0A P ops w0 wv Q (fuel+1) listed a w:=by
 subst hl'
 refine⟨fun e=>(by rw[hr]at e;cases e),fun j hj=> ?_⟩
 rw[hr]at hj
 obtain rfl:=List.mem_singleton.1 hj
 unfold wpOp
 rw[ho]
 show if Region.wanted o (yielded ops a.tmps)=true then _ else _
 rw[if_pos hw]
 exact .inl h
theorem G.call {a:Act}{w:World}{fuel:Nat}{listed:Array Bool}(i:Nat){o:Oper}(listed':Array Bool){f:FuncId}{fn:Func}{xs:Array Operand}{ats:Array TypeId}(ho:ops[i]? =some o)
  (hop:o.op= .call {callee:= .value (.func f),args:=xs,argTypes:=ats}) (hfn:P.funcs[f]? =some fn) (hn:(fn.name== "runtime.NumGoroutine")=false) (hb:fn.body.isNone=false)
  (hr:Region.ready .any ops listed= [i]) (hl':listed.setIfInBounds i true=listed') (hw:Region.wanted o (yielded ops a.tmps)=true) {args:Array Value} (hargs:xs.map a.eval=args)
  (h:Calls P f args w fun e w'=> ∃v,e= .returned v∧(wv i=false→Ext w0 w')∧b0A P ops w0 wv Q fuel listed' (a.put o.dst v) w'):b0A P ops w0 wv Q (fuel+1) listed a w:=by
 refine G.one i listed' ho hr hl' hw ?_
 unfold Oper.wp
 rw[b0S hop hfn hn hb,hargs]
 refine Calls.mono h fun e w' he=> ?_
 obtain⟨v,rfl,h1,h2⟩:=he
 exact⟨h1,h2⟩
theorem G.two {a:Act}{w:World}{fuel:Nat}{listed:Array Bool}(i j:Nat)(hr:Region.ready .any ops listed= [i,j])
  (h1:wpOp P ops (g0n Q) i (fun a' w'=>(wv i=false→Ext w0 w')∧b0A P ops w0 wv Q fuel (listed.setIfInBounds i true) a' w') a w)
  (h2:wpOp P ops (g0n Q) j (fun a' w'=>(wv j=false→Ext w0 w')∧b0A P ops w0 wv Q fuel (listed.setIfInBounds j true) a' w') a w):b0A P ops w0 wv Q (fuel+1) listed a w:=by
 refine⟨fun e=>(by rw[hr]at e;cases e),fun k hk=> ?_⟩
 rw[hr]at hk
 rcases List.mem_cons.1 hk with rfl|hk
 ·exact h1
 ·obtain rfl:=List.mem_singleton.1 hk
  exact h2
theorem G.wp {a:Act}{w:World}{K:Act→World→Prop}(i:Nat){o:Oper}(ho:ops[i]? =some o)(hw:Region.wanted o (yielded ops a.tmps)=true)(h:o.wp P a w K (g0n Q)):wpOp P ops (g0n Q) i K a w:=by
 unfold wpOp
 rw[ho]
 show if Region.wanted o (yielded ops a.tmps)=true then _ else _
 rw[if_pos hw]
 exact .inl h
theorem G.done {a:Act}{w:World}(fuel:Nat){listed:Array Bool}(hr:Region.ready .any ops listed= [])(h:Q a w):b0A P ops w0 wv Q fuel listed a w:=by
 cases fuel with
 |zero=>exact⟨hr,h⟩
 |succ f=>exact⟨fun _=>h,fun i hi=>by rw[hr]at hi;cases hi⟩
def h0r (ops:Array Oper)(wv:Nat→Bool):Array Bool→List Nat→Bool
 |listed,[]=>Region.ready .any ops listed== []
 |listed,i::is=>(Region.ready .any ops listed== [i])&&wv i&&h0r ops wv (listed.setIfInBounds i true) is
theorem G.list {l:List Oper}: ∀(is:List Nat) (fuel:Nat) (listed:Array Bool) (a:Act) (w:World),fuel=is.length→(is.all fun i=>decide (i<l.length))=true→h0r l.toArray wv listed is=true→
  wpList P l.toArray (g0n Q) (h0e l is) a w→b0A P l.toArray w0 wv Q fuel listed a w
 | [],fuel,listed,a,w,hf,_,hc,h=>G.done fuel (by simpa[h0r]using hc) h
 | i::is,fuel,listed,a,w,hf,hin,hc,h=>by
  simp only[List.all_cons,Bool.and_eq_true,cQ]at hin
  simp only[h0r,Bool.and_eq_true,beq_iff_eq]at hc
  obtain⟨⟨hr,hwv⟩,hc⟩:=hc
  have hi:l[i]? =some l[i]:=by simp[hin.1]
  have ho:l.toArray[i]? =some l[i]:=by simp[hin.1]
  simp only[h0e,hi]at h
  subst hf
  have hK: ∀a' w',wpList P l.toArray (g0n Q) (h0e l is) a' w'→(wv i=false→Ext w0 w')∧b0A P l.toArray w0 wv Q is.length (listed.setIfInBounds i true) a' w':=fun a' w' h'=>
   ⟨fun e=>(by rw[hwv]at e;cases e),G.list is is.length _ a' w' rfl hin.2 hc h'⟩
  refine⟨fun e=>(by rw[hr]at e;cases e),fun j hj=> ?_⟩
  rw[hr]at hj
  obtain rfl:=List.mem_singleton.1 hj
  unfold wpList at h
  unfold wpOp
  rw[ho]
  show if Region.wanted l[j] (yielded l.toArray a.tmps)=true then _ else _
  split
  ·rename_i hw;rw[if_pos hw]at h;exact h.imp (Oper.wp_mono hK) id
  ·rename_i hw;rw[if_neg hw]at h;exact hK _ _ h
end
end Go.Proofs.YtojomcdjcpmnkaaGreat.L
namespace Go.Proofs.YtojomcdjcpmnkaaGreat.W
open Go.RowKit L
end Go.Proofs.YtojomcdjcpmnkaaGreat.W
namespace Go.Proofs.YtojomcdjcpmnkaaGreat.Wi
open Go.RowKit L A Dk W
attribute [local irreducible] AW AQ AO
structure Win where
 s:Int
 t:Int
 b:Nat
 l:Bool
 deriving DecidableEq
def Win.ok (w:Win):Prop:=p0y w.s∧p0y w.t∧w.b<2^64
def w0g (w:Win):List AV:= [.val (.int .i64 w.s),.val (.int .i64 w.t),.val (.int .u64 (w.b:Int)),.val (.bool w.l)]
def w0h (w:Win):AV:= .agg (w0g w)
def zeroW:Win:=⟨0,0,0,false⟩
def check (w:Win)(n:Int):Int:=u0j w.s w.t w.b w.l n
def acc (w:Win)(n:Int):Win:=if check w n=0 then⟨w.s,x0f w.t n,x0g w.s w.t w.b n,false⟩else zeroW
def valid (w:Win):Bool:=d0C w.s w.t w.b w.l
theorem f0n (w:Win)(h:w.ok):Sp Tryz.prog 102 [w0h w] [] (Is (.val (.bool (valid w)))):=Sp.of_calls rfl rfl fun W=>k0R w.s w.t w.b w.l W h.1 h.2.1 h.2.2
end Go.Proofs.YtojomcdjcpmnkaaGreat.Wi
namespace Go.Proofs.YtojomcdjcpmnkaaGreat.By
open Go.RowKit L A
attribute [local irreducible] AW AQ AO
theorem q0X {c:Cmp}(h:(g0j c).2=0):o0f c:=by
 by_cases hv:o0f c
 ·exact hv
 unfold g0j at h;rw[if_pos hv]at h;cases h
theorem h0P {m:Msg}(h:(a0R m).2=0):o0f (a0R m).1:=by
 unfold a0R at*
 split at h
 ·cases h
 ·rename_i v e
  exact q0X (by rw[p0N (r:=v) (y:=(n0J v).1) (by rw[←h])])
 cases h
abbrev SmT (m:Msg):Prop:=SmS m∧m.pay.length≤900000
abbrev c0V (c:Cx)(b:Bd):Prop:=b.kid=c.inp.snd∧b.ctx=c.inp.ctx∧e0v b.piv
abbrev l0G (v:Cmp):Prop:=v.hasKid=false∧v.hasCtx=false∧v.group=false
noncomputable def orP (c:Cx)(b:Bd)(m:Msg):Msg×Int:=h0h c.rk m (b0z c b c.inp.rcp (a0R m).1.piv) (k0G b.kid b.piv).1 false
noncomputable def orR (c:Cx)(b:Bd)(m:Msg):Msg×Int×Int:=
 if ¬f0Z c then(Msg.none,0,1)else if ¬c0V c b then(Msg.none,0,36)else
 if(a0R m).2≠0 then(Msg.none,0,(a0R m).2)else if ¬l0G (a0R m).1 then(Msg.none,0,4)else
 if(orP c b m).2≠0 then(Msg.none,0,(orP c b m).2)else((orP c b m).1,(a0R m).1.piv,0)
abbrev v0K (r:Msg×Int×Int):AV:= .tup [b0n r.1,.val (.int .i64 r.2.1),.val (.int .i64 r.2.2)]
theorem t0E {c:Cx}{b:Bd}{m:Msg}(h: ¬f0Z c):orR c b m=(Msg.none,0,1):=if_pos h
theorem t0D {c:Cx}{b:Bd}{m:Msg}(h:f0Z c)(h2: ¬c0V c b):orR c b m=(Msg.none,0,36):=(if_neg (fun g=>g h)).trans (if_pos h2)
theorem t0C {c:Cx}{b:Bd}{m:Msg}(h:f0Z c)(h2:c0V c b)(h3:(a0R m).2≠0):orR c b m=(Msg.none,0,(a0R m).2):=(if_neg (fun g=>g h)).trans ((if_neg (fun g=>g h2)).trans (if_pos h3))
theorem t0B {c:Cx}{b:Bd}{m:Msg}(h:f0Z c)(h2:c0V c b)(h3:(a0R m).2=0)(h4: ¬l0G (a0R m).1):orR c b m=(Msg.none,0,4):=(if_neg (fun g=>g h)).trans ((if_neg (fun g=>g h2)).trans ((if_neg (fun g=>g h3)).trans (if_pos h4)))
theorem r0V {c:Cx}{b:Bd}{m:Msg}(h:f0Z c)(h2:c0V c b)(h3:(a0R m).2=0)(h4:l0G (a0R m).1)(h5:(orP c b m).2≠0):orR c b m=(Msg.none,0,(orP c b m).2):=(if_neg (fun g=>g h)).trans ((if_neg (fun g=>g h2)).trans ((if_neg (fun g=>g h3)).trans ((if_neg (fun g=>g h4)).trans (if_pos h5))))
theorem r0U {c:Cx}{b:Bd}{m:Msg}(h:f0Z c)(h2:c0V c b)(h3:(a0R m).2=0)(h4:l0G (a0R m).1)(h5:(orP c b m).2=0):orR c b m=((orP c b m).1,(a0R m).1.piv,0):=(if_neg (fun g=>g h)).trans ((if_neg (fun g=>g h2)).trans ((if_neg (fun g=>g h3)).trans ((if_neg (fun g=>g h4)).trans (if_neg (fun g=>g h5)))))
theorem t0F (c:Cx)(b:Bd)(m:Msg)(hm:SmT m):Sp Tryz.prog 48 [h0w c,d0X b,b0n m] [] (Is (v0K (orR c b m))):=by
 have hmo:=t0k hm.1
 refine yH Tryz.func48 _ Tryz.ntmps48 (fun w0 R0=> ?_)
 refine zC (zq ?_)
 refine z9 ?_
 intro B1
 refine z9 ?_
 intro B2
 refine z9 ?_
 intro B3
 refine zd ?_
 intro B4
 refine zc ?_
 refine zc (zH (zn (zC (zC (zq ?_)))))
 refine zw ?_
 refine vO (xD rfl Tryz.func27 rfl rfl rfl (m0R c)) ?_
 refine xo (zH (zn ?_))
 refine ym (fun h1=> ?_) (fun h1=> ?_)<;>(try simp only[vU]at h1)
 ·rw[t0E h1]
  refine zC (zq ?_)
  refine zM ?_
  refine za 0 ?_
  refine zc ?_
  refine zc (zH (zn (y3 (xh ?_))))
  refine x9 y7 zk (⟨rfl,rfl⟩)
 have h1':f0Z c:=h1
 obtain⟨-,k9,k10,k11⟩:=id h1'
 refine yU (zn (zC (zC (zq ?_))))
 refine zt ?_
 refine zp ?_
 refine zt ?_
 refine zt ?_
 refine zp ?_
 refine vO (xD rfl Tryz.func92 rfl rfl rfl (k0d _ _)) ?_
 refine xo ?_
 refine zb ?_
 refine zK ?_
 refine zT 26 ?_
 refine zK ?_
 refine AO.opG rfl rfl rfl (fun hp=>wP 28 rfl (by exact hp) zv) ?_
 refine zT 29 ?_
 refine AO.opG rfl rfl rfl (fun hp=>wP 27 rfl (by exact hp) (wP 30 rfl (by exact hp) (xD rfl Tryz.func92 rfl rfl rfl (k0d _ _)))) ?_
 refine xf 31 ?_
 refine zG ?_
 refine zb ?_
 refine zK ?_
 refine zT 35 ?_
 refine AO.opG rfl rfl rfl (fun hp=>wP 36 rfl (by exact hp) (xD rfl Tryz.func58 rfl rfl rfl (s0a _))) ?_
 refine xf 37 ?_
 refine zG (zH (zn ?_))
 refine ym (fun h2=> ?_) (fun h2=> ?_)<;>(try simp only[vU]at h2)
 ·rw[t0D h1' (fun g=>by
   obtain⟨g1,g2,g3⟩:=g
   rcases h2 with(h|h)|h
   ·exact h g1
   ·exact h g2
   exact h g3)]
  refine zC (zq ?_)
  refine zM ?_
  refine za 0 ?_
  refine zc ?_
  refine zc (zH (zn (y3 (xh ?_))))
  refine x9 y7 zk (⟨rfl,rfl⟩)
 have h2':c0V c b:=⟨h2.1.1,h2.1.2,h2.2⟩
 refine yU (zn (zC (zq ?_)))
 refine zw ?_
 refine vO (xD rfl Tryz.func21 rfl rfl rfl (p0h m hmo)) ?_
 refine zb ?_
 refine zW ?_
 refine zW ?_
 refine zd ?_
 intro B5
 refine za 0 ?_
 refine zc (zH (zn (zC (zC (zq ?_)))))
 refine zb ?_
 refine y8 (zH (zn ?_))
 refine ym (fun h3=> ?_) (fun h3=> ?_)<;>(try simp only[vU]at h3)
 ·rw[t0C h1' h2' h3]
  refine zC (zq ?_)
  refine zM ?_
  refine zb ?_
  refine za 1 ?_
  refine zc ?_
  refine zc (zH (zn (y3 (xh ?_))))
  refine x9 yX zk (⟨rfl,rfl⟩)
 refine yU (zn (zC (zC (zq ?_))))
 refine zt ?_
 refine zA ?_
 refine zb ?_
 refine zK ?_
 refine zu 53 ?_
 refine zG ?_
 refine zb ?_
 refine zK ?_
 refine zu 57 ?_
 refine zG (zH (zn ?_))
 refine ym (fun h4=> ?_) (fun h4=> ?_)<;>(try simp only[vU]at h4)
 ·rw[t0B h1' h2' h3 (fun g=>by
   obtain⟨g1,g2,g3⟩:=g
   rw[g1,g2,g3]at h4
   simp at h4)]
  refine zC (zq ?_)
  refine zM ?_
  refine za 1 ?_
  refine zc ?_
  refine zc (zH (zn (y3 (xh ?_))))
  refine x9 yX zk (⟨rfl,rfl⟩)
 have h4':l0G (a0R m).1:=by
  obtain⟨⟨g1,g2⟩,g3⟩:=h4
  exact⟨by simpa using g1,by simpa using g2,by simpa using g3⟩
 have hal:=h0x b.kid b.piv
 have hop:Sp Tryz.prog 93 [h0w c,b0n m,roB (b0z c b c.inp.rcp (a0R m).1.piv),roB (k0G b.kid b.piv).1,.fn (.func 91) []] [] (Is (h0O (orP c b m))):=l0f c m _ _ hm.1 (by omega) hm.2
 refine yU (zn (zC (zq ?_)))
 refine zt ?_
 refine zp ?_
 refine zt ?_
 refine zp ?_
 refine vO (xD rfl Tryz.func60 rfl rfl rfl (s0B _ _)) ?_
 refine zb ?_
 refine zW ?_
 refine zW ?_
 refine zc ?_
 refine zc (zH (zn (zC ?_)))
 refine AW.regionM [(0,false),(1,false),(2,false),(3,false),(4,false),(5,false),(6,false),(7,false),(8,false),(9,false),(10,false),(11,false),(12,false),(13,false),(14,false),(15,false),(16,true),(17,true),(18,false)] (by kernel_rfl) (by kernel_rfl) (by exact a0c) ?_
 dsimp only[List.eraseIdx]
 refine zV ?_
 refine zV ?_
 refine zV ?_
 refine zV ?_
 refine xl ?_
 refine xl ?_
 refine yY ?_
 refine vQ rfl (xD rfl Tryz.func78 rfl rfl rfl (n0P c b c.inp.rcp)) ?_
 refine xl ?_
 refine wU ?_
 refine vQ rfl (O.callV rfl rfl Tryz.func131 rfl rfl rfl (l0z c b c.inp.rcp (a0R m).1.piv (by omega))) ?_
 refine y0 ?_
 refine vQ rfl (xD rfl Tryz.func93 rfl rfl rfl hop) ?_
 refine y0 ?_
 refine vQ rfl yB ?_
 refine vQ rfl yB ?_
 refine xU _ (fun w0 R0=> ?_)
 refine zd ?_
 intro B6
 refine AM.ok ?_
 dsimp only[a0w]
 refine xU _ (fun w0 R0=> ?_)
 refine za 0 (AM.okN ?_)
 dsimp only[a0w]
 refine we ?_
 refine vn ?_
 dsimp only[cA,cN]
 refine zn (zC (zC (zq ?_)))
 refine zb ?_
 refine y8 (zH (zn ?_))
 refine ym (fun h5=> ?_) (fun h5=> ?_)<;>(try simp only[vU]at h5)
 ·rw[r0V h1' h2' h3 h4' h5]
  refine zC (zq ?_)
  refine zM ?_
  refine zb ?_
  refine za 2 ?_
  refine zc ?_
  refine zc (zH (zn (y3 (xh ?_))))
  refine x9 yX zk (⟨rfl,rfl⟩)
 rw[r0U h1' h2' h3 h4' h5]
 refine yU (zn (zC ?_))
 refine AW.regionM [(0,false),(1,false),(2,false),(3,true),(4,false),(5,false)] (by kernel_rfl) (by kernel_rfl) (by exact(by exact a0h 6 2 rfl rfl a0c)) ?_
 dsimp only[List.eraseIdx]
 refine yR ?_
 refine xl ?_
 refine yY ?_
 refine xU _ (fun w0 R0=> ?_)
 refine za 0 (AM.okN ?_)
 dsimp only[a0w]
 refine we ?_
 refine we ?_
 refine vn ?_
 dsimp only[cA,cN]
 refine zn (y3 ?_)
 refine x9 y7 yQ (⟨rfl,rfl⟩)
theorem t0o (c:Cx)(b:Bd)(m:Msg)(hm:SmT m):Sp Tryz.prog 49 [h0w c,d0X b,b0n m] [] (Is (v0K (orR c b m))):=by
 have hmo:=t0k hm.1
 refine yH Tryz.func49 _ Tryz.ntmps49 (fun w0 R0=> ?_)
 refine zC (zq ?_)
 refine z9 ?_
 intro B1
 refine z9 ?_
 intro B2
 refine z9 ?_
 intro B3
 refine zd ?_
 intro B4
 refine zc ?_
 refine zc (zH (zn (zC (zC (zq ?_)))))
 refine zw ?_
 refine vO (xD rfl Tryz.func28 rfl rfl rfl (e0e c)) ?_
 refine xo (zH (zn ?_))
 refine ym (fun h1=> ?_) (fun h1=> ?_)<;>(try simp only[vU]at h1)
 ·rw[t0E h1]
  refine zC (zq ?_)
  refine zM ?_
  refine za 0 ?_
  refine zc ?_
  refine zc (zH (zn (y3 (xh ?_))))
  refine x9 y7 zk (⟨rfl,rfl⟩)
 have h1':f0Z c:=h1
 obtain⟨-,k9,k10,k11⟩:=id h1'
 refine yU (zn (zC (zC (zq ?_))))
 refine zt ?_
 refine zp ?_
 refine zt ?_
 refine zt ?_
 refine zp ?_
 refine vO (xD rfl Tryz.func31 rfl rfl rfl (a0Y _ _)) ?_
 refine xo ?_
 refine zb ?_
 refine zK ?_
 refine zT 28 ?_
 refine zK ?_
 refine AO.opG rfl rfl rfl (fun hp=>wP 30 rfl (by exact hp) zv) ?_
 refine zT 31 ?_
 refine AO.opG rfl rfl rfl (fun hp=>wP 29 rfl (by exact hp) (wP 32 rfl (by exact hp) (xD rfl Tryz.func31 rfl rfl rfl (a0Y _ _)))) ?_
 refine xf 33 ?_
 refine zG ?_
 refine zb ?_
 refine zK ?_
 refine zT 37 ?_
 refine AO.opG rfl rfl rfl (fun hp=>wP 38 rfl (by exact hp) (xD rfl Tryz.func64 rfl rfl rfl (i0Z _))) ?_
 refine zG (zH (zn ?_))
 refine ym (fun h2=> ?_) (fun h2=> ?_)<;>(try simp only[vU]at h2)
 ·rw[t0D h1' (fun g=>by
   obtain⟨g1,g2,g3⟩:=g
   rcases h2 with(h|h)|h
   ·exact h g1
   ·exact h g2
   exact h g3)]
  refine zC (zq ?_)
  refine zM ?_
  refine za 0 ?_
  refine zc ?_
  refine zc (zH (zn (y3 (xh ?_))))
  refine x9 y7 zk (⟨rfl,rfl⟩)
 have h2':c0V c b:=⟨h2.1.1,h2.1.2,(by exact h2.2)⟩
 refine yU (zn (zC (zq ?_)))
 refine zw ?_
 refine vO (xD rfl Tryz.func22 rfl rfl rfl (o0E m hmo)) ?_
 refine zb ?_
 refine zW ?_
 refine zW ?_
 refine zd ?_
 intro B5
 refine za 0 ?_
 refine zc (zH (zn (zC (zC (zq ?_)))))
 refine zb ?_
 refine y8 (zH (zn ?_))
 refine ym (fun h3=> ?_) (fun h3=> ?_)<;>(try simp only[vU]at h3)
 ·rw[t0C h1' h2' h3]
  refine zC (zq ?_)
  refine zM ?_
  refine zb ?_
  refine za 1 ?_
  refine zc ?_
  refine zc (zH (zn (y3 (xh ?_))))
  refine x9 yX zk (⟨rfl,rfl⟩)
 have hvc:=h0P h3
 refine yU (zn (zC (zC (zq ?_))))
 refine zt ?_
 refine zA ?_
 refine zb ?_
 refine zK ?_
 refine zu 54 ?_
 refine zG ?_
 refine zb ?_
 refine zK ?_
 refine zu 58 ?_
 refine zG (zH (zn ?_))
 refine ym (fun h4=> ?_) (fun h4=> ?_)<;>(try simp only[vU]at h4)
 ·rw[t0B h1' h2' h3 (fun g=>by
   obtain⟨g1,g2,g3⟩:=g
   rw[g1,g2,g3]at h4
   simp at h4)]
  refine zC (zq ?_)
  refine zM ?_
  refine za 1 ?_
  refine zc ?_
  refine zc (zH (zn (y3 (xh ?_))))
  refine x9 yX zk (⟨rfl,rfl⟩)
 have h4':l0G (a0R m).1:=by
  obtain⟨⟨g1,g2⟩,g3⟩:=h4
  exact⟨by simpa using g1,by simpa using g2,by simpa using g3⟩
 have hal:=h0x b.kid b.piv
 obtain⟨⟨p1,p2, -, -⟩, -⟩:=hvc
 have hop:Sp Tryz.prog 94 [b0n m,roB m.pay,roB c.rk,roB (b0z c b c.inp.rcp (a0R m).1.piv),roB (k0G b.kid b.piv).1,.val (.bool false)] [] (Is (h0O (orP c b m))):=m0Y m _ _ _ false hm.1 (by omega) hm.2
 refine yU (zn (zC (zq ?_)))
 refine zt ?_
 refine zp ?_
 refine zt ?_
 refine zp ?_
 refine zt ?_
 refine zp ?_
 refine vO (xD rfl Tryz.func66 rfl rfl rfl (d0I _ _ _ (by omega))) ?_
 refine zb ?_
 refine zW ?_
 refine zW ?_
 refine zc ?_
 refine zc (zH (zn (zC (zC (zq ?_)))))
 refine zt ?_
 refine zA ?_
 refine xR (zH (zn ?_))
 refine ym (fun h6=> ?_) (fun h6=> ?_)<;>(try simp only[vU]at h6)
 ·rw[i0z (by omega)]at hop
  refine zq ?_
  refine zt ?_
  refine zp ?_
  refine zt ?_
  refine zt ?_
  refine zp ?_
  refine zt ?_
  refine zA ?_
  refine vO (xD rfl Tryz.func66 rfl rfl rfl (d0I _ _ _ (by omega))) ?_
  refine zb ?_
  refine zW ?_
  refine zW ?_
  refine zc (zH (zn (zC (zq ?_))))
  refine zt ?_
  refine zp ?_
  refine zt ?_
  refine zp ?_
  refine vO (xD rfl Tryz.func67 rfl rfl rfl (j0a _ _)) ?_
  refine zb ?_
  refine zW ?_
  refine zW ?_
  refine zc ?_
  refine zc (zH (zn (zC (zq ?_))))
  refine zw ?_
  refine zt ?_
  refine zp ?_
  refine zt ?_
  refine zp ?_
  refine zb ?_
  refine zb ?_
  refine vO (xD rfl Tryz.func94 rfl rfl rfl hop) ?_
  refine zb ?_
  refine zW ?_
  refine zW ?_
  refine zd ?_
  intro B6
  refine za 0 ?_
  refine zc (zH (zn (zC (zC (zq ?_)))))
  refine zb ?_
  refine y8 (zH (zn ?_))
  refine ym (fun h5=> ?_) (fun h5=> ?_)<;>(try simp only[vU]at h5)
  ·rw[r0V h1' h2' h3 h4' h5]
   refine zC (zq ?_)
   refine zM ?_
   refine zb ?_
   refine za 2 ?_
   refine zc ?_
   refine zc (zH (zn (y3 (xh ?_))))
   refine x9 yX zk (⟨rfl,rfl⟩)
  rw[r0U h1' h2' h3 h4' h5]
  refine yU (zn (zC ?_))
  refine AW.regionM [(0,false),(1,false),(2,false),(3,true),(4,false),(5,false)] (by kernel_rfl) (by kernel_rfl) (by exact(by exact a0h 6 2 rfl rfl a0c)) ?_
  dsimp only[List.eraseIdx]
  refine yR ?_
  refine xl ?_
  refine yY ?_
  refine xU _ (fun w0 R0=> ?_)
  refine za 0 (AM.okN ?_)
  dsimp only[a0w]
  refine we ?_
  refine we ?_
  refine vn ?_
  dsimp only[cA,cN]
  refine zn (y3 ?_)
  refine x9 y7 yQ (⟨rfl,rfl⟩)
 rw[i0A (by omega)]at hop
 refine yU (zn (zC (zq ?_)))
 refine zt ?_
 refine zp ?_
 refine zt ?_
 refine zp ?_
 refine vO (xD rfl Tryz.func67 rfl rfl rfl (j0a _ _)) ?_
 refine zb ?_
 refine zW ?_
 refine zW ?_
 refine zc ?_
 refine zc (zH (zn (zC (zq ?_))))
 refine zw ?_
 refine zt ?_
 refine zp ?_
 refine zt ?_
 refine zp ?_
 refine zb ?_
 refine zb ?_
 refine vO (xD rfl Tryz.func94 rfl rfl rfl hop) ?_
 refine zb ?_
 refine zW ?_
 refine zW ?_
 refine zd ?_
 intro B7
 refine za 0 ?_
 refine zc (zH (zn (zC (zC (zq ?_)))))
 refine zb ?_
 refine y8 (zH (zn ?_))
 refine ym (fun h5=> ?_) (fun h5=> ?_)<;>(try simp only[vU]at h5)
 ·rw[r0V h1' h2' h3 h4' h5]
  refine zC (zq ?_)
  refine zM ?_
  refine zb ?_
  refine za 2 ?_
  refine zc ?_
  refine zc (zH (zn (y3 (xh ?_))))
  refine x9 yX zk (⟨rfl,rfl⟩)
 rw[r0U h1' h2' h3 h4' h5]
 refine yU (zn (zC ?_))
 refine AW.regionM [(0,false),(1,false),(2,false),(3,true),(4,false),(5,false)] (by kernel_rfl) (by kernel_rfl) (by exact(by exact a0h 6 2 rfl rfl a0c)) ?_
 dsimp only[List.eraseIdx]
 refine yR ?_
 refine xl ?_
 refine yY ?_
 refine xU _ (fun w0 R0=> ?_)
 refine za 0 (AM.okN ?_)
 dsimp only[a0w]
 refine we ?_
 refine we ?_
 refine vn ?_
 dsimp only[cA,cN]
 refine zn (y3 ?_)
 refine x9 y7 yQ (⟨rfl,rfl⟩)
end Go.Proofs.YtojomcdjcpmnkaaGreat.By
namespace Go.Proofs.YtojomcdjcpmnkaaGreat.By
open Go.RowKit L A
theorem l0o {l:List Opt}{o:Opt}(h:o∈b0L l):o∈l:=by
 have key: ∀(l a:List Opt),o∈l.foldl c0H a→o∈a∨o∈l:=by
  intro l
  induction l with
  |nil=>intro a h;exact .inl h
  | cons x l ih=>
   intro a h
   rcases ih _ h with h|h
   ·unfold c0H at h
    rcases List.mem_append.1 h with h|h
    ·exact .inl (List.mem_of_mem_take h)
    rcases List.mem_append.1 h with h|h
    ·exact .inr (List.mem_cons.2 (.inl (List.mem_singleton.1 h)))
    exact .inl (List.mem_of_mem_drop h)
   exact .inr (List.mem_cons_of_mem _ h)
 rcases key l [] h with h|h
 ·cases h
 exact h
theorem s0n {m i:Msg}(hm:SmS m)(hi:ValM i):(c0h m i).1.opts.length≤1000000∧ ∀o∈(c0h m i).1.opts,o.val.length≤140737488355328:=by
 have hnone:Msg.none.opts.length≤1000000∧ ∀o∈Msg.none.opts,o.val.length≤140737488355328:=⟨by simp[Msg.none],fun o ho=>by cases ho⟩
 unfold c0h
 split
 ·split
  ·split
   ·exact hnone
   obtain⟨h1,h2,h3,h4⟩:=hm
   obtain⟨g1,g2,g3,g4⟩:=(q0l hi)
   have hl:=h0g m.opts
   refine⟨by show(b0L _).length≤_;rw[e0k,cH];omega,fun o ho=> ?_⟩
   rcases List.mem_append.1 (l0o ho)with h|h
   ·have:=g4 o h;omega
   have:=h4 o (List.mem_filter.1 h).1;omega
  exact hnone
 exact hnone
theorem p0i {key:List UInt8}{m:Msg}{nonce aad:List UInt8}{q:Bool}(hm:SmS m):(h0h key m nonce aad q).1.opts.length≤1000000∧ ∀o∈(h0h key m nonce aad q).1.opts,o.val.length≤140737488355328:=by
 have hnone:Msg.none.opts.length≤1000000∧ ∀o∈Msg.none.opts,o.val.length≤140737488355328:=⟨by simp[Msg.none],fun o ho=>by cases ho⟩
 unfold h0h
 split
 ·exact hnone
 unfold r0a
 split
 ·exact hnone
 rename_i h
 split
 ·exact hnone
 exact s0n hm (e0b (Decidable.not_not.1 h)).1
theorem m0U {c:Cx}{b:Bd}{m:Msg}(hm:SmS m):SmO (orR c b m).1:=by
 have hnone:Msg.none.opts.length≤1000000∧ ∀o∈Msg.none.opts,o.val.length≤140737488355328:=⟨by simp[Msg.none],fun o ho=>by cases ho⟩
 unfold orR
 (repeat' split)<;>first|exact hnone|exact p0i hm
attribute [local irreducible] AW AQ AO
def d0v (os:List Opt)(n:Int):Option (List UInt8):=(os.find? fun o=>o.num==n).map Opt.val
abbrev v0c (r:Option (List UInt8)):AV:= .tup [roB (r.getD []),.val (.bool r.isSome)]
theorem v0J {q:AV}{r:Option (List UInt8)}{a:List UInt8}{b:Bool}(h:r.getD []=a)(h2:r.isSome=b)(hq:q= .tup [roB a,.val (.bool b)]):Is (v0c r) q []:=by subst h;subst h2;exact⟨hq,rfl⟩
theorem n0v {os:List Opt}{n:Int}{k:Nat}(hk:k<os.length)(h:d0v (os.take k) n=none):d0v (os.take (k+1)) n=if(oat os k).num=n then some (oat os k).val else none:=by
 rw[a0i Opt.none hk]
 unfold d0v at*
 rw[Option.map_eq_none_iff]at h
 rw[List.find?_append,h,Option.none_or,List.find?_singleton]
 by_cases e:(os.getD k Opt.none).num=n
 ·rw[if_pos (by simpa using e),if_pos e];rfl
 rw[if_neg (by simpa using e),if_neg e];rfl
theorem p0G {os ps:List Opt}{n:Int}{v:List UInt8}(h:d0v os n=some v):d0v (os++ps) n=some v:=by
 unfold d0v at*
 rw[Option.map_eq_some_iff]at h⊢
 obtain⟨o,ho,rfl⟩:=h
 exact⟨o,by rw[List.find?_append,ho];rfl,rfl⟩
theorem s0c (m:Msg)(n:Int)(h3:m.opts.length≤1000000)(hat: ∀o∈m.opts,o.val.length≤140737488355328):Sp Tryz.prog 86 [b0n m,.val (.int .i64 n)] [] (Is (v0c (d0v m.opts n))):=by
 refine yH Tryz.func86 _ Tryz.ntmps86 (fun w0 R0=> ?_)
 refine zC (zq ?_)
 refine z9 ?_
 intro B1
 refine zc ?_
 refine zc (zH (zn (zC (zC (zq ?_)))))
 refine zt ?_
 refine zA ?_
 refine zZ ?_
 refine zb (zH (zn (xb ?_)))
 refine zh [(1,_),(9,_),(10,_)] (fun nn E H=> ∃(k:Nat),(k≤m.opts.length)∧(d0v (m.opts.take k) n=none)∧nn=m.opts.length-k∧E= [(11,.val (.int .i64 (k:Int)))]∧H= [.blk B1 29 6 [.val (.int .i64 m.ty),.val (.int .i64 m.code),.val (.int .i64 m.id),roB m.tok,roO m.opts,roB m.pay]]) _ (⟨0,by omega,rfl,rfl,rfl,rfl⟩) ?_
 rintro nn E H ⟨k,h4,hno,rfl,rfl,rfl⟩
 dsimp only[cA,cN]
 refine zC (zq ?_)
 refine zR (zH (zn (zC ?_)))
 refine ym (fun h5=> ?_) (fun h5=> ?_)<;>(try simp only[vU]at h5)
 ·have hk:k<m.opts.length:=by omega
  have hv:(oat m.opts k).val.length≤140737488355328:=hat _ (b0d Opt.none hk)
  have hsc:=n0v hk hno
  refine yU (zn (zC (xb (zC (zq ?_)))))
  refine yf ?_
  refine yV ?_
  refine zd ?_
  intro B2
  refine za 0 (zH (zn (zC (zq ?_))))
  refine zt ?_
  refine zA ?_
  refine zb ?_
  refine yi (zH (zn ?_))
  refine ym (fun h6=> ?_) (fun h6=> ?_)<;>(try simp only[vU]at h6)
  ·rw[if_pos h6]at hsc
   have hr:d0v m.opts n=some (oat m.opts k).val:=by
    have:=p0G (ps:=m.opts.drop (k+1)) hsc
    rwa [List.take_append_drop]at this
   refine zC (zq ?_)
   refine zt ?_
   refine zA ?_
   refine vO (xD rfl Tryz.func138 rfl rfl rfl (e0Z _ (by assumption))) ?_
   refine zc ?_
   refine zc (zH (zn (y3 ?_)))
   refine wg (xh ?_)
   refine AQ.loopR ?_
   refine wg (xh ?_)
   refine AQ.ret2 rfl rfl rfl nS (v0J (r:=d0v m.opts n) (congrArg (fun r=>Option.getD r []) hr) (congrArg Option.isSome hr) rfl)
  rw[if_neg h6]at hsc
  refine yU (xA (zn (zq ?_)))
  refine zx ?_
  refine zb (zH ?_)
  refine zJ _ _ _ (by omega) (⟨k+1,by omega,hsc,rfl,rfl,rfl⟩)
 obtain rfl:k=m.opts.length:=by omega
 rw[List.take_length]at hno
 refine wm ?_
 refine xY ?_
 refine wa ?_
 refine xq (zn (zC (zq ?_)))
 refine zc ?_
 refine zc (zH (zn (y3 ?_)))
 refine x9 yP yu (v0J (r:=d0v m.opts n) (congrArg (fun r=>Option.getD r []) hno) (congrArg Option.isSome hno) rfl)
theorem p0H (os:List Opt)(n:Int):d0v os n=(c0a os n).head?:=by
 unfold d0v c0a
 rw[List.head?_map,List.head?_filter]
theorem r0y (m:Msg)(n:Int)(h3:m.opts.length≤1000000)(hat: ∀o∈m.opts,o.val.length≤140737488355328):Sp Tryz.prog 88 [b0n m,.val (.int .i64 n)] [] (Is (v0c (d0v m.opts n))):=by
 rw[p0H]
 refine yH Tryz.func88 _ Tryz.ntmps88 (fun w0 R0=> ?_)
 refine zC (zq ?_)
 refine z9 ?_
 intro B1
 refine zc ?_
 refine zc (zH (zn (zC (zq ?_))))
 refine zI ?_
 refine zb ?_
 refine vO (xD rfl Tryz.func71 rfl rfl rfl (q0L m n h3 hat)) ?_
 refine zc (zH (zn (zC (zC (zq ?_)))))
 refine zb ?_
 refine zZ ?_
 refine yi (zH (zn ?_))
 refine ym (fun h=> ?_) (fun h=> ?_)<;>(try simp only[vU]at h)
 ·obtain e:c0a m.opts n= []:=List.eq_nil_of_length_eq_zero (by omega)
  rw[e]
  refine zC (zq ?_)
  refine zc ?_
  refine zc (zH (zn (y3 (xh ?_))))
  refine x9 yP yu (⟨rfl,rfl⟩)
 have e:(c0a m.opts n).head?=some (vat (c0a m.opts n) 0):=by
  generalize c0a m.opts n=l at*
  match l,h with
  |v::l,_=>rfl
 rw[e]
 refine yU (zn (zC (zq ?_)))
 refine zb ?_
 refine yf ?_
 refine vO (O.loadR rfl rfl (by exact f0Q (k:=0) (by omega) rfl)) ?_
 refine zc ?_
 refine zc (zH (zn (y3 ?_)))
 refine xG
end Go.Proofs.YtojomcdjcpmnkaaGreat.By
namespace Go.Proofs.YtojomcdjcpmnkaaGreat.By
open Go.RowKit L A
attribute [local irreducible] AW AQ AO
end Go.Proofs.YtojomcdjcpmnkaaGreat.By
namespace Go.Proofs.YtojomcdjcpmnkaaGreat.By
open Go.RowKit L A Dk
attribute [local irreducible] AW AQ AO
def x0m (b:Nat)(l:List Int)(n:Nat):AV→List HE→Prop:=fun r H'=> ∃(V:Value) (x:List UInt8) (k':Nat),x.length≤n∧V.oneCell'=true∧k'≤l.length∧r= .val V∧H'= [.row V 5 1 x.length (a0a x),i0t b l k']
theorem d0g (b:Nat)(l:List Int)(k:Nat)(n:Nat)(hl:l.length≤maxLen)(hk:k≤l.length)(hn:n≤1000000):
  Sp Tryz.prog 24 [ptr b,.val (.int .i64 (n:Int))] [i0t b l k] (x0m b l n):=by
 refine yH Tryz.func24 _ Tryz.ntmps24 (fun w0 R0=> ?_)
 refine zC (zq ?_)
 refine zc (zH (zn (zC (zq ?_))))
 refine zc (zH (zn (zC (zC (zq ?_)))))
 refine zb ?_
 refine zb ?_
 refine zx ?_
 refine AO.callMG 0 rfl rfl Tryz.func33 rfl rfl rfl rfl rfl rfl (a0S _ l _ _ hl (by assumption) (by omega) (by omega)) ?_
 rintro _ _ ⟨⟨z1,hz01,hz11,rfl⟩,kd1,hkd1,rfl⟩
 dsimp only[cA,cN,List.eraseIdx]
 refine zc (zH (zn (xb ?_)))
 obtain⟨c,rfl⟩: ∃c:Nat,z1=(c:Int):=⟨z1.toNat,by omega⟩
 refine AW.g ?_
 refine G.nilRow 5 1 ?_
 refine AW.u ?_
 refine AW.loopK [(0,_)] (fun nn E H=> ∃(c':Nat) (out:List UInt8) (V:Value) (kk:Nat),(out.length+c'≤n)∧(V.oneCell'=true)∧(kk≤l.length)∧c'=nn∧E= [(5,.val V),(6,.val (.int .i64 (c':Int)))]∧H= [.row V 5 1 out.length (a0a out),i0t b l kk]) _ (⟨c,[],.slice none 0 0,_,by simp<;>omega,rfl,‹_›,rfl,rfl,rfl⟩) (by repeat(first|exact a0m|refine a0k rfl ?_)) (by repeat(first|exact a0m|refine a0k rfl ?_)) (by repeat(first|exact a0B|refine a0x 0 rfl ?_)) ?_
 rintro nn E H ⟨c',out,V,kk,h1,hV,h3,rfl,rfl,rfl⟩
 dsimp only[cA,cN]
 refine zC (zC (zq ?_))
 refine zb ?_
 refine yN (zH (zn ?_))
 refine ym (fun h=> ?_) (fun h=> ?_)<;>(try simp only[vU]at h)
 ·obtain⟨j,rfl⟩: ∃j,c'=j+1:=⟨c'-1,by omega⟩
  refine yU (zn (zC (xb (zq ?_))))
  refine zb ?_
  refine zb ?_
  refine AO.callMG 1 rfl rfl Tryz.func33 rfl rfl rfl rfl rfl rfl (a0S _ l _ _ hl (by assumption) (by omega) (by omega)) ?_
  rintro _ _ ⟨⟨z2,hz02,hz12,rfl⟩,kd2,hkd2,rfl⟩
  dsimp only[cA,cN,List.eraseIdx]
  refine y4 ?_
  refine zU ?_
  intro B3
  refine AO.g ?_
  refine yr 0 19 ?_
  refine wH 19 ?_
  refine AO.u ?_
  dsimp only[List.eraseIdx]
  refine zB 1 ?_
  intro V4 hV4
  refine zc (zH (xA (zn (zq ?_))))
  refine zb ?_
  refine yG ?_
  refine zc (zH ?_)
  rw[show((j+1:Nat):Int)-1=(j:Int) by omega]
  refine AQ.loopKN _ _ _ (by omega) (⟨j,out++[u8 z2],V4,kd2,by simp;omega,hV4,hkd2,rfl,rfl,by rw[a0O,cH]<;>rfl⟩) (by repeat(first|exact a0m|refine a0k rfl ?_)) (by repeat(first|exact a0m|refine a0k rfl ?_)) (by repeat(first|exact a0B|refine a0x 0 rfl ?_|refine a0x 1 rfl ?_))
 refine wm ?_
 refine xY ?_
 refine wa ?_
 refine xq (zn (zC (zq ?_)))
 refine zb ?_
 refine zc (zH (zn (y3 ?_)))
 refine vm rfl rfl ⟨_,by repeat(first|exact List.Sublist.slnil|refine List.Sublist.cons_cons _ ?_),List.Perm.refl _⟩ (⟨V,out,_,by omega,hV,h3,rfl,rfl⟩)
def v0C (r:AV):Prop:= ∃x,e0K x∧r=u0p x
theorem n0p (b:Nat)(l:List Int)(k:Nat)(hl:l.length≤maxLen)(hk:k≤l.length):Sp Tryz.prog 55 [ptr b,.val (.bool true)] [i0t b l k] (Gen b l v0C):=by
 refine yH Tryz.func55 _ Tryz.ntmps55 (fun w0 R0=> ?_)
 refine zC (zq ?_)
 refine z7 ?_
 intro B1
 refine zH (zn (zC (zq ?_)))
 refine zb ?_
 refine AO.callMG 1 rfl rfl Tryz.func33 rfl rfl rfl rfl rfl rfl (a0S _ l _ _ hl (by assumption) (by omega) (by omega)) ?_
 rintro _ _ ⟨⟨z2,hz02,hz12,rfl⟩,kd2,hkd2,rfl⟩
 dsimp only[cA,cN,List.eraseIdx]
 refine zb ?_
 refine AO.callMG 0 rfl rfl Tryz.func33 rfl rfl rfl rfl rfl rfl (a0S _ l _ _ hl (by assumption) (by omega) (by omega)) ?_
 rintro _ _ ⟨⟨z3,hz03,hz13,rfl⟩,kd3,hkd3,rfl⟩
 dsimp only[cA,cN,List.eraseIdx]
 refine zx ?_
 refine vO (xD rfl Tryz.func107 rfl rfl rfl (r0k _ _ ⟨by omega,by omega⟩)) ?_
 refine zb ?_
 refine AO.callMG 0 rfl rfl Tryz.func24 rfl rfl rfl rfl rfl rfl (d0g _ l _ 8 hl (by assumption) (by omega)) ?_
 rintro _ _ ⟨V4,x4,kd4,hx4,hV4,hkd4,rfl,rfl⟩
 dsimp only[cA,cN,List.eraseIdx]
 refine zb ?_
 refine AO.callMG 1 rfl rfl Tryz.func24 rfl rfl rfl rfl rfl rfl (d0g _ l _ 3 hl (by assumption) (by omega)) ?_
 rintro _ _ ⟨V5,x5,kd5,hx5,hV5,hkd5,rfl,rfl⟩
 dsimp only[cA,cN,List.eraseIdx]
 refine zb ?_
 refine AO.callMG 1 rfl rfl Tryz.func24 rfl rfl rfl rfl rfl rfl (d0g _ l _ 3 hl (by assumption) (by omega)) ?_
 rintro _ _ ⟨V6,x6,kd6,hx6,hV6,hkd6,rfl,rfl⟩
 dsimp only[cA,cN,List.eraseIdx]
 refine vO (O.build rfl rfl (by(show(V4.oneCell'&&(V5.oneCell'&&(V6.oneCell'&&true)))=true;rw[hV4,hV5,hV6];rfl)) (by rfl)) ?_
 refine z7 ?_
 intro B7
 refine AO.store (i:=0) rfl rfl rfl rfl rfl rfl (by(show(true&&(V4.oneCell'&&(true&&(true&&(V5.oneCell'&&(V6.oneCell'&&true))))))=true;rw[hV4,hV5,hV6];rfl)) (by rfl) (by rfl) (by(dsimp only[List.set,List.append,cA,cN,a0s,a0r,a0u,a0e,a0v,AV.cells,List.map,List.map_cons,List.map_nil,List.take,List.drop,Nat.zero_add,Nat.add_zero,Nat.reduceAdd,Nat.reduceMul,Nat.zero_mul,Value.cells,List.toList_toArray,a0t,List.replicate,List.flatten,cP];done)) (by(dsimp only[List.set,List.append,cA,cN,a0s,a0r,a0u,a0e,a0v,AV.cells,List.map,List.map_cons,List.map_nil,List.take,List.drop,Nat.zero_add,Nat.add_zero,Nat.reduceAdd,Nat.reduceMul,Nat.zero_mul,Value.cells,List.toList_toArray,a0t,List.replicate,List.flatten,cP];done)) (zH (zn (zC (zC (zq ?_)))))
 refine zt ?_
 refine AO.g ?_
 refine G.freezeCell 3 0 4 rfl rfl rfl ?_
 dsimp only[List.eraseIdx,List.set]
 refine G.freezeCell 3 0 1 rfl rfl rfl ?_
 dsimp only[List.eraseIdx,List.set]
 refine G.coeCell 0 3 rfl rfl Coe.nil ?_
 dsimp only[List.set]
 refine AO.u ?_
 refine zA ?_
 refine zt ?_
 refine zA ?_
 refine vO (O.callL rfl Tryz.func31 rfl rfl rfl mM (a0Y _ _) (by(repeat(first|exact LendL.nil|refine LendL.same ?_|refine LendL.lend ?_));done)) ?_
 refine zH (zn ?_)
 have hse:(m0b z2 (1+z3).toNat).length=(1+z3).toNat:=m0a _ _
 generalize m0b z2 (1+z3).toNat=sec at*
 refine wc [(0,_),(1,_),(4,_),(5,_)] (fun E H=> ∃(V:Value) (rc:List UInt8),(V.oneCell'=true)∧(rc.length≤4)∧(¬x5=rc)∧E= []∧H= [.blk B7 24 6 [roB sec,roB x4,.val (.bool false),roB [],roB x5,.val V],.row V 5 1 rc.length (a0a rc),i0t b l kd6,.blk B1 24 6 [.val (.slice none 0 0),.val (.slice none 0 0),.val (.bool false),.val (.slice none 0 0),.val (.slice none 0 0),.val (.slice none 0 0)]]) (fun heq=> ?_) (fun heq=> ?_) ?_<;>try(try simp only[vU]at heq)
 ·have hgu:a0a (x6++[9])=a0a x6++[.val (.int .u8 9)]:=b0q x6 9
  refine zq ?_
  refine zt ?_
  refine zA ?_
  refine zU ?_
  intro B8
  refine AO.g ?_
  refine yr 0 26 ?_
  refine wH 26 ?_
  refine AO.u ?_
  dsimp only[List.eraseIdx]
  refine yW 1 ?_
  intro V9 hV9
  refine zt ?_
  refine yq 0 (zH ?_)
  rw[←hgu,show x6.length+1=(x6++[9]).length by simp]
  refine xI _ _ (⟨_,x6++[9],‹_›,by simp;omega,(fun e=>by have:=congrArg List.length e;simp at this;rw[heq]at this;omega),rfl,rfl⟩)
 ·refine yU ?_
  refine xI _ _ (⟨V6,x6,hV6,by omega,heq,rfl,rfl⟩)
 rintro E1 H1 ⟨V,rc,hV,hrl,hne,rfl,rfl⟩
 dsimp only[cA,cN]
 refine zn ?_
 refine AW.g ?_
 refine G.freezeCell 1 0 5 rfl rfl rfl ?_
 refine AW.u ?_
 refine AW.g ?_
 dsimp only[List.eraseIdx,List.set]
 refine AW.u (zC (zC (zq ?_)))
 refine zb ?_
 refine zb ?_
 refine zb ?_
 refine AO.callMGw 1 rfl rfl Tryz.func33 rfl rfl rfl rfl rfl rfl (a0S _ l _ _ hl (by assumption) (by omega) (by omega)) ?_;rintro _ _ ⟨⟨z10,hz010,hz110,rfl⟩,kd10,hkd10,rfl⟩;dsimp only[cA,cN,List.eraseIdx]
 refine yi ?_
 refine vO (O.pickT rfl rfl rfl) (zH (zn ?_))
 refine ym (fun hz=> ?_) (fun hz=> ?_)<;>(try simp only[vU]at hz)
 ·refine zq ?_
  refine zb ?_
  refine AO.callMG 0 rfl rfl Tryz.func24 rfl rfl rfl rfl rfl rfl (d0g _ l _ 5 hl (by assumption) (by omega)) ?_
  rintro _ _ ⟨V11,x11,kd11,hx11,hV11,hkd11,rfl,rfl⟩
  dsimp only[cA,cN,List.eraseIdx]
  refine zt ?_
  refine zm 2 ?_
  refine zt ?_
  refine AO.g ?_
  refine yj 0 [36] ?_
  dsimp only[List.map,List.eraseIdx,cA,cN]
  refine AO.u ?_
  refine zm 1 (zH (zn (zC (zq ?_))))
  refine ve ?_
  refine zm 2 (zH (zn (y3 ?_)))
  refine AQ.retCell rfl rfl mM (by rfl) rfl ⟨_,by repeat(first|exact List.Sublist.slnil|refine List.Sublist.cons_cons _ ?_|refine List.Sublist.cons _ ?_),List.Perm.refl _⟩ (⟨⟨⟨sec,x4,true,x11,x5,rc⟩,⟨⟨by show 1≤sec.length;omega,by show sec.length≤64;omega,by show x4.length≤64;omega,by show x11.length≤16;omega,.inl rfl⟩,by show x5.length≤7;omega,by show rc.length≤7;omega,hne⟩,rfl⟩,_,hkd11,rfl⟩)
 refine yU (zn (zC (zq ?_)))
 refine ve ?_
 refine zm 2 (zH (zn (y3 ?_)))
 refine AQ.retCell rfl rfl mM (by rfl) rfl ⟨_,by repeat(first|exact List.Sublist.slnil|refine List.Sublist.cons_cons _ ?_|refine List.Sublist.cons _ ?_),List.Perm.refl _⟩ (⟨⟨⟨sec,x4,false,[],x5,rc⟩,⟨⟨by show 1≤sec.length;omega,by show sec.length≤64;omega,by show x4.length≤64;omega,by show([]:List UInt8).length≤16;simp,.inr rfl⟩,by show x5.length≤7;omega,by show rc.length≤7;omega,hne⟩,rfl⟩,_,hkd10,rfl⟩)
def x0k (r:AV):Prop:= ∃c,f0Z c∧r=h0w c
theorem j0q (b:Nat)(l:List Int)(k:Nat)(hl:l.length≤maxLen)(hk:k≤l.length):Sp Tryz.prog 12 [ptr b,.val (.bool true)] [i0t b l k] (Gen b l x0k):=by
 have hder: ∀x,e0K x→Sp Tryz.prog 54 [u0p x] [] (Is (.tup [h0w (u0e x),.val (.int .i64 0)])):=fun x hx=>by
  have h:=n0E x
  rw[show u0D x=(u0e x,0)from if_pos hx]at h
  exact h
 refine yH Tryz.func12 _ Tryz.ntmps12 (fun w0 R0=> ?_)
 refine zC (zq ?_)
 refine zd ?_
 intro B1
 refine zH (zn (zC (zq ?_)))
 refine zb ?_
 refine zb ?_
 refine AO.callMG 1 rfl rfl Tryz.func55 rfl rfl rfl rfl rfl rfl (n0p _ l _ hl hk) ?_
 rintro _ _ ⟨⟨x2,hx2,rfl⟩,kd2,hkd2,rfl⟩
 dsimp only[cA,cN,List.eraseIdx]
 refine vO (xD rfl Tryz.func54 rfl rfl rfl (hder _ (by assumption))) ?_
 refine zb ?_
 refine zW ?_
 refine zW ?_
 refine zd ?_
 intro B3
 refine za 0 ?_
 refine zc (zH (zn (zC (zq ?_))))
 refine zI ?_
 refine za 2 (zH (zn (y3 ?_)))
 refine AQ.retCell rfl rfl mM (by rfl) rfl ⟨_,by repeat(first|exact List.Sublist.slnil|refine List.Sublist.cons_cons _ ?_|refine List.Sublist.cons _ ?_),List.Perm.refl _⟩ (⟨⟨_,s0t hx2,rfl⟩,_,hkd2,rfl⟩)
theorem n0V (b:Bd):Sp Tryz.prog 19 [d0X b,d0X b] [] (Is (.val (.bool true))):=by
 refine yH Tryz.func19 _ Tryz.ntmps19 (fun w0 R0=> ?_)
 refine zC (zq ?_)
 refine z9 ?_
 intro B1
 refine z9 ?_
 intro B2
 refine zc (zH (zn (zC (zq ?_))))
 refine zt ?_
 refine zp ?_
 refine zt ?_
 refine zA ?_
 refine vO (xD rfl Tryz.func31 rfl rfl rfl (a0Y _ _)) ?_
 refine zb ?_
 refine zK ?_
 refine zT 11 ?_
 refine zK ?_
 refine zu 13 ?_
 refine AO.opG rfl rfl rfl (fun hp=>wP 12 rfl (by exact hp) (wP 14 rfl (by exact hp) (xD rfl Tryz.func31 rfl rfl rfl (a0Y _ _)))) ?_
 refine zN ?_
 refine zb ?_
 refine zK ?_
 refine zT 18 ?_
 refine zK ?_
 refine zu 20 ?_
 refine AO.opG rfl rfl rfl (fun hp=>wP 19 rfl (by exact hp) (wP 21 rfl (by exact hp) (O.eql rfl rfl rfl (by exact beq_iff_eq.2 (by omega))))) ?_
 refine zN ?_
 refine zc (zH (zn (y3 ?_)))
 refine vm rfl rfl nS (⟨by simp,rfl⟩)
def AllX (bs:List (List UInt8))(k:Nat):Prop:= ∀i,i<k→(bs.getD i []).length≤900
instance (bs:List (List UInt8))(k:Nat):Decidable (AllX bs k):=by unfold AllX;infer_instance
theorem AllX.succ {bs:List (List UInt8)}{k:Nat}(h:AllX bs k)(h2:(bs.getD k []).length≤900):AllX bs (k+1):=by
 intro i hi
 by_cases e:i=k
 ·subst e;exact h2
 exact h i (by omega)
def u0o (bs:List (List UInt8)):Bool:=decide (AllX bs bs.length∧bs.length≤20)
theorem s0G (bs:List (List UInt8)):Sp Tryz.prog 20 [t0q bs] [] (Is (.val (.bool (u0o bs)))):=by
 refine yH Tryz.func20 _ Tryz.ntmps20 (fun w0 R0=> ?_)
 refine AW.g ?_
 refine G.lenRo (t:=0) rfl (fun hm1=> ?_)
 refine AW.u ?_
 unfold maxLen at hm1
 refine zC (zq ?_)
 refine zc (zH (zn (zC (zC (zq ?_)))))
 refine zb ?_
 refine zZ ?_
 refine zb (zH (zn (xb ?_)))
 refine xT [(0,_),(5,_),(6,_)] (fun nn E H=> ∃(k:Nat),(k≤bs.length)∧(AllX bs k)∧nn=bs.length-k∧E= [(7,.val (.int .i64 (k:Int)))]∧H= []) _ (⟨0,by omega,(fun i hi=>absurd hi (by omega)),rfl,rfl,rfl⟩) ?_
 rintro nn E H ⟨k,h1,hA,rfl,rfl,rfl⟩
 dsimp only[cA,cN]
 refine zC (zq ?_)
 refine zR (zH (zn (zC ?_)))
 refine ym (fun h=> ?_) (fun h=> ?_)<;>(try simp only[vU]at h)
 ·have hk:k<bs.length:=by omega
  refine yU (zn (zC (xb (zC (zq ?_)))))
  refine yf ?_
  refine vO (O.loadR rfl rfl (by exact f0Q (by assumption) (by omega))) ?_
  refine zc (zH (zn (zC (zq ?_))))
  refine zb ?_
  refine vO (xD rfl Tryz.func53 rfl rfl rfl (e0Q _)) ?_
  refine xo (zH (zn ?_))
  refine ym (fun h2=> ?_) (fun h2=> ?_)<;>(try simp only[vU]at h2)
  ·have e:u0o bs=false:=decide_eq_false (fun hh=>by have h4:(vat bs k).length≤900:=hh.1 k hk;omega)
   refine zC (zq ?_)
   refine zc (zH (zn (y3 ?_)))
   refine wg (xh ?_)
   refine AQ.loopR ?_
   refine wg (xh ?_)
   refine vm rfl rfl nS (⟨by rw[e];rfl,rfl⟩)
  have hA2:=hA.succ (show(vat bs k).length≤900 by omega)
  refine yU (xA (zn (zq ?_)))
  refine zx ?_
  refine zb (zH ?_)
  refine xP _ _ _ (by omega) (⟨k+1,by omega,hA2,rfl,rfl,rfl⟩)
 obtain rfl:k=bs.length:=by omega
 refine wm ?_
 refine xY ?_
 refine wa ?_
 refine xq (zn (zC (zq ?_)))
 refine zb ?_
 refine zZ ?_
 refine vL ?_
 refine zc (zH (zn (y3 ?_)))
 refine vm rfl rfl nS (⟨by rw[u0o];simp[hA];omega,rfl⟩)
def q0H (m:Msg):List AV:= [.val (.int .i64 m.ty),.val (.int .i64 m.code),.val (.int .i64 m.id),roB m.tok,roO m.opts,roB m.pay]
theorem l0A (m:Msg):(q0H m).length=6:=rfl
def ms6 (ms:List Msg):List AV:=ms.flatMap q0H
def w0l (ms:List Msg):AV:= .ro false ms.length (ms6 ms)
abbrev s0g (ms:List Msg)(k:Nat):Msg:=ms.getD k Msg.none
theorem v0q {ms:List Msg}{k:Nat}(h:k<ms.length){j:Nat}(hj:j=k):((ms6 ms).drop (j*6)).take 6= [.val (.int .i64 (s0g ms k).ty),.val (.int .i64 (s0g ms k).code),.val (.int .i64 (s0g ms k).id),roB (s0g ms k).tok,roO (s0g ms k).opts,roB (s0g ms k).pay]:=e0m l0A Msg.none h hj
end Go.Proofs.YtojomcdjcpmnkaaGreat.By
